import Derived.Test.YtdbgifdfdhhjcaaGreatV13
import Derived.Test.YtdbgifdfdhhjcaaGreatV14
import Derived.Test.YtdbgifdfdhhjcaaGreatV07
set_option linter.unusedVariables false
set_option linter.unusedSimpArgs false
set_option linter.unusedSectionVars false
noncomputable section
namespace Go.Proofs.YtdbgifdfdhhjcaaGreat.Sh
section
open Go Go.Ab Go.RowKit
open Go.Proofs.YtdbgifdfdhhjcaaGreat.Ru (Pg yL)
set_option maxRecDepth 100000
noncomputable section
variable (Q:yO->AH->Prop) (ds:List AD) (n n1 n2:Nat) (x0 x1 x2 x3 x4 x5 x6 x7 x8 x25 x29 x30 x32 x34 x38 x40 x47 x48:V) (a0 a1 a2:V) (h:AH)
def B73:=bd Tryz.f73
def R73:List ResultVar:=[.tmp 4]
abbrev N73:=58
def K73:KT:=(sQ lF (sQ lF (jN (sQ lF (.one (.loop (jN (sQ lF (.two lF lF) [2,3,5,6,10]) (.one (jN (sQ lF (.two (sQ lF lF [2,3,5,6]) lF) [2,3,5,6,17]) (sQ lF (jN (sQ lF (.one (.loop (jN (jN (.rm [[2,3,5,6,7,8,25,29]]) (.two lF lF) [2,3,5,6,7,8,30]) (jN (.one (sQ lF (.two lF lF) [2,3,5,6,7,8,39])) lF [2,3,5,6,7,8]) [2,3,5,6,7,8]) [2,3,5,6,7,8])) [2,3,5,6,7,8]) (sQ (.nG [7,8,12]) lF [2,3,5,7]) [2,3,5,6,7]) [2,3,5,6,7]) [2,3,5,6])) [2,3,5,6]) [2,3,5,6])) [2,3,5,6]) (sQ lF lF [4]) [5]) [2,3,5]) [2,3])
def W73 (p l:List Nat) (e:zJ):Prop:=xG Pg N73 B73 K73 p l (zn Pg R73 Q) e h
def z87:Prop:=W73 Q h [1,1,0,1,0,0,1,0,1,1,0,1,0,0,1,1] [n,n1] [(2,x2),(3,x3),(5,x5),(6,x6),(7,x7),(8,x8)]
def zbE:Prop:=W73 Q h [1,1,0,1,0,0,1,0,1,1,0,1,0,0,1] [n,n1] [(2,x2),(3,x3),(5,x5),(6,x6),(7,x7),(8,x8)]
def zbG:Prop:=W73 Q h [1,1,0,1,0,0,1,0,1,1,1] [n] [(2,x2),(3,x3),(5,x5),(6,x6),(7,x7)]
def z74:Prop:=W73 Q h [1,1,0,1,0,0,1,0,1,1,0,1,0,0,0,1] [n,n1] [(2,x2),(3,x3),(5,x5),(6,x6),(7,x7),(8,x8),(30,x30)]
def z42:Prop:=yu Pg N73 B73 K73 [1,1,0,1,0,0,1,0,1,1,0,1,0,0,0,0] 2 1 [n,n1] (zn Pg R73 Q) [(2,x2),(3,x3),(5,x5),(6,x6),(7,x7),(8,x8),(25,x25),(29,x29)] h
def Iy:Prop:=xX Pg N73 B73 K73 [1,1,0,1,0,0,1,0,1,1,0,1,0] [n] n1 (zn Pg R73 Q) [(2,x2),(3,x3),(5,x5),(6,x6),(7,x7),(8,x8)] h
def z44:Prop:=W73 Q h [1,1,0,1,0,0,1,0,1] [n] [(2,x2),(3,x3),(5,x5),(6,x6)]
def z18:Prop:=W73 Q h [1,1,0,1,0,0,1] [n] [(2,x2),(3,x3),(5,x5),(6,x6)]
def zcu:Prop:=W73 Q h [1,1,1] [] [(5,x5)]
def GY:Prop:=xX Pg N73 B73 K73 [1,1,0,1,0] [] n (zn Pg R73 Q) [(2,x2),(3,x3),(5,x5),(6,x6)] h
theorem Ej:z87 Q n n1 x2 x3 x5 x6 x7 x8 h=(
 z0 (z03 (z0s .add 3 x8 (V.int .i64 1) true) h) λb c =>
 z7 (Iy Q n n1 x2 x3 x5 x6 x7 b c)):=K_
theorem Fz:zbE Q n n1 x2 x3 x5 x6 x7 x8 h=(
 zc (zj (z03 (z0w 73 x2 x8) h)) λb =>
 zc (zj (z0o h 5 b)) λc =>
 zc (zj (z03 (z0w 73 x3 x8) h)) λd =>
 zc (zj (z0o h 5 d)) λe =>
 zc (zj (z03 (z0s .neq 5 c e false) h)) λf =>
 zP f (
 z0 (z03 (z0s .add 3 x8 (V.int .i64 1) true) h) λg i =>
 z7 (z87 Q n n1 x2 x3 x5 x6 g x8 i)) (
 z7 (z87 Q n n1 x2 x3 x5 x6 x7 x8 h))):=K_
theorem CL:zbG Q n x2 x3 x5 x6 x7 h=(
 zc (zj (z03 (z0F h 3 5 x6) h)) λb =>
 (
 zc (zj (z03 (z0s .sub 3 x7 x6 false) h)) λc =>
 zc (zj (z03 (z0F h 3 5 c) h)) λd =>
 (
 z0 (yp Pg h 154 2 [(0,b),(1,d)]) λe f=>(
 z0 (z0u f .append [154,154] [x5,e]) λg i=>(
 zc (zj (z03 (yC Pg i 73 x3 (some x6) (some x7)) i)) λj =>
 (z03 (yC Pg h 73 x3 (some x6) (some x7)) h=some (j,h))/\(z03 (yC Pg f 73 x3 (some x6) (some x7)) f=some (j,f))/\(
 z0 (z0u i .append [154,154] [g,j]) λk l=>(
 z7 (GY Q n x2 x3 k x7 l)))))))):=K_
theorem Cn:z74 Q n n1 x2 x3 x5 x6 x7 x8 x30 h=(
 zP x30 (
 z7 (zbE Q n n1 x2 x3 x5 x6 x7 x8 h)) (
 z7 (zbG Q n x2 x3 x5 x6 x7 h))):=K_
theorem IE:z42 Q n n1 x2 x3 x5 x6 x7 x8 x25 x29 h=(
 z0 (yc x25 x29 (V.bool false) h) λb c =>
 z7 (z74 Q n n1 x2 x3 x5 x6 x7 x8 b c)):=K_
theorem RB:Iy Q n (n1+1) x2 x3 x5 x6 x7 x8 h=(
 z0 (z03 (z0s .lss 3 x8 (V.int .i64 64) true) h) λb c =>
 vp b true (
 z0 (z03 (z0s .add 3 x7 (V.int .i64 3) true) c) λd e =>
 z0 (z03 (z0s .lss 3 x8 d false) e) λf g =>
 z7 (z42 Q n n1 x2 x3 x5 x6 x7 x8 b f g)) (z7 (z42 Q n n1 x2 x3 x5 x6 x7 x8 b yw c))):=K_
theorem HZ:z44 Q n x2 x3 x5 x6 h=(
 z0 (z03 (z0s .add 3 x6 (V.int .i64 1) true) h) λb c =>
 ∃ n1,z7 (Iy Q n n1 x2 x3 x5 x6 b b c)):=K_
theorem RQ:z18 Q n x2 x3 x5 x6 h=(
 zc (zj (z03 (z0w 73 x2 x6) h)) λb =>
 zc (zj (z0o h 5 b)) λc =>
 zc (zj (z03 (z0w 73 x3 x6) h)) λd =>
 zc (zj (z0o h 5 d)) λe =>
 zc (zj (z03 (z0s .eql 5 c e false) h)) λf =>
 zP f (
 z0 (z03 (z0s .add 3 x6 (V.int .i64 1) true) h) λg i =>
 z7 (GY Q n x2 x3 x5 g i)) (
 z7 (z44 Q n x2 x3 x5 x6 h))):=K_
theorem Cg:zcu Q x5 h=(
 z0 (z03 (z0F h 154 9 x5) h) λb c =>
 Q (.ret b) c):=K_
theorem Bi:GY Q (n+1) x2 x3 x5 x6 h=(
 z0 (z03 (z0s .lss 3 x6 (V.int .i64 64) true) h) λb c =>
 zP b (
 z7 (z18 Q n x2 x3 x5 x6 c)) (
 z7 (zcu Q x5 c))):=K_
theorem C73 (c :
 z0 (z0G h 73 a0) λb c =>
 z0 (z0G c 73 a1) λd e =>
 ∃ n,z7 (GY Q n b d (V.y8 none 0) (V.int .i64 0) e)):z0q 73 [a0,a1] h Q :=
 mkC Tryz.func73 B73 N73 K73 R73 c
def z2H:=bd Tryz.f120
def Us:List ResultVar:=[.cell 4 73,.tmp 5]
abbrev z8C:=14
def z1q:KT:=(sQ lF (sQ lF (jN (sQ lF (.two (sQ lF lF [4,5]) lF) [4,6,11]) (sQ lF lF [4,5]) [4,6]) [1,4,6]) [1,2,4])
def z6a:Prop:=xG Pg z8C z2H z1q [1,1,1] [] (zn Pg Us Q) [(4,x4),(6,x6)] h
theorem Bl:z6a Q x4 x6 h=(
 z0 (z0o h 73 x6) λb c =>
 z0 (z0t c 73 x4 b) λ_ d =>
 yq (zX Pg [(4,x4),(5,(V.int .i64 0))] d Us) λv=>Q (.ret v) d):=K_
theorem C120 (c :
 z0 (z0G h 73 a0) λb c =>
 z0 (z0D c 73) λd e =>
 z0 (z0o e 73 b) λf g =>
 z0 (z0D g 73) λi j =>
 z0 (z0t j 73 i f) λ_ k =>
 z0q 151 [a1,(V.fn (.func 152) [] [i])] k (zS (λl m =>
 z0 (z03 (qd .not l) m) λo p =>
 zP o (
 z0 (z03 (z0y 73 []) p) λq r =>
 z0 (z0t r 73 d q) λ_ s =>
 yq (zX Pg [(4,d),(5,(V.int .i64 2))] s Us) λv=>Q (.ret v) s) (
 z7 (z6a Q d i p))) λv h=>Q (.panic v) h)):z0q 120 [a0,a1] h Q :=
 mkC Tryz.func120 z2H z8C z1q Us c
def Tu:=bd Tryz.f151
def Ov:List ResultVar:=[.tmp 4]
abbrev Nv:=68
def Tp:KT:=(sQ lF (sQ lF (jN (sQ lF (.one (.loop (jN (sQ lF (.two lF lF) [0,1,5,6,12]) (.one (jN (sQ lF (.two (sQ lF lF [4]) lF) [0,1,5,6,17]) (sQ lF (jN (jN (.rm [[0,1,6,7,8,29,32],[0,1,6,7,8,34,38],[0,1,6,7,8,40,47]]) (.two (sQ lF lF [4]) lF) [0,1,6,7,8,48]) (sQ lF (sQ lF lF [0,1,5,6,8]) [0,1,6,7,8]) [0,1,6,7,8]) [0,1,5,6,7,8]) [0,1,5,6])) [0,1,5,6]) [0,1,5,6])) [0,1,5,6]) (sQ lF lF [4]) []) [0,1,5]) [0,1])
def z5R (p:List Nat) (i g:Nat) (l:List Nat) (e:zJ):Prop:=yu Pg Nv Tu Tp p i g l (zn Pg Ov Q) e h
def MQ (p l:List Nat) (e:zJ):Prop:=xG Pg Nv Tu Tp p l (zn Pg Ov Q) e h
def z9K:Prop:=MQ Q h [1,1,0,1,0,0,1,0,1,1,1] [n] [(0,x0),(1,x1),(6,x6),(7,x7),(8,x8)]
def z7j:Prop:=MQ Q h [1,1,0,1,0,0,1,0,1,1,0,1] [n] [(0,x0),(1,x1),(6,x6),(7,x7),(8,x8),(48,x48)]
def Gzj:Prop:=z5R Q h [1,1,0,1,0,0,1,0,1,1,0,0] 6 3 [n] [(0,x0),(1,x1),(6,x6),(7,x7),(8,x8),(40,x40),(47,x47)]
def Gzi:Prop:=z5R Q h [1,1,0,1,0,0,1,0,1,1,0,0] 4 2 [n] [(0,x0),(1,x1),(6,x6),(7,x7),(8,x8),(34,x34),(38,x38)]
def Gzh:Prop:=z5R Q h [1,1,0,1,0,0,1,0,1,1,0,0] 2 1 [n] [(0,x0),(1,x1),(6,x6),(7,x7),(8,x8),(29,x29),(32,x32)]
def z9A:Prop:=MQ Q h [1,1,0,1,0,0,1,0,1] [n] [(0,x0),(1,x1),(5,x5),(6,x6)]
def z8j:Prop:=MQ Q h [1,1,0,1,0,0,1] [n] [(0,x0),(1,x1),(5,x5),(6,x6)]
def z27:Prop:=MQ Q h [1,1,1] [] []
def HR:Prop:=xX Pg Nv Tu Tp [1,1,0,1,0] [] n (zn Pg Ov Q) [(0,x0),(1,x1),(5,x5),(6,x6)] h
theorem Hg:z9K Q n x0 x1 x6 x7 x8 h=(
 z0 (z03 (z0s .add 3 x6 (V.int .i64 2) true) h) λb c =>
 z0 (z03 (z0s .add 3 x6 (V.int .i64 2) true) c) λd e =>
 z0 (z03 (z0s .add 3 d x8 false) e) λf g =>
 z0 (z03 (yC Pg g 9 x0 (some b) (some f)) g) λi j =>
 qc Pg x1 [x7,i] j (zS (λk l =>
 z0 (z03 (z0s .add 3 x7 x8 false) l) λm o =>
 z0 (z03 (z0s .add 3 m (V.int .i64 1) true) o) λp q =>
 z0 (z03 (z0s .add 3 (V.int .i64 2) x8 true) q) λr s =>
 z0 (z03 (z0s .add 3 x6 r false) s) λt u =>
 z7 (HR Q n x0 x1 p t u)) λv h=>Q (.panic v) h)):=K_
theorem Ei:z7j Q n x0 x1 x6 x7 x8 x48 h=(
 zP x48 (
 Q (.ret (V.bool false)) h) (
 z7 (z9K Q n x0 x1 x6 x7 x8 h))):=K_
theorem XL:Gzj Q n x0 x1 x6 x7 x8 x40 x47 h=(
 z0 (yc x40 (V.bool true) x47 h) λb c =>
 z7 (z7j Q n x0 x1 x6 x7 x8 b c)):=K_
theorem S0:Gzi Q n x0 x1 x6 x7 x8 x34 x38 h=(
 z0 (yc x34 (V.bool true) x38 h) λb c =>
 vp b false (
 z0 (z03 (z0s .add 3 x6 (V.int .i64 2) true) c) λd e =>
 z0 (z03 (z0s .add 3 d x8 false) e) λf g =>
 z0 (z0u g .len [9] [x0]) λi j =>
 z0 (z03 (z0s .gtr 3 f i false) j) λk l =>
 z7 (Gzj Q n x0 x1 x6 x7 x8 b k l)) (z7 (Gzj Q n x0 x1 x6 x7 x8 b yw c))):=K_
theorem KV:Gzh Q n x0 x1 x6 x7 x8 x29 x32 h=(
 z0 (yc x29 (V.bool true) x32 h) λb c =>
 vp b false (
 z0 (z03 (z0s .add 3 x7 x8 false) c) λd e =>
 z0 (z03 (z0s .gtr 3 d (V.int .i64 64) true) e) λf g =>
 z7 (Gzi Q n x0 x1 x6 x7 x8 b f g)) (z7 (Gzi Q n x0 x1 x6 x7 x8 b yw c))):=K_
theorem CC:z9A Q n x0 x1 x5 x6 h=(
 zc (zj (z03 (vN Pg 9 x0 x6) h)) λb =>
 zc (zj (z03 (z0F h 5 3 b) h)) λc =>
 zc (zj (z03 (z0s .add 3 x6 (V.int .i64 1) true) h)) λd =>
 zc (zj (z03 (vN Pg 9 x0 d) h)) λe =>
 zc (zj (z03 (z0F h 5 3 e) h)) λf =>
 z0 (z03 (z0s .lss 3 f (V.int .i64 1) true) h) λg i =>
 vp g false (
 z0 (z03 (z0s .lss 3 c x5 false) i) λj k =>
 z7 (Gzh Q n x0 x1 x6 c f g j k)) (z7 (Gzh Q n x0 x1 x6 c f g yw i))):=K_
theorem Gt:z8j Q n x0 x1 x5 x6 h=(
 z0 (z03 (z0s .add 3 x6 (V.int .i64 2) true) h) λb c =>
 z0 (z0u c .len [9] [x0]) λd e =>
 z0 (z03 (z0s .gtr 3 b d false) e) λf g =>
 zP f (
 Q (.ret (V.bool false)) g) (
 z7 (z9A Q n x0 x1 x5 x6 g))):=K_
theorem Eh:z27 Q h=(
 Q (.ret (V.bool true)) h):=K_
theorem QM:HR Q (n+1) x0 x1 x5 x6 h=(
 z0 (z0u h .len [9] [x0]) λb c =>
 z0 (z03 (z0s .lss 3 x6 b false) c) λd e =>
 zP d (
 z7 (z8j Q n x0 x1 x5 x6 e)) (
 z7 (z27 Q e))):=K_
theorem C151 (c :
 ∃ n,z7 (HR Q n a0 a1 (V.int .i64 0) (V.int .i64 0) h)):z0q 151 [a0,a1] h Q :=
 mkC Tryz.func151 Tu Nv Tp Ov c
def B152:=bd Tryz.f152
def R152:List ResultVar:=[]
abbrev N152:=9
def K152:KT:=lF
theorem C152 (c :
 z0 (z03 (yC Pg h 73 a2 (some a0) none) h) λb c =>
 z0 (z0u c .copy [154,9] [b,a1]) λd e =>
 Q (.ret (V.yX [])) e):z0q 152 [a0,a1,a2] h Q :=
 mkC Tryz.func152 B152 N152 K152 R152 c
end
end
open Go Go.Ab Go.RowKit
open Go.Proofs.YtdbgifdfdhhjcaaGreat.Ru (Pg yL)
set_option maxRecDepth 10000
set_option linter.unusedSectionVars false
def PS (d:List UInt8):Nat->Nat->Nat->List UInt8->Bool × List UInt8
 | 0,_,_,b=>(true,b)
 | f+1,next,i,b =>
  if d.length<=i then (true,b)
  else if d.length<i+2 then (false,b)
  else if (d.getD (i+1) 0).toNat<1\/(d.getD i 0).toNat<next\/64<(d.getD i 0).toNat+(d.getD (i+1) 0).toNat\/d.length<i+2+(d.getD (i+1) 0).toNat then (false,b)
  else PS d f ((d.getD i 0).toNat+(d.getD (i+1) 0).toNat+1) (i+(2+(d.getD (i+1) 0).toNat)) (wS b (d.getD i 0).toNat (64-(d.getD i 0).toNat) ((d.drop (i+2)).take (d.getD (i+1) 0).toNat))
theorem oA (d:List UInt8):∀ (f next i:Nat) (b:List UInt8),b.length=64->(PS d f next i b).2.length=64
 | 0,_,_,b,h=>h
 | f+1,next,i,b,h=>by
  unfold PS;split
  ·exact h
  ·split
   ·exact h
   ·split
    ·exact h
    ·rename_i h1 h2 h3;exact oA d f _ _ _ (by rw [rP O_,h])
abbrev lw (b:List UInt8):AO:=.cells true (.one 73) (.agg (zd b))
abbrev Kj (m:Nat):V:=.fn (.func 152) [] [.ptr (some ⟨m,.one 73,[]⟩)]
theorem Gj {h:AH} {m:Nat} {b s:List UInt8} {a:Nat} {Q:yO->AH->Prop} (hm:h.m m=some (lw b)) (hb:b.length=64) (ha:a<=64) (k:∀ h',lD h h' m (lw (wS b a (64-a) s))->Q (.ret (.yX [])) h') :
 z0q 152 [.int .i64 a,.str s,.ptr (some ⟨m,.one 73,[]⟩)] h Q:=by
 refine C152 _ _ _ _ _ ?_;refine z6 (eX (n:=64) hm K_ (a:=a) (b:=64) (tU O_) rfl O_ O_) ?_;exact zq (nL hm K_ O_) λh' u=>k h' u
section
variable {m:Nat} {Q:yO->AH->Prop} {d:List UInt8}
theorem z0a (hd:d.length<1000000):∀ (f next i:Nat) (b:List UInt8) (h:AH),d.length-i<f->i<=1000000->next<=1000->h.m m=some (lw b)->b.length=64 ->
 (∀ h',h'.next=h.next->(∀ n,n≠m->h'.m n=h.m n)->h'.m m=some (lw (PS d f next i b).2)->Q (.ret (.bool (PS d f next i b).1)) h') ->
 HR Q f (.str d) (Kj m) (.int .i64 next) (.int .i64 i) h
 | 0,_,_,_,_,hf,_,_,_,_,_=>by omega
 | f+1,next,i,b,h,hf,hi,hn,hm,hb,k=>by
  rw [QM];refine ze (ue K_) ?_;refine z6 vq ?_;unfold PS at k;by_cases c1:d.length<=i
  ·rw [decide_eq_false O_];apply yZ;refine sm (Eh _ _) ?_;simp only [if_pos c1] at k;exact k h rfl (λ_ _=>rfl) hm
  ·rw [decide_eq_true O_];apply xz;simp only [if_neg c1] at k;refine sm (Gt _ _ _ _ _ _ _) ?_;refine z6 (vu (zW O_ O_)) ?_;refine ze (ue K_) ?_;refine z6 qI ?_;by_cases c2:d.length<i+2
   ·rw [decide_eq_true O_];apply xz;simp only [if_pos c2] at k;exact k h rfl (λ_ _=>rfl) hm
   ·rw [decide_eq_false O_];apply yZ;simp only [if_neg c2] at k;obtain ⟨A,hA⟩:∃ A,(d.getD i 0).toNat=A:=⟨_,rfl⟩
    obtain ⟨B,hB⟩:∃ B,(d.getD (i+1) 0).toNat=B:=⟨_,rfl⟩
    have lA:A<256:=by rw [<- hA];exact UInt8.toNat_lt _
    have lB:B<256:=by rw [<- hB];exact UInt8.toNat_lt _
    rw [hA,hB] at k;refine sm (CC _ _ _ _ _ _ _) ?_;refine zg (js K_ O_) ?_;refine zg (t8 (d:=3) (k:=.i64) K_ (zW O_ O_)) ?_;refine zg (vu (zW O_ O_)) ?_;refine zg (show vN Pg 9 (.str d) (.int .i64 (((i+1:Nat)):Int))=_ from js K_ O_) ?_;refine zg (t8 (d:=3) (k:=.i64) K_ (zW O_ O_)) ?_;rw [hA,hB]
    -- the tests
    have stop:∀ x,x=true->(B<1\/A<next\/64<A+B\/d.length<i+2+B)->z7j Q f (.str d) (Kj m) (.int .i64 i) (.int .i64 A) (.int .i64 B) (.bool x) h:=by
     intro x hx c;subst hx;rw [Ei];apply xz;simp only [if_pos c] at k;exact k h rfl (λ_ _=>rfl) hm
    have go:∀ x,x=false->¬ (B<1\/A<next\/64<A+B\/d.length<i+2+B)->z7j Q f (.str d) (Kj m) (.int .i64 i) (.int .i64 A) (.int .i64 B) (.bool x) h:=by
     intro x hx c;subst hx;rw [Ei];apply yZ;simp only [if_neg c] at k;refine sm (Hg _ _ _ _ _ _ _ _) ?_;refine z6 (vu (zW O_ O_)) ?_;refine z6 (vu (zW O_ O_)) ?_;refine z6 (vu (zW O_ O_)) ?_;refine z6 (Z8 K_ (tU O_) (tU O_) O_ O_) ?_;have es:(d.drop ((i:Int)+2).toNat).take (((i:Int)+2+B).toNat-((i:Int)+2).toNat)=(d.drop (i+2)).take B:=by
      rw [show ((i:Int)+2).toNat=i+2 by omega,show ((i:Int)+2+B).toNat-(i+2)=B by omega]
     rw [es];show z0q 152 [.int .i64 A,.str ((d.drop (i+2)).take B),.ptr (some ⟨m,.one 73,[]⟩)] h _;refine Gj hm hb O_ λh1 u1=>?_;apply Uu;refine z6 (vu (zW O_ O_)) ?_;refine z6 (vu (zW O_ O_)) ?_;refine z6 (vu (zW O_ O_)) ?_;refine z6 (vu (zW O_ O_)) ?_;rw [show (A:Int)+B+1=((A+B+1:Nat):Int) by omega,show (i:Int)+(2+B)=((i+(2+B):Nat):Int) by omega];refine z7.of (z0a hd f (A+B+1) (i+(2+B)) _ h1 O_ O_ O_ u1.at_ (by rw [rP O_,hb]) λh' n' o' m'=>?_);exact k h' (by rw [n',u1.next]) (λn hn=>(o' n hn).trans (u1.other n hn)) m'
    refine z6 vq ?_;by_cases t1:B<1
    ·rw [decide_eq_true O_];apply tA;refine sm (KV _ _ _ _ _ _ _ _ _ _) ?_;refine ze gD (tA ?_);refine sm (S0 _ _ _ _ _ _ _ _ _ _) ?_;refine ze gD (tA ?_);refine sm (XL _ _ _ _ _ _ _ _ _ _) ?_;refine ze gD ?_;exact z7.of (stop _ rfl (.inl t1))
    ·rw [decide_eq_false O_];apply xc;refine z6 vq ?_;refine sm (KV _ _ _ _ _ _ _ _ _ _) ?_;refine ze j9 ?_;by_cases t2:A<next
     ·rw [decide_eq_true O_];apply tA;refine sm (S0 _ _ _ _ _ _ _ _ _ _) ?_;refine ze gD (tA ?_);refine sm (XL _ _ _ _ _ _ _ _ _ _) ?_;refine ze gD ?_;exact z7.of (stop _ rfl (.inr (.inl t2)))
     ·rw [decide_eq_false O_];apply xc;refine z6 (vu (zW O_ O_)) ?_;refine z6 qI ?_;refine sm (S0 _ _ _ _ _ _ _ _ _ _) ?_;refine ze j9 ?_;by_cases t3:64<A+B
      ·rw [decide_eq_true O_];apply tA;refine sm (XL _ _ _ _ _ _ _ _ _ _) ?_;refine ze gD ?_;exact z7.of (stop _ rfl (.inr (.inr (.inl t3))))
      ·rw [decide_eq_false O_];apply xc;refine z6 (vu (zW O_ O_)) ?_;refine z6 (vu (zW O_ O_)) ?_;refine ze (ue K_) ?_;refine z6 qI ?_;refine sm (XL _ _ _ _ _ _ _ _ _ _) ?_;refine ze j9 ?_;by_cases t4:d.length<i+2+B
       ·rw [decide_eq_true O_];exact z7.of (stop _ rfl (.inr (.inr (.inr t4))))
       ·rw [decide_eq_false O_];exact z7.of (go _ rfl O_)
end
def wD (b d:List UInt8):Bool × List UInt8:=PS d (d.length+1) 0 0 b
def mS (b d:List UInt8):V:=if (wD b d).1 then .yX [.agg (zd (wD b d).2),.int .i64 0] else .yX [.agg (zd (xM 64)),.int .i64 2]
theorem YT:xk Pg 73=some (.agg (zd (xM 64))):=K_
theorem z8Q:zD Pg 73 []=some (.agg (zd (xM 64))):=K_
theorem M8 {b d:List UInt8} (hb:b.length=64) (hd:d.length<1000000) (h:AH):z0q 120 [.agg (zd b),.str d] h (zO (mS b d) h):=by
 refine xa (by simp only [xU,xS,yW,Bool.and_self]) (by unfold mS;split <;> simp only [xS,xU,yW,Bool.and_self]) ?_ h;refine C120 _ _ _ _ ?_;refine zq (yl (vO hb)) λh1 u1=>?_;have n1:=u1.next;refine zq (yA YT (vO (zI 64))) λh2 u2=>?_;have n2:=u2.next;refine ze (zR (p:=[]) ((u2.other _ O_).trans u1.at_) K_ rfl) ?_;refine zq (yA YT (vO (zI 64))) λh3 u3=>?_;have n3:=u3.next;refine zq (zM (p:=[]) u3.at_ K_ rfl (vO hb) rfl) λh4 u4=>?_;have n4:=u4.next;have f2:h4.m h1.next=some (lw (xM 64)):=(u4.other _ O_).trans ((u3.other _ O_).trans u2.at_);refine C151 _ _ _ _ ?_;refine ⟨d.length+1,z7.of (z0a (m:=h2.next) hd (d.length+1) 0 0 b h4 O_ O_ O_ u4.at_ hb λh5 n5 o5 m5=>?_)⟩;apply Uu;refine z6 mT ?_;have f2':h5.m h1.next=some (lw (xM 64)):=(o5 _ O_).trans f2;by_cases c:(wD b d).1=true
 ·rw [show (PS d (d.length+1) 0 0 b).1=true from c];apply yZ;refine sm (Bl _ _ _ _) ?_;have l5:=oA d (d.length+1) 0 0 b hb;refine ze (zR (p:=[]) m5 K_ rfl) ?_;refine zq (zM (p:=[]) f2' K_ rfl (vO l5) rfl) λh6 u6=>?_;have q1:=zR (P:=Pg) (t:=73) (p:=[]) u6.at_ K_ (w:=.agg (zd (wD b d).2)) rfl;simp only [z9] at q1;have q2:=(zK q1).1;refine yr (show zX Pg _ _ Us=some [.agg (zd (wD b d).2),.int .i64 0] by simp [Us,zX,zJ.get,q2]) ?_;rw [mS,if_pos c];rfl
 ·rw [show (PS d (d.length+1) 0 0 b).1=false from Bool.eq_false_iff.2 c];apply xz;refine z6 z8Q ?_;refine zq (zM (p:=[]) f2' K_ rfl (vO (zI 64)) rfl) λh6 u6=>?_;have q1:=zR (P:=Pg) (t:=73) (p:=[]) u6.at_ K_ (w:=.agg (zd (xM 64))) rfl;simp only [z9] at q1;have q2:=(zK q1).1;refine yr (show zX Pg _ _ Us=some [.agg (zd (xM 64)),.int .i64 2] by simp [Us,zX,zJ.get,q2]) ?_;rw [mS,if_neg c];rfl
end Go.Proofs.YtdbgifdfdhhjcaaGreat.Sh
namespace Go.Proofs.YtdbgifdfdhhjcaaGreat.wT
open Go Go.Ab Go.RowKit
open Go.Proofs.YtdbgifdfdhhjcaaGreat.Ru (Pg yL)
open Go.Proofs.YtdbgifdfdhhjcaaGreat.Sh
set_option maxRecDepth 10000
set_option maxHeartbeats 2000000
def tW (im:List Int):Nat->Nat
 | 0=>0
 | n+1=>if im.getD n 0=0 then tW im n else n+1
theorem gN (im:List Int):∀ n,tW im n<=n
 | 0=>Nat.le_refl _
 | n+1=>by
  simp only [tW];split
  ·have:=gN im n;omega
  ·omega
theorem ia44 (n:Nat) (i:Int):zy Pg 33 (.ptr (some ⟨n,.one 95,[2]⟩)) (.int .i64 i)=(if (decide (0<=i/\i<224))=true then some (.ptr (some ⟨n,.one 95,[2,i.toNat]⟩)) else none):=K_
theorem ld44 (k:Nat):my Pg (.one 95) [2,k] 5=true:=K_
theorem z8V (r:Rc) (k:Nat) (hk:k<r.im.length):yF r.v [2,k]=some (.int .u8 (r.im.getD k 0)):=by
 have e:yF r.v [2,k]=match (r.im.map (V.int .u8))[k]? with | some x=>yF x [] | none=>none:=rfl
 rw [e,List.getElem?_map,List.getElem?_eq_getElem hk,List.getD_eq_getElem?_getD,List.getElem?_eq_getElem hk];rfl
abbrev p0:V:=.ptr (some ⟨xD.next,.one 95,[]⟩)
abbrev h1 (r:Rc):AH:=xD.make (.cells true (.one 95) r.v)
theorem z19 (r:Rc) (hi:r.im.length=224) (Q:yO->AH->Prop) (x4 x5:V) (h:AH) (hm:h.m xD.next=some (.cells true (.one 95) r.v)):∀ (k n:Nat),k<=224->k<n ->
 zcl Q p0 x4 x5 (.int .i64 (tW r.im k)) h->z4R Q n p0 x4 x5 (.int .i64 k) h:=by
 intro k;induction k with
 | zero =>
  intro n _ hn c;obtain ⟨n,rfl⟩:∃ m,n=m+1:=⟨n-1,O_⟩
  rw [z15];refine z6 qI ?_;refine qY (λhb=>by simp at hb) (λhb=>?_);rw [hb];refine sm (kF _ _ _ _ _ _ _ _ _) ?_;refine ze j9 ?_;refine sm (FW _ _ _ _ _ _ _ _) ?_;apply yZ;exact z7.of c
 | succ k ih =>
  intro n hk hn c;obtain ⟨n,rfl⟩:∃ m,n=m+1:=⟨n-1,O_⟩
  rw [z15];refine z6 qI ?_;have hg:decide (((k+1:Nat):Int)>0)=true:=by rw [decide_eq_true_eq];omega
  rw [hg];apply sE;refine z6 iF ?_;have hw:IntKind.i64.wrap (((k+1:Nat):Int)-1)=(k:Int):=by
   have e:∀ x:Int,IntKind.i64.wrap x=(if (true&&decide (x%18446744073709551616>=9223372036854775808))=true then x%18446744073709551616-18446744073709551616 else x%18446744073709551616):=λ_=>rfl;rw [e,Bool.true_and];rw [if_neg (by rw [decide_eq_true_eq];omega)];omega
  rw [hw];refine z6 (yM K_) ?_;refine z6 ((ia44 _ _).trans (if_pos (by simp;omega))) ?_;refine ze (zR (v:=r.v) hm (ld44 _) (z8V r _ (by rw [hi];simp;omega))) ?_;refine z6 qe ?_;refine sm (kF _ _ _ _ _ _ _ _ _) ?_;refine ze gD ?_;refine sm (FW _ _ _ _ _ _ _ _) ?_;refine wJ (λhb=>?_) (λhb=>?_)
  ·refine sm (RD _ _ _ _ _ _ _) ?_;refine z6 iF ?_;rw [hw];refine z7.of (ih n O_ O_ ?_);have h0:r.im.getD k 0=0:=by simpa using hb
   simp only [tW,h0,if_true] at c;exact c
  ·have h0:¬ r.im.getD k 0=0:=by simpa using hb
   simp only [tW,h0,if_false] at c;exact z7.of c
structure Rc.ok (r:Rc):Prop where
 im:r.im.length=224
 imb:∀ x∈r.im,0<=x/\x<256
 k:0<=r.k/\r.k<256
 no:0<=r.no/\r.no<65536
 ts:0<=r.ts/\r.ts<4294967296
 pp:0<=r.pp/\r.pp<65536
 ps:0<=r.ps/\r.ps<256
 dl:r.dl.length<140737488355328
 sl:0<=r.sl/\r.sl<256
 op:0<=r.op/\r.op<65536
 du:0<=r.du/\r.du<4294967296
 dv:0<=r.dv/\r.dv<65536
 Xa:0<=r.Xa/\r.Xa<256
 od:r.od.length<140737488355328
def c1 (x:Int):UInt8:=UInt8.ofNat x.toNat
def qM (l:List Int):List UInt8:=l.map c1
def Rc.enc (r:Rc):List UInt8 :=
 if r.k=1 then c1 r.k :: (if r.zU then 1 else 0) :: (lay 2 r.no++c1 (tW r.im 224) :: qM (r.im.take (tW r.im 224)))
 else if r.k=2 then c1 r.k :: (lay 2 r.no++(lay 4 r.ts++(lay 2 r.pp++c1 r.ps :: c1 r.dl.length :: r.dl)))
 else if r.k=3 then c1 r.k :: (lay 2 r.no++c1 r.sl :: (lay 2 r.op++(lay 4 r.du++(lay 2 r.dv++c1 r.Xa :: c1 r.od.length :: r.od))))
 else if r.k=6 then c1 r.k :: lay 4 r.ts
 else c1 r.k :: (lay 2 r.no++[c1 r.sl])
theorem w64 {x:Int} (h:0<=x) (h2:x<18446744073709551616):IntKind.u64.wrap x=x:=by rw [aM];omega
theorem My {x:Int} (h:0<=x) (h2:x<256):b1 x=c1 x:=by unfold b1 c1;congr 2;omega
theorem tz:∀ (n:Nat) (v:Int),(lay n v).length=n
 | 0,_=>rfl
 | n+1,v=>by simp [lay,tz n]
theorem bsc (h:AH) (n:Nat) (x:Int) (hm:h.m n=some (.cells true (.row 5) (.agg [.int .u8 x]))):y9 Pg h 154 9 (.y8 (some (⟨n,.row 5,[]⟩,0)) 1)=some (.str [c1 x]):=by
 have b:Dj 5 h (.y8 (some (⟨n,.row 5,[]⟩,0)) 1) [x]\/¬ n<h.next:=by
  by_cases hn:n<h.next
  ·exact .inl (.inr ⟨n,hn,rfl,hm⟩)
  ·exact .inr hn
 have e0:y9 Pg h 154 9 (.y8 (some (⟨n,.row 5,[]⟩,0)) 1)=(match xY Pg h 5 (.y8 (some (⟨n,.row 5,[]⟩,0)) 1) with | some es=>(match tM es with | some s=>some (.str s) | none=>none) | none=>none):=K_;have e1:=wV (P:=Pg) hm;simp only [List.length_singleton] at e1;rw [e0,e1];rfl
theorem slIm (h:AH) (n k:Nat) (r:Rc) (hi:r.im.length=224) (hk:k<=224) (hm:h.m n=some (.cells true (.one 95) r.v)):yC Pg h 33 (.ptr (some ⟨n,.one 95,[2]⟩)) none (some (.int .i64 (k:Int)))=some (.y8 (some (⟨n,.one 95,[2]⟩,0)) k):=by
 have e0:∀ o,yC Pg h 33 (.ptr (some ⟨n,.one 95,[2]⟩)) none (some o)=match h.m n with
  | some (.cells _ ty v)=>(match tN Pg ty [2],yF v [2],gJ none 0,gJ (some o) 224 with
   | some (_,u),some (.agg _),some l,some k=>if ty=.one 95/\l<=k/\k<=224/\(ul Pg 5).isSome/\Ur Pg u 224 5 then some (.y8 (some (⟨n,.one 95,[2]⟩,l)) (k-l)) else none
   | _,_,_,_=>none)
  | _=>none:=λo=>by kernel_rfl
 rw [e0,hm];have e1:tN Pg (.one 95) [2]=some (3,33):=z2W;have e2:yF r.v [2]=some (.agg (r.im.map (V.int .u8))):=rfl;have e3:gJ none 0=some 0:=rfl;have e4:gJ (some (.int .i64 (k:Int))) 224=some k:=by simp [gJ]
 have e5:Ur Pg 33 224 5=true:=K_;have e6:(ul Pg 5).isSome=true:=K_;simp only [e1,e2,e3,e4,e5,e6,hk,Nat.zero_le,and_self,if_true,Nat.sub_zero]
theorem cvIm (h:AH) (n k:Nat) (r:Rc) (hi:r.im.length=224) (hk:k<=224) (hm:h.m n=some (.cells true (.one 95) r.v)):y9 Pg h 154 9 (.y8 (some (⟨n,.one 95,[2]⟩,0)) k)=some (.str (qM (r.im.take k))):=by
 have e0:y9 Pg h 154 9 (.y8 (some (⟨n,.one 95,[2]⟩,0)) k)=(match xY Pg h 5 (.y8 (some (⟨n,.one 95,[2]⟩,0)) k) with | some es=>(match tM es with | some s=>some (.str s) | none=>none) | none=>none):=K_;have e1:Ab.rowAt Pg (.one 95) [2]=some (3,5):=K_;have e2:yF r.v [2]=some (.agg (r.im.map (V.int .u8))):=rfl;have e3:xY Pg h 5 (.y8 (some (⟨n,.one 95,[2]⟩,0)) k)=some ((r.im.take k).map (V.int .u8)):=by
  simp only [xY,hm,e1,e2,if_true,Nat.zero_add,List.length_map,hi,hk,and_self,List.drop_zero,List.map_take]
 rw [e0,e3];simp only [mF];rfl
theorem Aq {q:yO->Prop} {a b:List UInt8} {x:V} (c:q (.ret (.yX [.str a,x]))) (e:a=b):q (.ret (.yX [.str b,x])):=e▸c
theorem z1d (r:Rc) (o:r.ok) (k:Nat) (hk:k<=224) (q:yO->Prop) (a b:List UInt8) (ha:a.length<1000) (hb:b.length<1000) (h:AH) (hm:h.m xD.next=some (.cells true (.one 95) r.v))
 (c:q (.ret (.yX [.str (a++(if r.zU then 1 else 0) :: (b++b1 k :: qM (r.im.take k))),.int .i64 0]))):zcl (λe _=>q e) p0 (.str a) (.str b) (.int .i64 (k:Int)) h:=by
 have hl:(qM (r.im.take k)).length=k:=by
  have:=o.im;simp only [qM,List.length_map,List.length_take];omega
 rw [It];refine z6 (yM K_) ?_;refine z6 (yM K_) ?_;refine ze (zR hm K_ W_) ?_;have fin:∀ u:UInt8,q (.ret (.yX [.str (a++u :: (b++b1 k :: qM (r.im.take k))),.int .i64 0]))->z89 (λe _=>q e) p0 (.str a) (.str b) (.int .i64 (k:Int)) (.str [u]) h:=by
  intro u c;rw [Ht];refine z6 (qg (by simp only [List.length_singleton];omega)) ?_;refine z6 (qg (by simp only [List.length_append,List.length_singleton];omega)) ?_;refine z6 (yM K_) ?_;refine z6 (slIm _ _ _ r o.im hk hm) ?_;refine z6 (cvIm _ _ _ r o.im hk hm) ?_;refine vL (SB _ O_ _) ?_;refine z6 (qg (by simp only [List.length_append,List.length_singleton,List.length_cons,List.length_nil];omega)) ?_;rw [hl];refine Aq c ?_;simp only [List.append_assoc,List.singleton_append,List.cons_append,List.nil_append]
 refine wJ (λhu=>?_) (λhu=>?_)
 ·refine z7.of (fin 1 ?_);rw [hu] at c;exact c
 ·refine z7.of (fin 0 ?_);rw [hu] at c;exact c
def w9 (r:Rc):V:=if r.may=true then .yX [.str r.enc,.int .i64 0] else .yX [.str [],.int .i64 1]
theorem encC (r:Rc) (o:r.ok) (q:yO->Prop) (c:q (.ret (w9 r))):za Pg 87 [r.v] xD λe _=>q e:=by
 have hi:=o.im;refine C87 _ r.v xD ?_;refine ze (pH (qO _ hi)) ?_;refine ze (zR W_ K_ W_) ?_;refine vL (tE _ hi _) ?_;refine z6 mT ?_;refine wJ (λhb=>?_) (λhb=>?_)
 ·have hm:=z6H hb;unfold w9 at c;rw [if_neg (by rw [hm];decide)] at c;exact c
 have hm:=z6A hb;unfold w9 at c;rw [if_pos hm] at c;have hd:r.dl.length<=66/\r.od.length<=66/\r.k>=1/\r.k<=6:=by
  unfold Rc.may at hm;simp only [Bool.and_eq_true,decide_eq_true_eq] at hm;omega
 obtain ⟨hd1,hd2,hk1,hk6⟩:=hd;refine sm (QE _ _ _) ?_;have wno:IntKind.u64.wrap r.no=r.no:=w64 o.no.1 (by have:=o.no.2;omega);have wts:IntKind.u64.wrap r.ts=r.ts:=w64 o.ts.1 (by have:=o.ts.2;omega);have wpp:IntKind.u64.wrap r.pp=r.pp:=w64 o.pp.1 (by have:=o.pp.2;omega);have wop:IntKind.u64.wrap r.op=r.op:=w64 o.op.1 (by have:=o.op.2;omega);have wot:IntKind.u64.wrap r.du=r.du:=w64 o.du.1 (by have:=o.du.2;omega);have bd:b1 (r.dl.length:Int)=c1 r.dl.length:=My O_ O_;have bo:b1 (r.od.length:Int)=c1 r.od.length:=My O_ O_;have bt:b1 (tW r.im 224:Int)=c1 (tW r.im 224):=by
  have:=gN r.im 224;exact My O_ O_
 have uc:∀ x:Int,UInt8.ofNat x.toNat=c1 x:=λ_=>rfl;have won:IntKind.u64.wrap r.dv=r.dv:=w64 o.dv.1 (by have:=o.dv.2;omega)
 repeat' (first
  | (with_reducible refine vL (tE _ hi _) ?_)
  | (with_reducible refine vL (LB _ _) ?_)
  | (with_reducible refine vL (Av _ _) ?_)
  | (with_reducible refine ⟨_,LB _ _,?_⟩)
  | (with_reducible refine ⟨_,Av _ _,?_⟩)
  | (with_reducible refine ⟨_,refP _ _ _,?_⟩)
  | (with_reducible refine ⟨_,SB _ O_ _,?_⟩)
  | (with_reducible refine vL (SB _ O_ _) ?_)
  | (with_reducible refine wM (z8X _) ?_)
  | (with_reducible refine ze (bs1 _ _) ?_)
  | (with_reducible refine z6 (bsc _ _ _ W_) ?_)
  | (with_reducible refine z6 (qg (by simp only [List.length_append,List.length_cons,List.length_nil,tz,qM,List.length_map,List.length_take];omega)) ?_)
  | (with_reducible refine zg (qg (by simp only [List.length_append,List.length_cons,List.length_nil,tz,qM,List.length_map,List.length_take];omega)) ?_)
  | (refine ⟨225,z7.of (z19 r hi _ _ _ _ W_ 224 225 D_ D_ (z1d r o _ (gN _ _) q _ _ S_ (by simp [tz]) _ W_ ?_))⟩)
  | (with_reducible refine z6 (yM K_) ?_)
  | (with_reducible refine zg (yM K_) ?_)
  | (with_reducible refine ze (zR W_ K_ W_) ?_)
  | (with_reducible refine zN (zR W_ K_ W_) ?_)
  | (with_reducible refine ze (ru W_ K_ W_ K_ W_) ?_)
  | (with_reducible refine z6 d6 ?_)
  | (with_reducible refine zg d6 ?_)
  | (with_reducible refine z6 iF ?_)
  | (with_reducible refine zg iF ?_)
  | (with_reducible refine z6 Z3 ?_)
  | (with_reducible refine zg Z3 ?_)
  | (with_reducible refine z6 qe ?_)
  | (with_reducible refine zg qe ?_)
  | (with_reducible refine z6 nl ?_)
  | (with_reducible refine zg nl ?_)
  | (with_reducible refine z6 vq ?_)
  | (with_reducible refine zg vq ?_)
  | (with_reducible refine z6 eH ?_)
  | (with_reducible refine zg eH ?_)
  | (with_reducible refine z6 qI ?_)
  | (with_reducible refine zg qI ?_)
  | (with_reducible refine z6 rB ?_)
  | (with_reducible refine zg rB ?_)
  | (with_reducible refine z6 aN ?_)
  | (with_reducible refine zg aN ?_)
  | (with_reducible refine z6 bP ?_)
  | (with_reducible refine zg bP ?_)
  | (with_reducible refine z6 mT ?_)
  | (with_reducible refine zg mT ?_)
  | (with_reducible refine z6 (Qz D_) ?_)
  | (with_reducible refine z6 (Uz D_) ?_)
  | (with_reducible refine z6 (xV .u64 K_) ?_)
  | (with_reducible refine zg (xV .u64 K_) ?_)
  | (with_reducible refine z6 (xV .i64 K_) ?_)
  | (with_reducible refine zg (xV .i64 K_) ?_)
  | (with_reducible refine z6 (xV .u8 K_) ?_)
  | (with_reducible refine zg (xV .u8 K_) ?_)
  | (with_reducible refine z6 (xV .u16 K_) ?_)
  | (with_reducible refine zg (xV .u16 K_) ?_)
  | (with_reducible refine z6 (xV .u32 K_) ?_)
  | (with_reducible refine zg (xV .u32 K_) ?_)
  | (with_reducible refine ze (ue K_) ?_)
  | (with_reducible refine zN (ue K_) ?_)
  | (with_reducible refine ze gD ?_)
  | (with_reducible refine zN gD ?_)
  | (with_reducible refine ze j9 ?_)
  | (with_reducible refine zN j9 ?_)
  | (with_reducible refine ze (fP _ _ _ _) ?_)
  | (with_reducible refine zN (fP _ _ _ _) ?_)
  | (with_reducible refine sE ?_)
  | (with_reducible refine jo ?_)
  | (with_reducible refine tA ?_)
  | (with_reducible refine xc ?_)
  | (with_reducible refine aQ ?_)
  | (with_reducible refine xz ?_)
  | (with_reducible refine yZ ?_)
  | ((with_reducible refine wJ ?_ ?_) <;> intro hb <;> (try rw [hb]))
  | ((with_reducible refine qY ?_ ?_) <;> intro hb <;> (try rw [hb]))
  | ((with_reducible refine pj ?_ ?_) <;> intro hb <;> (try rw [hb]))
  | (with_reducible refine sm (RD _ _ _ _ _ _ _) ?_)
  | (with_reducible refine sm (Ht _ _ _ _ _ _ _) ?_)
  | (with_reducible refine sm (It _ _ _ _ _ _) ?_)
  | (with_reducible refine sm (FW _ _ _ _ _ _ _ _) ?_)
  | (with_reducible refine sm (kF _ _ _ _ _ _ _ _ _) ?_)
  | (with_reducible refine sm (GR _ _ _ _ _) ?_)
  | (with_reducible refine sm (QE _ _ _) ?_)
  )
 all_goals (
  simp only [beq_iff_eq,beq_eq_false_iff_ne,ne_eq] at *;refine Aq c ?_;unfold Rc.enc
  repeat (first | rw [if_pos (by assumption)] | rw [if_neg (by assumption)])
  simp only [wno,wts,wpp,wop,wot,won,bd,bo,bt,uc,List.append_assoc,List.singleton_append,List.cons_append,List.nil_append])
theorem rS (r:Rc) (o:r.ok) (h:AH):za Pg 87 [r.v] h (zO (w9 r) h):=by
 refine xa (gQ r) ?_ (encC r o (λe=>e=.ret (w9 r)) rfl) h;unfold w9;split <;> rfl
end Go.Proofs.YtdbgifdfdhhjcaaGreat.wT
namespace Go.Proofs.YtdbgifdfdhhjcaaGreat.Sh
section
open Go Go.Ab Go.RowKit
open Go.Proofs.YtdbgifdfdhhjcaaGreat.Ru (Pg yL)
set_option maxRecDepth 100000
noncomputable section
variable (Q:yO->AH->Prop) (ds:List AD) (n n1 n2:Nat) (x0 x3 x4 x5 x6 x8 x9 x10 x11 x14 x15 x18 x21 x23 x27 x28 x43 x47 x48 x51:V) (a0 a1 a2:V) (h:AH)
def B90:=bd Tryz.f90
def NW:List ResultVar:=[.cell 6 33,.tmp 7]
abbrev N90:=85
def K90:KT:=(sQ lF (sQ lF (jN (jN (.rm [[3,4,5,6,8,18,21],[3,4,5,6,8,23,27]]) (.two (sQ lF lF [6,7]) lF) [3,4,5,6,8,28]) (jN (sQ lF (.two lF lF) [3,4,5,6,8,32]) (jN (sQ lF (.two (sQ lF lF [6,7]) lF) [3,4,5,6,8,36]) (sQ lF (jN (sQ lF (.two (sQ lF lF [6,7]) lF) [3,5,6,8,9,10,52]) (jN (sQ lF (.two (sQ lF (jN (sQ lF (.two (sQ lF lF [6,7]) lF) [3,5,6,8,9,11,12,67]) (.nG [6,8,10]) [3,5,6,8,9,11]) [3,5,6,8,9,11,12]) lF) [3,5,6,8,9,57]) (sQ lF (sQ lF lF [6,7]) [3,6,9]) [3,5,6,9]) [3,5,6,8,9]) [3,5,6,8,9,10]) [3,4,5,6,8]) [3,4,5,6,8]) [3,4,5,6,8]) [3,4,5,6,8]) [3,4,5,6])
def W90 (p l:List Nat) (e:zJ):Prop:=xG Pg N90 B90 K90 p l (zn Pg NW Q) e h
def GC:Prop:=W90 Q h [1,1,1,1,1,1,1,1] [] [(3,x3),(5,x5),(6,x6),(9,x9)]
def z9t:Prop:=W90 Q h [1,1,1,1,1,1,1,0,1,0,1,1] [] [(3,x3),(5,x5),(6,x6),(8,x8),(9,x9),(11,x11)]
def z9T:Prop:=W90 Q h [1,1,1,1,1,1,1] [] [(3,x3),(5,x5),(6,x6),(8,x8),(9,x9)]
def z7M:Prop:=W90 Q h [1,1,1,1,1] [] [(3,x3),(4,x4),(5,x5),(6,x6),(8,x8)]
def z2J:Prop:=W90 Q h [1,1,1,1] [] [(3,x3),(4,x4),(5,x5),(6,x6),(8,x8)]
def z7h:Prop:=W90 Q h [1,1,1] [] [(3,x3),(4,x4),(5,x5),(6,x6),(8,x8)]
def z7B:Prop:=W90 Q h [1,1,0,1] [] [(3,x3),(4,x4),(5,x5),(6,x6),(8,x8),(28,x28)]
def z2B:Prop:=yu Pg N90 B90 K90 [1,1,0,0] 4 2 [] (zn Pg NW Q) [(3,x3),(4,x4),(5,x5),(6,x6),(8,x8),(23,x23),(27,x27)] h
def z3q:Prop:=yu Pg N90 B90 K90 [1,1,0,0] 2 1 [] (zn Pg NW Q) [(3,x3),(4,x4),(5,x5),(6,x6),(8,x8),(18,x18),(21,x21)] h
theorem Bj:GC Q x3 x5 x6 x9 h=(
 z0 (z03 (z0e 97 x5 0) h) λb c =>
 z0 (z0o c 47 b) λd e =>
 z0 (z03 (z0e 163 x9 0) e) λf g =>
 z0 (z0t g 47 f d) λ_ i =>
 z0 (z03 (z0e 43 x3 1) i) λj k =>
 z0 (z0o k 41 j) λl m =>
 z0 (z0o m 163 x9) λo p =>
 z0q 97 [l,o] p (zS (λq r =>
 z0 (z0t r 33 x6 q) λ_ s =>
 yq (zX Pg [(6,x6),(7,(V.int .i64 0))] s NW) λv=>Q (.ret v) s) λv h=>Q (.panic v) h)):=K_
theorem DN:z9t Q x3 x5 x6 x8 x9 x11 h=(
 zc (zj (z03 (z0e 95 x8 3) h)) λb =>
 zc (zj (z0o h 56 b)) λc =>
 (
 zc (zj (z03 (z0e 95 x8 4) h)) λd =>
 zc (zj (z0o h 58 d)) λe =>
 (
 zc (zj (z0o h 73 x11)) λf =>
 (
 zc (zj (z03 (z0e 163 x9 1) h)) λg =>
 z0 (z0t h 56 g c) λ_ i=>(z0o i 73 x11=some (f,i))/\(z0o i 58 d=some (e,i))/\(
 zc (zj (z03 (z0e 163 x9 2) i)) λj =>
 z0 (z0t i 58 j e) λ_ k=>(z0o k 73 x11=some (f,k))/\(
 zc (zj (z03 (z0e 163 x9 3) k)) λl =>
 z0 (z0t k 73 l f) λ_ m=>(
 z7 (GC Q x3 x5 x6 x9 m)))))))):=K_
theorem FA:z9T Q x3 x5 x6 x8 x9 h=(
 z0 (z03 (z0e 95 x8 0) h) λb c =>
 z0 (z0o c 5 b) λd e =>
 z0 (z03 (z0s .eql 5 d (V.int .u8 2) true) e) λf g =>
 zP f (
 z0 (z03 (z0e 163 x9 3) g) λi j =>
 z0 (z0o j 73 i) λk l =>
 z0 (z03 (z0e 95 x8 5) l) λm o =>
 z0 (z0o o 9 m) λp q =>
 z0q 120 [k,p] q (zS (λr s =>
 z0 (z03 (zm r 0) s) λt u =>
 z0 (z03 (zm r 1) u) λw y =>
 z0 (z0D y 73) λz A =>
 z0 (z0t A 73 z t) λ_ B =>
 z0 (z03 (z0s .neq 36 w (V.int .i64 0) true) B) λC D =>
 zP C (
 z0 (z03 (z0y 33 []) D) λE F =>
 z0 (z0t F 33 x6 E) λ_ G =>
 yq (zX Pg [(6,x6),(7,w)] G NW) λv=>Q (.ret v) G) (
 z7 (z9t Q x3 x5 x6 x8 x9 z D))) λv h=>Q (.panic v) h)) (
 z7 (GC Q x3 x5 x6 x9 g))):=K_
theorem Pu:z7M Q x3 x4 x5 x6 x8 h=(
 z0 (z03 (z0e 43 x3 1) h) λb c =>
 z0 (z0o c 41 b) λd e =>
 z0 (z0o e 33 x4) λf g =>
 z0q 69 [d,f] g (zS (λi j =>
 z0 (z03 (zm i 0) j) λk l =>
 z0 (z03 (zm i 1) l) λm o =>
 z0 (z0D o 163) λp q =>
 z0 (z0t q 163 p k) λ_ r =>
 z0 (z03 (z0s .neq 36 m (V.int .i64 0) true) r) λs t =>
 zP s (
 z0 (z03 (z0y 33 []) t) λu w =>
 z0 (z0t w 33 x6 u) λ_ y =>
 yq (zX Pg [(6,x6),(7,m)] y NW) λv=>Q (.ret v) y) (
 z7 (z9T Q x3 x5 x6 x8 p t))) λv h=>Q (.panic v) h)):=K_
theorem Fg:z2J Q x3 x4 x5 x6 x8 h=(
 z0 (z03 (z0e 43 x3 0) h) λb c =>
 z0 (z0o c 4 b) λd e =>
 zP d (
 z0 (z03 (z0e 43 x3 1) e) λf g =>
 z0 (z0o g 41 f) λi j =>
 z0 (z0o j 33 x4) λk l =>
 z0 (z0o l 97 x5) λm o =>
 z0q 134 [i,k,m] o (zS (λp q =>
 z0 (z03 (zm p 0) q) λr s =>
 z0 (z03 (zm p 1) s) λt u =>
 z0 (z0t u 33 x6 r) λ_ w =>
 yq (zX Pg [(6,x6),(7,t)] w NW) λv=>Q (.ret v) w) λv h=>Q (.panic v) h)) (
 z7 (z7M Q x3 x4 x5 x6 x8 e))):=K_
theorem GA:z7h Q x3 x4 x5 x6 x8 h=(
 z0 (z03 (z0e 95 x8 0) h) λb c =>
 z0 (z0o c 5 b) λd e =>
 z0 (z03 (z0s .eql 5 d (V.int .u8 1) true) e) λf g =>
 zP f (
 z0 (z03 (z0e 95 x8 2) g) λi j =>
 z0 (z0o j 33 i) λk l =>
 z0 (z0t l 33 x4 k) λ_ m =>
 z7 (z2J Q x3 x4 x5 x6 x8 m)) (
 z7 (z2J Q x3 x4 x5 x6 x8 g))):=K_
theorem QN:z7B Q x3 x4 x5 x6 x8 x28 h=(
 zP x28 (
 z0 (z03 (z0y 33 []) h) λb c =>
 z0 (z0t c 33 x6 b) λ_ d =>
 yq (zX Pg [(6,x6),(7,(V.int .i64 1))] d NW) λv=>Q (.ret v) d) (
 z7 (z7h Q x3 x4 x5 x6 x8 h))):=K_
theorem QH:z2B Q x3 x4 x5 x6 x8 x23 x27 h=(
 z0 (yc x23 (V.bool true) x27 h) λb c =>
 z7 (z7B Q x3 x4 x5 x6 x8 b c)):=K_
theorem WN:z3q Q x3 x4 x5 x6 x8 x18 x21 h=(
 z0 (yc x18 (V.bool true) x21 h) λb c =>
 vp b false (
 z0 (z03 (z0e 95 x8 1) c) λd e =>
 z0 (z0o e 43 d) λf g =>
 z0 (z0o g 43 x3) λi j =>
 z0 (z03 (z0s .neq 43 f i false) j) λk l =>
 z7 (z2B Q x3 x4 x5 x6 x8 b k l)) (z7 (z2B Q x3 x4 x5 x6 x8 b yw c))):=K_
theorem C90 (c :
 z0 (z0G h 43 a0) λb c =>
 z0 (z0G c 33 a1) λd e =>
 z0 (z0G e 97 a2) λf g =>
 z0 (z0D g 33) λi j =>
 z0 (z03 (z0e 97 f 1) j) λk l =>
 z0 (z0o l 95 k) λm o =>
 z0 (z0D o 95) λp q =>
 z0 (z0t q 95 p m) λ_ r =>
 z0 (z0o r 95 p) λs t =>
 z0q 89 [s] t (zS (λu w =>
 z0 (z03 (qd .not u) w) λy z =>
 vp y false (
 z0 (z03 (z0e 95 p 0) z) λA B =>
 z0 (z0o B 5 A) λC D =>
 z0 (z03 (z0s .eql 5 C (V.int .u8 6) true) D) λE F =>
 z7 (z3q Q b d f i p y E F)) (z7 (z3q Q b d f i p y yw z))) λv h=>Q (.panic v) h)):z0q 90 [a0,a1,a2] h Q :=
 mkC Tryz.func90 B90 N90 K90 NW c
def Gv:=bd Tryz.f134
def dE:List ResultVar:=[.cell 6 33,.tmp 7]
abbrev z2x:=77
def DW:KT:=(sQ lF (sQ lF (jN (sQ lF (.two (sQ lF lF [6,7]) lF) [0,5,6,8,9,24]) (sQ lF (jN (sQ lF (.one (sQ lF (.two (sQ lF (jN (jN (.rm [[0,5,6,8,11,43,47]]) (.two (sQ lF lF [6,7]) lF) [0,5,6,8,11,48]) lF [0,5,6,8,11]) [0,5,6,8,10,11,12,13]) (jN (sQ lF (.two lF lF) [0,5,6,8,10,30,51]) (.two (sQ lF (jN (sQ lF (.two lF lF) [0,5,6,8,10,14,56]) (sQ lF (jN (sQ lF (.two (sQ lF lF [6,7]) lF) [0,5,6,8,15,66]) lF [0,5,6,8,15]) [0,5,6,8,15,16]) [0,5,6,8,10,14]) [0,5,6,8,10,14]) lF) [0,5,6,8,10,51])) [0,5,6,8,10,30,31])) [0,5,6,8,10,30]) (sQ lF (sQ lF lF [6,7]) [0,6,8]) [0,5,6,8]) [0,5,6,8,10]) [0,5,6,8]) [0,5,6,8,9]) [0,4,5,6])
def R3 (p l:List Nat) (e:zJ):Prop:=xG Pg z2x Gv DW p l (zn Pg dE Q) e h
def z6y:Prop:=R3 Q h [1,1,1,1,1] [] [(0,x0),(5,x5),(6,x6),(8,x8)]
def z9d:Prop:=R3 Q h [1,1,1,1,0,1,0,1,0,1,1] [] [(0,x0),(5,x5),(6,x6),(8,x8),(11,x11)]
def zcf:Prop:=R3 Q h [1,1,1,1,0,1,0,1,0,1,0,1] [] [(0,x0),(5,x5),(6,x6),(8,x8),(11,x11),(48,x48)]
def Gze:Prop:=yu Pg z2x Gv DW [1,1,1,1,0,1,0,1,0,1,0,0] 2 1 [] (zn Pg dE Q) [(0,x0),(5,x5),(6,x6),(8,x8),(11,x11),(43,x43),(47,x47)] h
def Nc:Prop:=R3 Q h [1,1,1,1,0,1,0,1,1,1,0,1,1,1,1] [] [(0,x0),(5,x5),(6,x6),(8,x8),(15,x15)]
def z8q:Prop:=R3 Q h [1,1,1,1,0,1,0,1,1,1,0,1,1] [] [(0,x0),(5,x5),(6,x6),(8,x8),(10,x10),(14,x14)]
def z1H:Prop:=R3 Q h [1,1,1,1,0,1,0,1,1,1] [] [(0,x0),(5,x5),(6,x6),(8,x8),(10,x10),(51,x51)]
def zcn:Prop:=R3 Q h [1,1,1] [] [(0,x0),(5,x5),(6,x6),(8,x8)]
theorem Bw:z6y Q x0 x5 x6 x8 h=(
 z0 (z03 (z0e 97 x5 0) h) λb c =>
 z0 (z0o c 47 b) λd e =>
 z0 (z03 (z0e 50 x8 0) e) λf g =>
 z0 (z0t g 47 f d) λ_ i =>
 z0 (z0o i 50 x8) λj k =>
 z0q 96 [x0,j] k (zS (λl m =>
 z0 (z03 (zm l 0) m) λo p =>
 z0 (z03 (zm l 1) p) λq r =>
 z0 (z0t r 33 x6 o) λ_ s =>
 yq (zX Pg [(6,x6),(7,q)] s dE) λv=>Q (.ret v) s) λv h=>Q (.panic v) h)):=K_
theorem CR:z9d Q x0 x5 x6 x8 x11 h=(
 z0 (z0o h 50 x11) λb c =>
 z0 (z0t c 50 x8 b) λ_ d =>
 z7 (z6y Q x0 x5 x6 x8 d)):=K_
theorem Bv:zcf Q x0 x5 x6 x8 x11 x48 h=(
 zP x48 (
 z0 (z03 (z0y 33 []) h) λb c =>
 z0 (z0t c 33 x6 b) λ_ d =>
 yq (zX Pg [(6,x6),(7,(V.int .i64 2))] d dE) λv=>Q (.ret v) d) (
 z7 (z9d Q x0 x5 x6 x8 x11 h))):=K_
theorem TT:Gze Q x0 x5 x6 x8 x11 x43 x47 h=(
 z0 (yc x43 (V.bool true) x47 h) λb c =>
 z7 (zcf Q x0 x5 x6 x8 x11 b c)):=K_
theorem Eo:Nc Q x0 x5 x6 x8 x15 h=(
 z0 (z0o h 50 x15) λb c =>
 z0 (z0t c 50 x8 b) λ_ d =>
 z7 (z6y Q x0 x5 x6 x8 d)):=K_
theorem DM:z8q Q x0 x5 x6 x8 x10 x14 h=(
 z0 (z0o h 50 x8) λb c =>
 z0 (z03 (z0e 95 x10 6) c) λd e =>
 z0 (z0o e 5 d) λf g =>
 qc Pg x14 [b,f] g (zS (λi j =>
 z0 (z03 (zm i 0) j) λk l =>
 z0 (z03 (zm i 1) l) λm o =>
 z0 (z0D o 50) λp q =>
 z0 (z0t q 50 p k) λ_ r =>
 z0 (z03 (z0s .neq 36 m (V.int .i64 0) true) r) λs t =>
 zP s (
 z0 (z03 (z0y 33 []) t) λu w =>
 z0 (z0t w 33 x6 u) λ_ y =>
 yq (zX Pg [(6,x6),(7,(V.int .i64 2))] y dE) λv=>Q (.ret v) y) (
 z7 (Nc Q x0 x5 x6 x8 p t))) λv h=>Q (.panic v) h)):=K_
theorem Dw:z1H Q x0 x5 x6 x8 x10 x51 h=(
 zP x51 (
 z0 (z03 (z0e 95 x10 0) h) λb c =>
 z0 (z0o c 5 b) λd e =>
 z0 (z03 (z0s .eql 5 d (V.int .u8 5) true) e) λf g =>
 zP f (
 z7 (z8q Q x0 x5 x6 x8 x10 (V.fn (.func 155) [] []) g)) (
 z7 (z8q Q x0 x5 x6 x8 x10 (V.fn (.func 154) [] []) g))) (
 z7 (z6y Q x0 x5 x6 x8 h))):=K_
theorem F4:zcn Q x0 x5 x6 x8 h=(
 z0 (z03 (z0e 97 x5 1) h) λb c =>
 z0 (z0o c 95 b) λd e =>
 z0 (z0D e 95) λf g =>
 z0 (z0t g 95 f d) λ_ i =>
 z0 (z03 (z0e 95 f 0) i) λj k =>
 z0 (z0o k 5 j) λl m =>
 z0 (z03 (z0s .eql 5 l (V.int .u8 3) true) m) λo p =>
 zP o (
 z0 (z0o p 50 x8) λq r =>
 z0 (z03 (z0e 95 f 7) r) λs t =>
 z0 (z0o t 60 s) λu w =>
 z0q 75 [q,u] w (zS (λy z =>
 z0 (z03 (zm y 0) z) λA B =>
 z0 (z03 (zm y 1) B) λC D =>
 z0 (z03 (zm y 2) D) λE F =>
 z0 (z0D F 50) λG H =>
 z0 (z0t H 50 G A) λ_ I =>
 z0 (z03 (z0s .neq 36 E (V.int .i64 0) true) I) λJ K =>
 vp J false (
 z0 (z03 (z0e 95 f 6) K) λL M =>
 z0 (z0o M 5 L) λO P =>
 z0 (z03 (z0s .neq 5 C O false) P) λR S =>
 z7 (Gze Q x0 x5 x6 x8 G J R S)) (z7 (Gze Q x0 x5 x6 x8 G J yw K))) λv h=>Q (.panic v) h)) (
 z0 (z03 (z0s .eql 5 l (V.int .u8 4) true) p) λT U =>
 zP T (
 z7 (z1H Q x0 x5 x6 x8 f T U)) (
 z0 (z03 (z0s .eql 5 l (V.int .u8 5) true) U) λW X =>
 z7 (z1H Q x0 x5 x6 x8 f W X)))):=K_
theorem C134 (c :
 z0 (z0G h 33 a1) λb c =>
 z0 (z0G c 97 a2) λd e =>
 z0 (z0D e 33) λf g =>
 z0 (z0o g 33 b) λi j =>
 z0q 19 [a0,i] j (zS (λk l =>
 z0 (z03 (zm k 0) l) λm o =>
 z0 (z03 (zm k 1) o) λp q =>
 z0 (z0D q 50) λr s =>
 z0 (z0t s 50 r m) λ_ t =>
 z0 (z03 (z0s .neq 36 p (V.int .i64 0) true) t) λu w =>
 zP u (
 z0 (z03 (z0y 33 []) w) λy z =>
 z0 (z0t z 33 f y) λ_ A =>
 yq (zX Pg [(6,f),(7,p)] A dE) λv=>Q (.ret v) A) (
 z7 (zcn Q a0 d f r w))) λv h=>Q (.panic v) h)):z0q 134 [a0,a1,a2] h Q :=
 mkC Tryz.func134 Gv z2x DW dE c
end
end
open Go Go.Ab Go.RowKit
open Go.Proofs.YtdbgifdfdhhjcaaGreat.Ru (Pg yL)
open Go.Proofs.YtdbgifdfdhhjcaaGreat.wT (Rc nE uV uD uL qM c1 tE qO yR)
set_option maxRecDepth 10000
set_option maxHeartbeats 4000000
set_option linter.unusedSectionVars false
theorem z9H {l:List Int} (h:∀ x∈l,0<=x/\x<256):nE l=.agg (zd (qM l)):=by
 unfold nE zd qM;congr 1;rw [List.map_map];refine List.map_congr_left λx hx=>?_;have:=h x hx;show V.int .u8 x=.int .u8 ((UInt8.ofNat x.toNat).toNat:Nat);congr 1;rw [UInt8.toNat_ofNat_of_lt' (by simp [UInt8.size];omega)];omega
theorem C7 (l:List Int):(qM l).length=l.length:=by simp [qM]
def Rc.Zy (r:Rc) (p:List UInt8):List UInt8:=if r.k=1 then qM r.im else p
def Pq (r:Rc) (zZ:Nat) (d:Dt) (b:List UInt8):Dt:=if r.k=2 then ⟨zZ,r.ts.toNat,r.pp.toNat,c1 r.ps,b⟩ else { d with zZ:=zZ }
def ao (no:Nat) (p:List UInt8) (zZ:Nat) (r:Rc):Option (List UInt8) :=
 if ¬ ur no (Rc.Zy r p) then none
 else if r.k=2/\(wD (rq (Rc.Zy r p)).body r.dl).1=false then none
 else some (rF no (Pq r zZ (rq (Rc.Zy r p)) (wD (rq (Rc.Zy r p)).body r.dl).2))
def oe:Option (List UInt8)->V
 | some p=>.yX [.agg (zd p),.int .i64 0]
 | none=>.yX [.agg (zd (xM 224)),.int .i64 2]
def dI (zZ:Nat) (r:Rc):V:=.agg [.int .u64 zZ,r.v]
theorem MJ (zZ:Nat) {r:Rc} (h:r.im.length=224):zf Pg (dI zZ r) 97=true:=by
 have:zf Pg (dI zZ r) 97=(zf Pg r.v 95&&true):=K_;rw [this,qO r h];rfl
theorem z1V (a b:Bool) (m n:Nat):wW (vM a m) (vM b n)=some (decide (a=b/\m=n)):=by
 rw [show wW (vM a m) (vM b n)=some ((a == b)&&(((m:Int) == (n:Int))&&true)) from wT.V8 (wT.xP wT.A1 (wT.xP wT.kY wT.qX))];congr 1;rw [Bool.eq_iff_iff];simp only [Bool.and_true,Bool.and_eq_true,beq_iff_eq,decide_eq_true_eq];exact and_congr_right λ_=>⟨λh=>by omega,λh=>by omega⟩
theorem z3Q (a b:Bool) (m n:Nat) (c:Bool):zi Pg .neq 43 (vM a m) (vM b n) c=some (.bool (!(decide (a=b/\m=n)))):=by
 have h1:zi Pg .neq 43 (vM a m) (vM b n) c=if kT Pg 43 (vM a m) (vM b n) c=true then (WH Pg 43 (vM a m) (vM b n)).map (λb=>.bool (!b)) else none:=rfl
 have h2:kT Pg 43 (vM a m) (vM b n) c=true:=K_;have h3:yz Pg 20 43=true:=K_;rw [h1,h2,if_pos rfl];unfold WH;rw [h3,if_pos rfl,je,je,z1V];rfl
theorem qu (a:Bool) (m:Nat) (c:Bool):zi Pg .neq 43 (vM a m) (vM a m) c=some (.bool false):=by rw [z3Q];simp
theorem Oq:zD Pg 33 []=some (.agg (zd (xM 224))):=K_
theorem SQ:xk Pg 95=some (wT.rz 0):=wT.Rj
theorem OW (o:Option (List UInt8)):xS (oe o)=true:=by
 cases o <;> simp only [oe,xS,xU,yW,Bool.and_self]
theorem PK {no:Nat} {p:List UInt8} (h:ur no p):qK no p=.yX [(rq p).v,.int .i64 0]:=by rw [qK,if_pos h]
theorem P0 {no:Nat} {p:List UInt8} (h:¬ ur no p):qK no p=.yX [Dt.z.v,.int .i64 2]:=by rw [qK,if_neg h]
theorem UL {b d:List UInt8} (h:(wD b d).1=true):mS b d=.yX [.agg (zd (wD b d).2),.int .i64 0]:=by rw [mS,if_pos h]
theorem VZ {b d:List UInt8} (h:(wD b d).1=false):mS b d=.yX [.agg (zd (xM 64)),.int .i64 2]:=by rw [mS,if_neg (by rw [h];decide)]
theorem Tq (k:Int) (u:Bool) (n:Nat) (im:List Int) (ts pp ps:Int) (dl:List UInt8) (sl:Int) (lv:Bool) (op du dv Xa:Int) (od:List UInt8) :
 (⟨k,u,n,im,ts,pp,ps,dl,sl,lv,op,du,dv,Xa,od⟩:Rc).v=.agg [.int .u8 k,vM u n,nE im,.int .u32 ts,.agg [.int .u16 pp,.int .u8 ps],.str dl,.int .u8 sl,uD lv op du dv Xa od]:=rfl
theorem z9E {no zZ:Nat} {p:List UInt8} (r:Rc) (hp:p.length=224) (vk:no<65536) (hl:zZ<18446744073709551616) (o:r.ok) (hm:r.may=true) (hu:r.zU=false) (hn:r.no=no) (hk:r.k=2) (q:yO->Prop) (c:q (.ret (oe (ao no p zZ r)))) :
 z0q 90 [vM false no,.agg (zd p),dI zZ r] xD λe _=>q e:=by
 have sp:=je false no;have sy:=xf hp;have se:=MJ zZ o.im;have sr:=qO r o.im;have sr0:zf Pg (wT.rz 0) 95=true:=wT.V9 0;have sd0:=tL kW;have hmp:=tE r o.im;rw [hm] at hmp;obtain ⟨ots1,ots2⟩:=o.ts;obtain ⟨opp1,opp2⟩:=o.pp;obtain ⟨ops1,ops2⟩:=o.ps;have hk6:¬ r.k=6:=by rw [hk];decide
 have hk1:¬ r.k=1:=by rw [hk];decide
 unfold ao Rc.Zy Pq at c;simp only [if_neg hk1,if_pos hk] at c;simp only [hk,true_and] at c;have odl:r.dl.length<=66:=by
  unfold Rc.may at hm;simp only [Bool.and_eq_true,decide_eq_true_eq] at hm;exact hm.1.2
 have lsn0:0<=(zZ:Int):=O_;obtain ⟨k,u,rn,im,ts,pp,ps,dl,sl,lv,op,du,dv,Xa,od⟩:=r;simp only at hu hn hk hk1 hk6 c ots1 ots2 opp1 opp2 ops1 ops2 odl;subst hu hn hk;rw [Tq] at hmp sr;unfold dI at *;rw [Tq] at se;rw [Tq];have sbz:=vO (zI 64);have spz:=xf (zI 224);refine C90 _ _ _ _ _ ?_;refine ze (pH sp) ?_;refine ze (pH sy) ?_;refine ze (pH se) ?_;refine ze (jd na spz) ?_;refine z6 (yM K_) ?_;refine ze (zR W_ K_ rfl) ?_;refine ze (jd SQ sr0) ?_;refine ze (ru (p:=[]) W_ K_ rfl sr rfl) ?_;refine ze (zR (p:=[]) W_ K_ rfl) ?_;refine vL (hmp _) ?_;have pO:=λh=>ME (no:=no) (p:=p) hp vk h;by_cases e1:ur no p
 ·simp only [e1,not_true_eq_false,if_false] at c;rw [PK e1] at pO;have hdo:=rZ hp;obtain ⟨d,hd⟩:∃ d,rq p=d:=⟨_,rfl⟩
  rw [hd] at pO hdo c;obtain ⟨dlsn,dts,dpp,dps,T4⟩:=d;have sd:=tL hdo;have hap:=λh=>M8 (b:=T4) (d:=dl) hdo.body O_ h;simp only at c hap;by_cases c2:(wD T4 dl).1=true
  ·rw [UL c2] at hap;have l2:=oA dl (dl.length+1) 0 0 T4 hdo.body;obtain ⟨b2,Y1⟩:∃ b2,(wD T4 dl).2=b2:=⟨_,rfl⟩
   rw [show (PS dl (dl.length+1) 0 0 T4).2=b2 from Y1] at l2;rw [Y1] at hap c;have sb2:=vO l2;simp only [c2,Bool.true_eq_false,if_false] at c;have ok3:Dt.ok ⟨zZ,ts.toNat,pp.toNat,c1 ps,b2⟩:=⟨hl,by show ts.toNat<_;omega,by show pp.toNat<_;omega,l2⟩
   have sh3:zf Pg (.int .u32 ts) 56=true:=K_;have e3:(⟨zZ,ts.toNat,pp.toNat,c1 ps,b2⟩:Dt).v=.agg [.int .u64 zZ,.int .u32 ts,.agg [.int .u16 pp,.int .u8 ps],.agg (zd b2)]:=by
    show V.agg [.int .u64 zZ,.int .u32 (ts.toNat:Nat),.agg [.int .u16 (pp.toNat:Nat),.int .u8 ((UInt8.ofNat ps.toNat).toNat:Nat)],.agg (zd b2)]=_;rw [show ((ts.toNat:Nat):Int)=ts by omega,show ((pp.toNat:Nat):Int)=pp by omega,UInt8.toNat_ofNat_of_lt' (by simp [UInt8.size];omega),show ((ps.toNat:Nat):Int)=ps by omega]
   have BP:=λh=>At vk ok3 h;have sq:=xf (pL no (d:=⟨zZ,ts.toNat,pp.toNat,c1 ps,b2⟩));rw [e3] at BP;apply wq;apply xc;refine zx K_ ?_;refine zl W_ K_ W_ ?_;refine yB O_ ?_;refine sm (WN ..) ?_;apply yi;apply xc;refine zx K_ ?_;refine zl W_ K_ W_ ?_;refine zl W_ K_ W_ ?_;refine z6 (qu _ _ _) ?_;refine sm (QH ..) ?_;apply yi;refine sm (QN ..) ?_;apply yZ;refine sm (GA ..) ?_;refine zx K_ ?_;refine zl W_ K_ W_ ?_;refine yB O_ ?_;apply yZ;refine sm (Fg ..) ?_;refine zx K_ ?_;refine zl W_ K_ W_ ?_;apply yZ;refine sm (Pu ..) ?_;refine zx K_ ?_;refine zl W_ K_ W_ ?_;refine zl W_ K_ W_ ?_;refine vL (pO _) ?_;apply wj;apply wl;refine ze (jd PD sd0) ?_;refine ze (ru W_ K_ W_ sd W_) ?_;refine yx O_ ?_;apply yZ;refine sm (FA ..) ?_;refine zx K_ ?_;refine zl W_ K_ W_ ?_;refine xn O_ ?_;apply xz;refine zx K_ ?_;refine zl W_ K_ W_ ?_;refine zx K_ ?_;refine zl W_ K_ W_ ?_;refine vL (hap _) ?_;apply wj;apply wl;refine ze (jd YT sbz) ?_;refine ze (ru W_ K_ W_ sb2 W_) ?_;refine yx O_ ?_;apply yZ;refine sm (DN ..) ?_;refine ym K_ ?_;refine zY W_ K_ W_ ?_;refine ym K_ ?_;refine zY W_ K_ W_ ?_;refine zY W_ K_ W_ ?_;refine ym K_ ?_;refine ze (ru W_ K_ W_ sh3 W_) ?_;refine ox W_ K_ W_ ?_;refine ox W_ K_ W_ ?_;refine ym K_ ?_;refine ze (ru W_ K_ W_ K_ W_) ?_;refine ox W_ K_ W_ ?_;refine ym K_ ?_;refine ze (ru W_ K_ W_ sb2 W_) ?_;refine sm (Bj ..) ?_;refine zx K_ ?_;refine zl W_ K_ W_ ?_;refine zx K_ ?_;refine ze (ru W_ K_ W_ K_ W_) ?_;refine zx K_ ?_;refine zl W_ K_ W_ ?_;refine zl W_ K_ W_ ?_;refine vL (BP _) ?_;refine ze (ru W_ K_ W_ sq W_) ?_;refine yr W_ ?_;exact c
  ·have c2':=Bool.eq_false_iff.2 c2;rw [VZ c2'] at hap;simp only [c2',if_true] at c;apply wq;apply xc;refine zx K_ ?_;refine zl W_ K_ W_ ?_;refine yB O_ ?_;refine sm (WN ..) ?_;apply yi;apply xc;refine zx K_ ?_;refine zl W_ K_ W_ ?_;refine zl W_ K_ W_ ?_;refine z6 (qu _ _ _) ?_;refine sm (QH ..) ?_;apply yi;refine sm (QN ..) ?_;apply yZ;refine sm (GA ..) ?_;refine zx K_ ?_;refine zl W_ K_ W_ ?_;refine yB O_ ?_;apply yZ;refine sm (Fg ..) ?_;refine zx K_ ?_;refine zl W_ K_ W_ ?_;apply yZ;refine sm (Pu ..) ?_;refine zx K_ ?_;refine zl W_ K_ W_ ?_;refine zl W_ K_ W_ ?_;refine vL (pO _) ?_;apply wj;apply wl;refine ze (jd PD sd0) ?_;refine ze (ru W_ K_ W_ sd W_) ?_;refine yx O_ ?_;apply yZ;refine sm (FA ..) ?_;refine zx K_ ?_;refine zl W_ K_ W_ ?_;refine xn O_ ?_;apply xz;refine zx K_ ?_;refine zl W_ K_ W_ ?_;refine zx K_ ?_;refine zl W_ K_ W_ ?_;refine vL (hap _) ?_;apply wj;apply wl;refine ze (jd YT sbz) ?_;refine ze (ru W_ K_ W_ sbz W_) ?_;refine xe O_ ?_;apply xz;refine z6 Oq ?_;refine ze (ru W_ K_ W_ spz W_) ?_;refine yr W_ ?_;exact c
 ·simp only [e1,not_false_eq_true,if_true] at c;rw [P0 e1] at pO;apply wq;apply xc;refine zx K_ ?_;refine zl W_ K_ W_ ?_;refine yB O_ ?_;refine sm (WN ..) ?_;apply yi;apply xc;refine zx K_ ?_;refine zl W_ K_ W_ ?_;refine zl W_ K_ W_ ?_;refine z6 (qu _ _ _) ?_;refine sm (QH ..) ?_;apply yi;refine sm (QN ..) ?_;apply yZ;refine sm (GA ..) ?_;refine zx K_ ?_;refine zl W_ K_ W_ ?_;refine yB O_ ?_;apply yZ;refine sm (Fg ..) ?_;refine zx K_ ?_;refine zl W_ K_ W_ ?_;apply yZ;refine sm (Pu ..) ?_;refine zx K_ ?_;refine zl W_ K_ W_ ?_;refine zl W_ K_ W_ ?_;refine vL (pO _) ?_;apply wj;apply wl;refine ze (jd PD sd0) ?_;refine ze (ru W_ K_ W_ sd0 W_) ?_;refine xe O_ ?_;apply xz;refine z6 Oq ?_;refine ze (ru W_ K_ W_ spz W_) ?_;refine yr W_ ?_;exact c
theorem zbd {no zZ:Nat} {p:List UInt8} (r:Rc) (hp:p.length=224) (vk:no<65536) (hl:zZ<18446744073709551616) (o:r.ok) (hm:r.may=true) (hu:r.zU=false) (hn:r.no=no) (hk:r.k=2) (h:AH) :
 z0q 90 [vM false no,.agg (zd p),dI zZ r] h (zO (oe (ao no p zZ r)) h) :=
 xa (by simp only [vM,dI,xU,xS,yW,yR,Bool.and_self]) (OW _) (z9E r hp vk hl o hm hu hn hk (λe=>e=.ret _) rfl) h
open Go.Proofs.YtdbgifdfdhhjcaaGreat.wT (Rc nE uV uD uL qM c1 tE rS w9 qO yR)
structure ZO where
 zH:Nat
 zU:Nat
 log:Nat
 z0Y:Nat
structure cp where
 c:ZD
 pc:Nat
 pr:Nat
def cfV (f:ZO):V:=.agg [.int .i64 f.zH,.int .i64 f.zU,.int .i64 f.log,.int .u32 f.z0Y]
abbrev OY (p:Nat):V:=.ptr (some ⟨p,.one 161,[]⟩)
def bsV (n:cp) (f:ZO):V:=.agg [pU n.c.d,fM n.c.l,j4 n.pc,OY n.pr,cfV f]
abbrev fD (p:Nat):V:=.ptr (some ⟨p,.one 127,[]⟩)
structure BsA (h:AH) (p:Nat) (n:cp) (f:ZO) (c:Ca):Prop where
 base:h.m p=some (.cells true (.one 127) (bsV n f))
 ca:gF h n.pc n.c c
 o:p<h.next
abbrev TBs:xr:=(0,127,0) :: TCa
theorem BsA.zA {T:xr} {h h':AH} {p:Nat} {n:cp} {f:ZO} {c:Ca} (k:BsA h p n f c) (q:zb T h h') (ht:dC TBs T=true):BsA h' p n f c:=by
 obtain ⟨k1,k2,o⟩:=k;have:=q.next;refine ⟨q.at k1 o (yv ht rfl),k2.zA q ?_,O_⟩;unfold dC at ht ⊢;rw [List.all_cons,Bool.and_eq_true] at ht;exact ht.2
theorem BsA.pQ {T:xr} {h h':AH} {p:Nat} {n:cp} {f:ZO} {c c':Ca} (k:BsA h p n f c) (q:zb T h h') (ht:T.contains (0,127,0)=false) (a:gF h' n.pc n.c c'):BsA h' p n f c' :=
 ⟨q.at k.base k.o ht,a,by have:=q.next;have:=k.o;omega⟩
theorem gF.ok {h:AH} {p:Nat} {n:ZD} {c:Ca} (k:gF h p n c):c.ok:=by obtain ⟨lv,k⟩:=k;exact k.ok
theorem N1 (p:Nat):zi Pg .eql 24 (fD p) (.ptr none) true=some (.bool false):=K_
section
variable {h:AH} {p:Nat} {n:cp} {f:ZO} {c:Ca}
theorem z9D (k:BsA h p n f c):z0q 31 [fD p] h (zO (fM n.c.l) h):=by
 have f0:=k.base;refine C31 _ _ _ ?_;refine z6 (N1 p) ?_;apply yZ;refine sm (E5 ..) ?_;apply yb;refine zx K_ ?_;refine zl f0 K_ rfl ?_;exact ⟨rfl,rfl⟩
theorem jY (k:BsA h p n f c):z0q 14 [fD p] h (zO (j4 n.pc) h):=by
 have f0:=k.base;refine C14 _ _ _ ?_;refine z6 (N1 p) ?_;apply yZ;refine sm (He ..) ?_;apply yb;refine zx K_ ?_;refine zl f0 K_ rfl ?_;exact ⟨rfl,rfl⟩
theorem z3l (no:Nat) {x:List UInt8} (hx:x.length=224) (v:V) (h:AH):z0q 93 [v,vM false no,.agg (zd x)] h (xj [] h (.yX []) λ_=>True):=by
 refine C93 _ _ _ _ _ ?_;refine zq (yl (je false no)) λh1 u1=>?_;have n1:=u1.next;have q1:zb [] h h1:=zb.new u1;refine zq (yl (xf hx)) λh2 u2=>?_;have q2:zb [] h1 h2:=zb.new u2;have f1:=q2.at u1.at_ O_ rfl;refine zx K_ ?_;refine zl f1 K_ (w:=.bool false) rfl ?_;apply yZ;exact ⟨rfl,q1.trans q2,trivial⟩
end
def lf (no:Nat) (p:List UInt8):Rc:={ Rc.z 1 with no:=no,im:=p.map λb=>(b.toNat:Int) }
theorem I3 (p:List UInt8):nE (p.map λb=>(b.toNat:Int))=.agg (zd p):=by
 unfold nE zd;rw [List.map_map];rfl
theorem GS {no:Nat} {p:List UInt8} (vk:no<65536) (hp:p.length=224):(lf no p).ok:=by
 refine ⟨by simpa [lf] using hp,λx hx=>?_,by simp [lf,Rc.z],⟨by show (0:Int)<=(no:Int);omega,by show (no:Int)<65536;omega⟩,by simp [lf,Rc.z],by simp [lf,Rc.z],by simp [lf,Rc.z],by simp [lf,Rc.z],by simp [lf,Rc.z],by simp [lf,Rc.z],by simp [lf,Rc.z],by simp [lf,Rc.z],by simp [lf,Rc.z],by simp [lf,Rc.z]⟩;simp only [lf,List.mem_map] at hx;obtain ⟨b,_,rfl⟩:=hx;have:=b.toNat_lt;omega
def Ca.xm (c:Ca) (i:vd):Ca:=match xI c.at_ i with
 | some j=>{ c with ck:={ c.ck with pins:=c.ck.pins.set j (c.ck.pins.getD j 0-1) } }
 | none=>c
def Ca.oL (c:Ca) (i:vd) (x:List UInt8):Ca:=match xI c.at_ i with
 | some j=>{ c with fr:=c.fr.set j ((c.frame j).put x) }
 | none=>c
def Ca.holds (c:Ca) (i:vd) (x:List UInt8):Prop:=∃ j,xI c.at_ i=some j/\j<c.fr.length/\0<c.ck.pins.getD j 0/\(c.frame j).p=x
theorem gY {c:Ca} {j:Nat} (hj:j<c.ck.pins.length):0<(c.hold j).ck.pins.getD j 0:=by
 unfold Ca.hold;simp [List.getD_eq_getElem?_getD,List.getElem?_set,hj]
def Ca.laid (c:Ca) (no:Nat) (r:Rc) (x:List UInt8):Rc:=if c.clean (false,no) then lf no x else r
structure Ca.fit (c:Ca):Prop where
 ops:c.dk.ops<900000000000
 pins:∀ x∈c.ck.pins,x<900000
 num:c.lg.num<4294960000
 fin:c.lg.fin<18446744073709000000
 zB:c.lg.zB.length<=900000
 xJ:c.lg.xJ.length<214
theorem Cv {r:Rc} (hm:r.may=true) (o:r.ok):r.enc.length<1000000:=by
 unfold Rc.may at hm;simp only [Bool.and_eq_true,decide_eq_true_eq] at hm;obtain ⟨⟨⟨⟨h1,h2⟩,h3⟩,h4⟩,h5⟩:=hm;have hi:=o.im;have ht:wT.tW r.im 224<=224:=by
  have:∀ (l:List Int) (n:Nat),wT.tW l n<=n:=by
   intro l n;induction n with
   | zero=>exact Nat.le_refl _
   | succ n ih=>unfold wT.tW;split <;> omega
  exact this _ _
 unfold Rc.enc;split
 ·simp only [List.length_cons,List.length_append,wT.tz,wT.qM,List.length_map,List.length_take];omega
 ·split
  ·simp only [List.length_cons,List.length_append,wT.tz];omega
  ·split
   ·simp only [List.length_cons,List.length_append,wT.tz];omega
   ·split
    ·simp only [List.length_cons,wT.tz];omega
    ·simp only [List.length_cons,List.length_append,wT.tz,List.length_nil];omega
section
variable {h:AH} {p:Nat} {n:cp} {f:ZO} {c:Ca}
theorem TR {Q:yO->AH->Prop} {h:AH} {n:cp} {c:Ca} {i:vd} {x:List UInt8} {e:Int} (k:gF h n.pc n.c c) (hh:c.holds i x) (q:∀ h',zb TI h h'->gF h' n.pc n.c (c.xm i)->Q (.ret (.int .i64 e)) h') :
 vy Pg dD Q [.int .i64 e] [(18,[j4 n.pc,pV i])] none h:=by
 obtain ⟨lv,k⟩:=k;obtain ⟨j,h1,h2,h3,h4⟩:=hh;refine z3f K_ (XB (M9 k i h1 h3) λe' h' g=>⟨_,g.1,?_⟩);refine yr (show jZ Pg h' dD [.int .i64 e]=some [.int .i64 e] from rfl) ?_;refine q h' g.2.1 ⟨lv,?_⟩;unfold Ca.xm;rw [h1];exact g.2.2
theorem Tr {c:Ca} {i:vd} {x y:List UInt8} (h:c.holds i x):(c.oL i y).holds i y:=by
 obtain ⟨j,h1,h2,h3,h4⟩:=h;unfold Ca.oL;rw [h1];refine ⟨j,h1,by simpa using h2,h3,?_⟩;show ((c.fr.set j _)[j]?.getD Yv).p=y;rw [List.getElem?_set,if_pos rfl,if_pos h2];rfl
end
section
set_option maxRecDepth 100000
noncomputable section
variable (Q:yO->AH->Prop) (ds:List AD) (n n1 n2:Nat) (x0 x5 x7 x8:V) (a0:V) (h:AH)
def Ho:=bd Tryz.f100
def z29:List ResultVar:=[.tmp 2]
abbrev z2u:=13
def IG:KT:=(sQ lF (jN (jN (.rm [[0,5,7]]) (.two (sQ lF lF [2]) lF) [0,8]) (sQ lF lF [2]) [0]) [0])
def z9e (p l:List Nat) (e:zJ):Prop:=xG Pg z2u Ho IG p l (zn Pg z29 Q) e h
def zeF:Prop:=z9e Q h [1,1] [] [(0,x0)]
def zen:Prop:=z9e Q h [1,0,1] [] [(0,x0),(8,x8)]
def Gz0:Prop:=yu Pg z2u Ho IG [1,0,0] 2 1 [] (zn Pg z29 Q) [(0,x0),(5,x5),(7,x7)] h
theorem z4y:zeF Q x0 h=(
 z0 (wU Pg h 159 x0 x0) λb c =>
 z0 (z03 (z0y 161 [(0,b)]) c) λd e =>
 z0 (z0G e 161 d) λf g =>
 Q (.ret f) g):=K_
theorem z4G:zen Q x0 x8 h=(
 zP x8 (
 Q (.ret (V.ptr none)) h) (
 z7 (zeF Q x0 h))):=K_
theorem z2h:Gz0 Q x0 x5 x7 h=(
 z0 (yc x5 (V.bool true) x7 h) λb c =>
 z7 (zen Q x0 b c)):=K_
theorem C100 (c :
 z0 (z03 (z0s .lss 3 a0 (V.int .i64 1) true) h) λb c =>
 vp b false (
 z0 (z03 (z0s .gtr 3 a0 (V.int .i64 32) true) c) λd e =>
 z7 (Gz0 Q a0 b d e)) (z7 (Gz0 Q a0 b yw c))):z0q 100 [a0] h Q :=
 mkC Tryz.func100 Ho z2u IG z29 c
def Gn:=bd Tryz.f139
def z4j:List ResultVar:=[.tmp 2]
abbrev z3W:=17
def DI:KT:=(sQ lF (jN (jN (.rm [[0,5,7]]) (.two (sQ lF lF [2]) lF) [0,8]) (sQ (.flo [1,3,5,7] [1,3,5] 6) lF [2]) [0]) [0])
def zbM (p l:List Nat) (e:zJ):Prop:=xG Pg z3W Gn DI p l (zn Pg z4j Q) e h
def z26:Prop:=zbM Q h [1,1] [] [(0,x0)]
def za8:Prop:=zbM Q h [1,0,1] [] [(0,x0),(8,x8)]
def Gzf:Prop:=yu Pg z3W Gn DI [1,0,0] 2 1 [] (zn Pg z4j Q) [(0,x0),(5,x5),(7,x7)] h
theorem WQ:z26 Q x0 h=(
 ZK h h (ii Pg 99 x0 x0) λb c=>(
 ZK h c (ii Pg 99 x0 x0) λd e=>(
 ZK h e (ii Pg 87 x0 x0) λf g=>(
 zc (zj (z03 (z0y 229 [(1,b),(2,d),(3,f)]) g)) λi =>
 z0 (z0G g 229 i) λj k=>(
 Q (.ret j) k))))):=K_
theorem IF:za8 Q x0 x8 h=(
 zP x8 (
 Q (.ret (V.ptr none)) h) (
 z7 (z26 Q x0 h))):=K_
theorem z24:Gzf Q x0 x5 x7 h=(
 z0 (yc x5 (V.bool true) x7 h) λb c =>
 z7 (za8 Q x0 b c)):=K_
theorem C139 (c :
 z0 (z03 (z0s .lss 3 a0 (V.int .i64 1) true) h) λb c =>
 vp b false (
 z0 (z03 (z0s .gtr 3 a0 (V.int .i64 64) true) c) λd e =>
 z7 (Gzf Q a0 b d e)) (z7 (Gzf Q a0 b yw c))):z0q 139 [a0] h Q :=
 mkC Tryz.func139 Gn z3W DI z4j c
end
end
def fE (T:xr) (h0:AH) (mk:Nat->V) (R:Nat->AH->Prop):yO->AH->Prop:=λe h'=>∃ p,e=.ret (mk p)/\h0.next<=p/\zb T h0 h'/\R p h'
theorem Uh {f:FuncId} {args:List V} {h:AH} {T:xr} {mk:Nat->V} {R:Nat->AH->Prop} {K X:V->AH->Prop} (c:z0q f args h (fE T h mk R)) (k:∀ p h',h.next<=p->zb T h h'->R p h'->K (mk p) h'):z0q f args h (zS K X) :=
 c.mono λe h' q=>by obtain ⟨p,rfl,q1,q2,q3⟩:=q;exact k p h' q1 q2 q3
theorem KB {h:AH} {t kt et:TypeId} (hc:W3 Pg t kt et=true):∃ h',qy Pg h t=some (.map (some h.next),h')/\Td h h' (.mp kt et []):=by
 obtain ⟨hu,hp⟩:=Xv hc;unfold qy;rw [hu];exact ⟨_,rfl,vJ _ _⟩
def Dk.new (n:Nat):Dk:=⟨n,[],[],[],λ_=>false,0,0,false⟩
theorem zbH {n:Nat} (h1:1<=n) (h2:n<=2048) (h:AH):z0q 41 [.int .i64 n] h (fE [] h pU λp h'=>qf h' p (Dk.new n)):=by
 refine C41 _ _ _ ?_;refine yD O_ ?_;apply xc;refine xA O_ ?_;refine sm (z3J ..) ?_;apply yi;refine sm (Hv ..) ?_;apply yZ;refine sm (G6 ..) ?_;refine zq (KB (show W3 Pg 121 198 199=true from K_)) λnF u1=>?_;have n1:=u1.next;refine zq (KB (show W3 Pg 121 198 199=true from K_)) λh2' u2=>?_;have n2:=u2.next;have q1:zb [] h nF:=zb.new u1;have q2:zb [] nF h2':=zb.new u2;refine z6 (show zD Pg 125 [(0,.int .i64 n),(1,.map (some h.next)),(2,.map (some nF.next))]=some (JA (Dk.new n) h.next nF.next (.y8 none 0) (.map none)) from K_) ?_;refine zq (yl (show zf Pg (JA (Dk.new n) h.next nF.next (.y8 none 0) (.map none)) 125=true from K_)) λY4 u3=>?_;have n3:=u3.next;have q3:zb [] h2' Y4:=zb.new u3;refine ⟨h2'.next,rfl,O_,q1.trans (q2.trans q3),h.next,nF.next,.y8 none 0,.map none,u3.at_,(q2.trans q3).at u1.at_ O_ rfl,q3.at u2.at_ O_ rfl,.inl ⟨rfl,rfl⟩,.inl ⟨rfl,λ_=>rfl⟩,⟨O_,O_,O_,O_⟩,?_⟩;exact ⟨⟨h1,h2⟩,(λ_ h=>nomatch h),(λ_ h=>nomatch h),(λ_ h=>nomatch h),by show (-9223372036854775808:Int)<=0/\(0:Int)<_;omega⟩
def Ck.new (n:Nat):Ck:=⟨0,List.replicate n false,List.replicate n false,List.replicate n 0⟩
theorem zb7 {n:Nat} (h2:n<=64):ii Pg 99 (.int .i64 n) (.int .i64 n)=some (.cells true (.row 4) (.agg (uv (List.replicate n false))),λm=>.y8 (some (⟨m,.row 4,[]⟩,0)) n):=by
 have hu:ul Pg 99=some (.slice 4):=K_;have hz:xk Pg 4=some (.bool false):=K_;have hb:Pg.bytesOf 4=1:=E_;have hc:Pg.cellsOf 4≠0:=E_;unfold ii wU;simp only [hu,hz,hb];rw [if_pos ⟨trivial,O_,O_,O_,hc⟩];have e:((n:Nat):Int).toNat=n:=O_;have ho:Wv (.cells true (.row 4) (.agg (uv (List.replicate n false))))=true:=by
  show oh _ (uv (List.replicate n false))=true;clear e h2 hu hz hb hc;induction n with
  | zero=>rfl
  | succ n ih=>exact ih
 simp only [AH.make,xD,e,if_true];rw [show List.replicate n (V.bool false)=uv (List.replicate n false) by simp [uv],ho];rfl
theorem fm_i {n:Nat} (h2:n<=64):ii Pg 87 (.int .i64 n) (.int .i64 n)=some (.cells true (.row 3) (.agg (kP (List.replicate n 0))),λm=>.y8 (some (⟨m,.row 3,[]⟩,0)) n):=by
 have hu:ul Pg 87=some (.slice 3):=K_;have hz:xk Pg 3=some (.int .i64 0):=K_;have hb:Pg.bytesOf 3=8:=E_;have hc:Pg.cellsOf 3≠0:=E_;unfold ii wU;simp only [hu,hz,hb];rw [if_pos ⟨trivial,O_,O_,O_,hc⟩];have e:((n:Nat):Int).toNat=n:=O_;have ho:Wv (.cells true (.row 3) (.agg (kP (List.replicate n 0))))=true:=by
  show oh _ (kP (List.replicate n 0))=true;clear e h2 hu hz hb hc;induction n with
  | zero=>rfl
  | succ n ih=>exact ih
 simp only [AH.make,xD,e,if_true];rw [show List.replicate n (V.int .i64 0)=kP (List.replicate n 0) by simp [kP],ho];rfl
theorem zal {n:Nat} (h1:1<=n) (h2:n<=64) {h:AH} (own:vx h):z0q 139 [.int .i64 n] h (fE [] h gx λk h'=>∃ s d p,oG h' k s d p (Ck.new n)):=by
 refine C139 _ _ _ ?_;refine yD O_ ?_;apply xc;refine xA O_ ?_;refine sm (z24 ..) ?_;apply yi;refine sm (IF ..) ?_;apply yZ;refine sm (WQ ..) ?_;refine Wz (zb7 h2) (λn o hm=>.inl (own n o hm)) ?_;have u1:=vJ h (.cells true (.row 4) (.agg (uv (List.replicate n false))));generalize h.make (.cells true (.row 4) (.agg (uv (List.replicate n false))))=nF at u1 ⊢;have n1:=u1.next;have q1:zb [] h nF:=zb.new u1;have o1:=q1.own own;refine Wz (zb7 h2) (λn o hm=>.inl (o1 n o hm)) ?_;have u2:=vJ nF (.cells true (.row 4) (.agg (uv (List.replicate n false))));generalize nF.make (.cells true (.row 4) (.agg (uv (List.replicate n false))))=h2' at u2 ⊢;have n2:=u2.next;have q2:zb [] nF h2':=zb.new u2;have o2:=q2.own o1;refine Wz (fm_i h2) (λn o hm=>.inl (o2 n o hm)) ?_;have u3:=vJ h2' (.cells true (.row 3) (.agg (kP (List.replicate n 0))));generalize h2'.make (.cells true (.row 3) (.agg (kP (List.replicate n 0))))=Y4 at u3 ⊢;have n3:=u3.next;have q3:zb [] h2' Y4:=zb.new u3;have en:(Ck.new n).n=n:=by simp [Ck.new,Ck.n]
 have ev:LK (Ck.new n) h.next nF.next h2'.next=.agg [.int .i64 0,.y8 (some (⟨h.next,.row 4,[]⟩,0)) n,.y8 (some (⟨nF.next,.row 4,[]⟩,0)) n,.y8 (some (⟨h2'.next,.row 3,[]⟩,0)) n]:=by
  unfold LK;rw [en];rfl
 refine zg (show zD Pg 229 [(1,.y8 (some (⟨h.next,.row 4,[]⟩,0)) n),(2,.y8 (some (⟨nF.next,.row 4,[]⟩,0)) n),(3,.y8 (some (⟨h2'.next,.row 3,[]⟩,0)) n)]=some (LK (Ck.new n) h.next nF.next h2'.next) by rw [ev];kernel_rfl) ?_;refine zq (yl (show zf Pg (LK (Ck.new n) h.next nF.next h2'.next) 229=true by rw [ev];kernel_rfl)) λh4' u4=>?_;have n4:=u4.next;have q4:zb [] Y4 h4':=zb.new u4;refine ⟨Y4.next,rfl,O_,q1.trans (q2.trans (q3.trans q4)),h.next,nF.next,h2'.next,u4.at_,(q2.trans (q3.trans q4)).at u1.at_ O_ rfl,(q3.trans q4).at u2.at_ O_ rfl,q4.at u3.at_ O_ rfl,⟨O_,O_,O_,O_,O_⟩,?_⟩;refine ⟨by rw [en];exact h1,by rw [en];simp [Ck.new],by rw [en];simp [Ck.new],by rw [en];exact h2,λp hp=>?_⟩;have:=List.eq_of_mem_replicate hp;omega
def wi (l:List Ol):Nat:=(l.filter Ol.live).length
def mr (l:List Ol):Option Nat:=l.findIdx? λo=>!o.live
def xv (l:List Ol) (n:Nat):Option Nat:=if 66<n\/wZ l=false then none else match mr l with
 | some i=>if 224<yG l+10+n then none else some i
 | none=>if l.length=15\/224<yG l+11+n then none else some l.length
def oI:Option Nat->Int
 | none=>-1
 | some i=>(i:Int)
theorem dH.len {e:TypeId} {h:AH} {x:V} {xs:List V} (b:dH e h x xs) {t:TypeId} (ht:∀ a m,zr Pg h .len [t] [.y8 a m]=some (.int .i64 m,h)):zr Pg h .len [t] [x]=some (.int .i64 xs.length,h):=by
 obtain ⟨a,rfl⟩:=b.shape;exact ht a _
theorem ip {h:AH} {sv:V} {l:List Ol} (b:dH 60 h sv (l.map Ol.v)):zr Pg h .len [48] [sv]=some (.int .i64 l.length,h):=by
 obtain ⟨a,ea⟩:=b.shape;rw [List.length_map] at ea;rw [ea];exact wa K_
theorem Mr {h:AH} {sv:V} {xs:List V} (b:dH 60 h sv xs):zf Pg sv 48=true:=by
 obtain ⟨a,rfl⟩:=b.shape
 kernel_rfl
section
variable {h0:AH} {sv:V} {zt:List Ol}
theorem z01:∀ (rest pre:List Ol) (m:Nat) (h:AH),zt=pre++rest->rest.length<m->zb [] h0 h->dH 60 h sv (zt.map Ol.v)->zt.length<=1000000 ->
 IC (vC (.int .i64 (wi zt:Nat)) h0) m (.int .i64 (wi pre:Nat)) sv (.int .i64 (zt.length:Nat)) (.int .i64 (pre.length:Nat)) h
 | rest,pre,0,h,e,hm,_,_,_=>by omega
 | [],pre,m+1,h,e,hm,q,b,hl=>by
  rw [List.append_nil] at e;subst e;rw [QD];refine yD O_ ?_;apply yZ;refine sm (iC ..) ?_;exact ⟨rfl,q.all⟩
 | o :: rest,pre,m+1,h,e,hm,q,b,hl=>by
  have hlen:zt.length=pre.length+1+rest.length:=by rw [e];simp;omega
  have e':zt=(pre++[o])++rest:=by rw [e];simp
  have s1:wi (pre++[o])=wi pre+if o.live then 1 else 0:=by unfold wi;rw [List.filter_append,List.length_append];cases hl:o.live <;> simp [hl]
  have s2:wi pre<=pre.length:=List.length_filter_le _ _;rw [QD];refine xH O_ ?_;apply xz;refine sm (Gd ..) ?_;refine Z9 b e λh1 n l1 q1 f1 l2=>?_;have b1:=b.zA q1 rfl;refine zx K_ ?_;refine zl f1 K_ (w:=.bool o.live) rfl ?_;have go:∀ x:Int,x=(wi (pre++[o]):Nat)->z9N (vC (.int .i64 (wi zt:Nat)) h0) m (.int .i64 x) sv (.int .i64 (zt.length:Nat)) (.int .i64 (pre.length:Nat)) h1:=by
   intro x hx;subst hx;rw [Bz];refine zE O_ O_ ?_;have:=z01 rest (pre++[o]) m h1 e' (by simp at hm;omega) (q.trans q1) b1 hl;rw [show (((pre++[o]).length:Nat):Int)=(pre.length:Int)+1 by simp] at this;exact z7.of this
  refine wJ (λg=>?_) (λg=>?_)
  ·refine zE O_ O_ ?_;exact z7.of (go _ (by rw [s1,if_pos g];omega))
  ·exact z7.of (go _ (by rw [s1,if_neg (by rw [g];decide)];omega))
theorem z00 {h:AH} {v:V} {u:Un} (b:sZ h v u):z0q 71 [v] h (zO (.int .i64 (wi u.zt:Nat)) h):=by
 obtain ⟨⟨sv,rfl,b⟩,ok⟩:=b;refine yN rfl ?_;show z0q 71 _ h (vC _ h);refine C71 _ _ _ ?_;refine zq (yl (qN u.zZ b)) λh1 u1=>?_;have q1:zb [] h h1:=zb.new u1;refine zx K_ ?_;refine zl u1.at_ K_ (w:=sv) rfl ?_;have b1:=b.zA q1 rfl;refine ze (ip b1) ?_;exact ⟨u.zt.length+1,z7.of (z01 (h0:=h) u.zt [] _ h1 rfl O_ q1 b1 ok.len)⟩
end
section
variable {h0:AH} {sv:V} {zt:List Ol} {n1:Nat} {u:Un} {n:Nat}
theorem Nh {pre rest:List Ol} (h:∀ o∈pre,o.live=true):mr (pre++rest)=(mr rest).map (·+pre.length):=by
 unfold mr;rw [List.findIdx?_append,List.findIdx?_eq_none_iff.2 (λo ho=>by rw [h o ho];rfl)];simp
theorem Kf (hu:u.zt=zt) (hn:n<=66) (hm0:wZ zt=true):∀ (rest pre:List Ol) (m:Nat) (h:AH),zt=pre++rest->rest.length<m->zb [] h0 h->sZ h (vE u.zZ sv) u->dH 60 h sv (zt.map Ol.v)->h.m n1=some (.cells true (.one 50) (vE u.zZ sv))->n1<h.next->(∀ o∈pre,o.live=true) ->
 ES (vC (.int .i64 (oI (xv zt n))) h0) m (.int .i64 (n:Nat)) (.ptr (some ⟨n1,.one 50,[]⟩)) sv (.int .i64 (zt.length:Nat)) (.int .i64 (pre.length:Nat)) h
 | rest,pre,0,h,e,hm,_,_,_,_,_,_=>by omega
 | [],pre,m+1,h,e,hm,q,b,rb,f1,l1,hp=>by
  rw [List.append_nil] at e;have hlen:zt.length<=1000000:=by rw [<- hu];exact b.ok.len
  have hd:mr zt=none:=by rw [e];exact List.findIdx?_eq_none_iff.2 (λo ho=>by rw [hp o ho];rfl)
  have hs:=iL b.ok.zt;rw [hu] at hs;rw [Pw];refine yD (by rw [e];omega) ?_;apply yZ;refine sm (Qj ..) ?_;refine zx K_ ?_;refine zl f1 K_ (w:=sv) rfl ?_;refine ze (ip rb) ?_;have X7:xv zt n=if zt.length=15\/224<yG zt+11+n then none else some zt.length:=by
   unfold xv;rw [if_neg (by rw [hm0];rintro (g | g);omega;cases g),hd]
  rw [X7];have sz:z0q 113 [vE u.zZ sv] h (zO (.int .i64 (yG zt:Nat)) h):=by have:=K5 b;rw [hu] at this;exact this
  by_cases g:zt.length=15
  ·rw [if_pos (.inl g)];refine xn O_ ?_;apply tA;refine sm (Tt ..) ?_;apply wc;refine sm (WV ..) ?_;apply xz;exact ⟨rfl,q.all⟩
  ·by_cases g2:224<yG zt+11+n
   ·rw [if_pos (.inr g2)];refine yB O_ ?_;apply xc;refine zl f1 K_ rfl ?_;refine yf sz ?_;refine zE O_ O_ ?_;refine zE O_ O_ ?_;refine vT O_ ?_;refine sm (Tt ..) ?_;apply yi;refine sm (WV ..) ?_;apply xz;exact ⟨rfl,q.all⟩
   ·rw [if_neg O_];refine yB O_ ?_;apply xc;refine zl f1 K_ rfl ?_;refine yf sz ?_;refine zE O_ O_ ?_;refine zE O_ O_ ?_;refine xA O_ ?_;refine sm (Tt ..) ?_;apply yi;refine sm (WV ..) ?_;apply yZ;refine sm (DD ..) ?_;refine zx K_ ?_;refine zl f1 K_ rfl ?_;refine ze (ip rb) ?_;exact ⟨rfl,q.all⟩
 | o :: rest,pre,m+1,h,e,hm,q,b,rb,f1,l1,hp=>by
  have hlen:zt.length=pre.length+1+rest.length:=by rw [e];simp;omega
  have O5:zt.length<=1000000:=by rw [<- hu];exact b.ok.len
  have e':zt=(pre++[o])++rest:=by rw [e];simp
  have hs:=iL b.ok.zt;rw [hu] at hs;rw [Pw];refine xH O_ ?_;apply xz;refine sm (Xq ..) ?_;refine Z9 rb e λh1 nn l1' q1 g1 l2=>?_;have b1:sZ h1 (vE u.zZ sv) u:=⟨⟨sv,rfl,by rw [hu];exact rb.zA q1 rfl⟩,b.ok⟩
  have f2:=q1.at f1 l1 rfl;refine zx K_ ?_;refine zl g1 K_ (w:=.bool o.live) rfl ?_;have sz:z0q 113 [vE u.zZ sv] h1 (zO (.int .i64 (yG zt:Nat)) h1):=by have:=K5 b1;rw [hu] at this;exact this
  cases hl:o.live with
  | true =>
   apply wq;apply yZ;refine sm (CN ..) ?_;refine zE O_ O_ ?_;have:=Kf hu hn hm0 rest (pre++[o]) m h1 e' (by simp at hm;omega) (q.trans q1) b1 (rb.zA q1 rfl) f2 (by have:=q1.next;omega) (λx hx=>by
    rcases List.mem_append.1 hx with hx | hx
    ·exact hp x hx
    ·rw [List.mem_singleton] at hx;subst hx;exact hl)
   rw [show (((pre++[o]).length:Nat):Int)=(pre.length:Int)+1 by simp] at this;exact z7.of this
  | false =>
   have hd:mr zt=some pre.length:=by
    rw [e,Nh hp];unfold mr;rw [List.findIdx?_cons,hl];simp
   have X7:xv zt n=if 224<yG zt+10+n then none else some pre.length:=by
    unfold xv;rw [if_neg (by rw [hm0];rintro (g | g);omega;cases g),hd]
   rw [X7];by_cases g2:224<yG zt+10+n
   ·rw [if_pos g2];apply tv;apply xz;refine zl f2 K_ rfl ?_;refine yf sz ?_;refine zE O_ O_ ?_;refine zE O_ O_ ?_;refine vT O_ ?_;apply xz;exact ⟨rfl,(q.trans q1).all⟩
   ·rw [if_neg g2];apply tv;apply xz;refine zl f2 K_ rfl ?_;refine yf sz ?_;refine zE O_ O_ ?_;refine zE O_ O_ ?_;refine xA O_ ?_;apply yZ;refine sm (Dv ..) ?_;exact ⟨rfl,(q.trans q1).all⟩
theorem WE {h:AH} {v:V} {u:Un} (b:sZ h v u) {n:Nat} (hn:n<1000000000):z0q 117 [v,.int .i64 n] h (zO (.int .i64 (oI (xv u.zt n))) h):=by
 have bb:=b;obtain ⟨⟨sv,rfl,rb⟩,ok⟩:=b;refine yN rfl ?_;show z0q 117 _ h (vC _ h);refine C117 _ _ _ _ ?_;refine zq (yl (qN u.zZ rb)) λh1 u1=>?_;have q1:zb [] h h1:=zb.new u1;have f1:=u1.at_;have n1:=u1.next;have NJ:=rb.zA q1 rfl;have b1:sZ h1 (vE u.zZ sv) u:=⟨⟨sv,rfl,NJ⟩,ok⟩
 by_cases g:66<n
 ·rw [show xv u.zt n=none from by unfold xv;rw [if_pos (.inl g)]];refine yD O_ ?_;apply xc;refine vT O_ ?_;refine sm (Sd ..) ?_;apply yi;apply tA;refine sm (TY ..) ?_;apply wc;refine sm (HG ..) ?_;apply xz;exact ⟨rfl,q1.all⟩
 ·cases g2:wZ u.zt with
  | false =>
   rw [show xv u.zt n=none from by unfold xv;rw [if_pos (.inr g2)]];have mm:=j7 b1;rw [g2] at mm;refine yD O_ ?_;apply xc;refine xA O_ ?_;refine sm (Sd ..) ?_;apply yi;apply xc;refine zl f1 K_ rfl ?_;refine yf mm ?_;apply tv;refine sm (TY ..) ?_;apply yi;refine sm (HG ..) ?_;apply xz;exact ⟨rfl,q1.all⟩
  | true =>
   have mm:=j7 b1;rw [g2] at mm;refine yD O_ ?_;apply xc;refine xA O_ ?_;refine sm (Sd ..) ?_;apply yi;apply xc;refine zl f1 K_ rfl ?_;refine yf mm ?_;apply wq;refine sm (TY ..) ?_;apply yi;refine sm (HG ..) ?_;apply yZ;refine sm (GQ ..) ?_;refine zx K_ ?_;refine zl f1 K_ rfl ?_;refine ze (ip NJ) ?_;exact ⟨u.zt.length+1,z7.of (Kf (h0:=h) rfl O_ g2 u.zt [] _ h1 rfl O_ q1 b1 NJ f1 O_ (λo ho=>by cases ho))⟩
end
def w5 (l:List Ol) (i:Nat):Option Ol:=match l[i]? with
 | some o=>if o.live then some o else none
 | none=>none
def R5:Option Ol->V
 | some o=>.yX [o.v,.bool true]
 | none=>.yX [Ol.z.v,.bool false]
theorem TM {h h0:AH} {n3:Nat} {w:V} {o:Ol} {b:Bool} (q:zb [] h0 h) (l3:h0.next<=n3) (f3:h.m n3=some (.cells true (.one 60) w)) :
 z0 (zh Pg h 60 (.ptr (some ⟨n3,.one 60,[]⟩)) o.v) λ_ h1=>yq (zX Pg [(4,.ptr (some ⟨n3,.one 60,[]⟩)),(5,.bool b)] h1 Uv) λv=>vC (.yX [o.v,.bool b]) h0 (.ret v) h1:=by
 refine zq (zM (p:=[]) f3 K_ rfl (qh o) rfl) λh2 u2=>?_;have e1:=zR (P:=Pg) (t:=60) (p:=[]) u2.at_ K_ (w:=o.v) rfl;simp only [z9] at e1;have e2:=(zK e1).1;refine yr (show zX Pg _ _ Uv=some [o.v,.bool b] by simp [Uv,zX,zJ.get,e2]) ?_;exact ⟨rfl,(q.ya u2 l3).all⟩
theorem Sf {h:AH} {v:V} {u:Un} (b:sZ h v u) {i:Nat} (hi:i<256):z0q 119 [v,.int .u8 i] h (zO (R5 (w5 u.zt i)) h):=by
 have bb:=b;have hl:=b.ok.len;obtain ⟨⟨sv,rfl,rb⟩,ok⟩:=b;refine yN (by cases w5 u.zt i <;> rfl) ?_;show z0q 119 _ h (vC _ h);refine C119 _ _ _ _ ?_;refine zq (yl (qN u.zZ rb)) λh1 u1=>?_;have q1:zb [] h h1:=zb.new u1;have f1:=u1.at_;have n1:=u1.next;have NJ:=rb.zA q1 rfl;refine zq (yA Mw (qh _)) λh2 u2=>?_;have q2:zb [] h1 h2:=zb.new u2;have f2:=q2.at f1 O_ rfl;have f3:=u2.at_;have Vh:=NJ.zA q2 rfl;have n2:=u2.next;by_cases g:i<u.zt.length
 ·have hgt:u.zt[i]?=some u.zt[i]:=List.getElem?_eq_getElem g;generalize ho:u.zt[i]=o at hgt;have hgv:(u.zt.map Ol.v)[i]?=some o.v:=by rw [List.getElem?_map,hgt];rfl
  obtain ⟨r,ys,r1,r2,r3,r4⟩:=Vh.get hgv;rw [List.length_map] at r2;subst r2;have ia:zy Pg 48 (.y8 (some (⟨r,.row 60,[]⟩,0)) u.zt.length) (.int .u8 i)=some (.ptr (some ⟨r,.row 60,[i]⟩)):=by
   rw [xW _ K_ O_ O_,show 0+((i:Nat):Int).toNat=i by omega]
  have gl:yF (.agg (u.zt.map Ol.v++ys)) ([i]++[0])=some (.bool o.live):=by simp only [yF,r4,List.cons_append,List.nil_append];rfl
  have gw:yF (.agg (u.zt.map Ol.v++ys)) [i]=some o.v:=v7 r4;have e:w5 u.zt i=if o.live then some o else none:=by unfold w5;rw [hgt]
  rw [e];cases hlv:o.live with
  | true =>
   rw [if_pos rfl];rw [hlv] at gl;refine tQ E_ O_ O_ ?_;refine zx K_ ?_;refine zl f2 K_ rfl ?_;refine ze (ip Vh) ?_;refine qm O_ ?_;apply xc;refine zx K_ ?_;refine zl f2 K_ rfl ?_;refine z6 ia ?_;refine zx K_ ?_;refine zl r3 K_ gl ?_;apply wq;refine sm (SZ ..) ?_;apply yi;refine sm (Gx ..) ?_;apply yZ;refine sm (Ij ..) ?_;refine zx K_ ?_;refine zl f2 K_ rfl ?_;refine z6 ia ?_;refine zl r3 K_ gw ?_;exact TM (q1.trans q2) O_ f3
  | false =>
   rw [if_neg S_];rw [hlv] at gl;refine tQ E_ O_ O_ ?_;refine zx K_ ?_;refine zl f2 K_ rfl ?_;refine ze (ip Vh) ?_;refine qm O_ ?_;apply xc;refine zx K_ ?_;refine zl f2 K_ rfl ?_;refine z6 ia ?_;refine zx K_ ?_;refine zl r3 K_ gl ?_;apply tv;refine sm (SZ ..) ?_;apply yi;refine sm (Gx ..) ?_;apply xz;refine z6 bOl ?_;exact TM (q1.trans q2) O_ f3
 ·have e:w5 u.zt i=none:=by unfold w5;rw [List.getElem?_eq_none O_]
  rw [e];refine tQ E_ O_ O_ ?_;refine zx K_ ?_;refine zl f2 K_ rfl ?_;refine ze (ip Vh) ?_;refine rj O_ ?_;apply tA;refine sm (SZ ..) ?_;apply wc;refine sm (Gx ..) ?_;apply xz;refine z6 bOl ?_;exact TM (q1.trans q2) O_ f3
theorem zb.z4U {T:xr} {h h1 h2:AH} {n:Nat} {o:AO} (a:zb T h h1) (u:Ag h1 h2 n o) (hn:h.next<=n) (ho:o.w8=true:=by rfl):zb T h h2:=by
 have an:=a.next;have un:=u.next;refine ⟨O_,λk o1 hk hm ht=>(u.other k O_ O_).trans (a.zA k o1 hk hm ht),λk hk hm=>(u.other k O_ O_).trans (a.none_ k hk hm),λk o1 hk hm=>?_,λq k o' hk=>?_⟩
 ·rcases a.tag k o1 hk hm with ⟨o',m',t'⟩ | m'
  ·exact .inl ⟨o',(u.other k O_ O_).trans m',t'⟩
  ·exact .inr ((u.other k O_ O_).trans m')
 ·rcases Nat.lt_trichotomy k h1.next with c | c | c
  ·by_cases e:k=n
   ·subst e;rw [u.gone] at hk;cases hk
   ·rw [u.other k c e] at hk;exact a.own q k o' hk
  ·subst c;rw [u.at_] at hk;cases hk;exact ho
  ·rcases u.Zu k c with e | e
   ·rw [e] at hk;cases hk
   ·rw [e] at hk;exact a.own q k o' hk
def j0 (e:TypeId) (h0 h:AH) (x:V) (xs:List V):Prop :=
 (x=.y8 none 0/\xs=[])\/∃ n,h0.next<=n/\n<h.next/\x=.y8 (some (⟨n,.row e,[]⟩,0)) xs.length/\h.m n=some (.cells true (.row e) (.agg xs))
theorem j0.jg {e:TypeId} {h0 h:AH} {x:V} {xs:List V} (b:j0 e h0 h x xs):nD e h x xs:=by
 rcases b with b | ⟨n,_,h2,h3,h4⟩
 ·exact .inl b
 ·exact .inr ⟨n,h2,h3,h4⟩
theorem j0.zA {T:xr} {e:TypeId} {h0 h h':AH} {x:V} {xs:List V} (b:j0 e h0 h x xs) (q:zb T h h') (ht:T.contains (1,e,0)=false):j0 e h0 h' x xs:=by
 rcases b with b | ⟨n,h1,h2,h3,h4⟩
 ·exact .inl b
 ·exact .inr ⟨n,h1,by have:=q.next;omega,h3,q.at h4 h2 ht⟩
theorem j0.Xb {e:TypeId} {h0 h1 h:AH} {x:V} {xs:List V} (b:j0 e h1 h x xs) (q:h0.next<=h1.next):j0 e h0 h x xs:=by
 rcases b with b | ⟨n,h1,h2,h3,h4⟩
 ·exact .inl b
 ·exact .inr ⟨n,O_,h2,h3,h4⟩
theorem dH.copy {e t xt:TypeId} {h:AH} {y:V} {ws:List V} (b:dH e h y ws) (hc:gI Pg t xt e=true) (hl:ws.length*Pg.bytesOf e<=140737488355328) :
 ∃ v h',zr Pg h .append [t,xt] [.y8 none 0,y]=some (v,h')/\j0 e h h' v ws/\zb [] h h':=by
 have hy:=b.elems;by_cases hw:ws=[]
 ·subst hw;refine ⟨.y8 none 0,h,?_,.inl ⟨rfl,rfl⟩,zb.refl _ _⟩;obtain ⟨h1,h2,h3,h4⟩:=fS hc;simp [zr,h1,h2,oa,hy]
 ·obtain ⟨h',e1,u⟩:=Wi (n:=0) hc hy hw hl;exact ⟨_,h',e1,.inr ⟨h.next,Nat.le_refl _,by rw [u.next];omega,rfl,u.at_⟩,zb.new u⟩
theorem j0.app {e t xt:TypeId} {h0 h:AH} {x y:V} {xs ws:List V} (b:j0 e h0 h x xs) (ho:h0.next<=h.next) (hc:gI Pg t xt e=true) (hy:xY Pg h e y=some ws) (hw:ws≠[]) (hl:(xs.length+ws.length)*Pg.bytesOf e<=140737488355328) :
 ∃ v h',zr Pg h .append [t,xt] [x,y]=some (v,h')/\j0 e h0 h' v (xs++ws)/\zb [(1,e,0)] h h'/\∀ T,zb T h0 h->zb T h0 h':=by
 rcases b with ⟨rfl,rfl⟩ | ⟨n,h1,h2,rfl,h3⟩
 ·obtain ⟨h',e1,u⟩:=Wi (n:=0) hc hy hw (by simpa using hl);exact ⟨_,h',e1,.inr ⟨h.next,ho,by rw [u.next];omega,rfl,u.at_⟩,zb.new u,λT q=>q.trans (zb.new u)⟩
 ·obtain ⟨h',e1,u⟩:=To (i:=0) (n:=xs.length) hc h2 h3 O_ hy hw hl;refine ⟨_,h',e1,.inr ⟨h.next,ho,by rw [u.next];omega,by rw [List.length_append],?_⟩,zb.rep u h3 (by simp [AO.tag]),λT q=>zb.z4U q u h1⟩;rw [u.at_,List.drop_zero,List.take_of_length_le O_]
abbrev kS (n:Nat):V:=.ptr (some ⟨n,.one 50,[]⟩)
theorem byOl:Pg.bytesOf 60<=1000:=E_
theorem TX:gI Pg 48 48 60=true:=K_
theorem UK:xk Pg 50=some (vE 0 (.y8 none 0)):=K_
theorem SY:zD Pg 50 []=some (vE 0 (.y8 none 0)):=K_
theorem uE:zf Pg (vE 0 (.y8 none 0)) 50=true:=K_
theorem ac {n:Nat} (h:n<=1000001):n*Pg.bytesOf 60<=140737488355328:=Nat.le_trans (Nat.mul_le_mul h byOl) D_
theorem Vm {T:xr} {h h0:AH} {n4:Nat} {w x:V} (q:zb T h0 h) (l4:h0.next<=n4) (f4:h.m n4=some (.cells true (.one 50) w)) (hx:zf Pg x 50=true) {K:V->AH->Prop}
 (k:∀ h',lD h h' n4 (.cells true (.one 50) x)->zb T h0 h'->iS Pg h' ⟨n4,.one 50,[]⟩ 50=some x->K yw h'):z0 (zh Pg h 50 (kS n4) x) K:=by
 refine zq (zM (p:=[]) f4 K_ rfl hx rfl) λh2 u2=>?_;have e1:=zR (P:=Pg) (t:=50) (p:=[]) u2.at_ K_ (w:=x) rfl;simp only [z9] at e1;exact k h2 u2 (q.ya u2 l4) (zK e1).1
theorem z1K {h:AH} {v:V} {u:Un} (b:sZ h v u):z0q 118 [v] h λe h'=>∃ sv,e=.ret (vE u.zZ sv)/\j0 60 h h' sv (u.zt.map Ol.v)/\zb [] h h':=by
 have hl:=b.ok.len;obtain ⟨⟨sv,rfl,rb⟩,ok⟩:=b;refine z6R _ _ _ ?_;refine zq (yl (qN u.zZ rb)) λh1 u1=>?_;have q1:zb [] h h1:=zb.new u1;have n1:=u1.next;refine zq (yA UK uE) λh2 u2=>?_;have q2:zb [] h1 h2:=zb.new u2;have n2:=u2.next;have f1:=q2.at u1.at_ O_ rfl;have Vh:=rb.zA (q1.trans q2) rfl;refine zx K_ ?_;refine zl f1 K_ rfl ?_;obtain ⟨qL,h3,e3,Xc,q3⟩:=Vh.copy TX (by rw [List.length_map];exact ac O_);have n3:=q3.next;refine ze e3 ?_;have f3:=q3.at f1 O_ rfl;have g3:=q3.at u2.at_ O_ rfl;have sh3:=qN u.zZ Xc.jg.dt;refine zx K_ ?_;refine zq (zM f3 K_ (w:=sv) rfl (Mr Xc.jg.dt) (v':=vE u.zZ qL) rfl) λh4 u4=>?_;have n4:=u4.next;have q4:zb [] h h4:=((q1.trans q2).trans q3).ya u4 (Nat.le_refl _);have g4:=(u4.other h1.next O_).trans g3;refine zl u4.at_ K_ (w:=vE u.zZ qL) rfl ?_;refine Vm q4 O_ g4 sh3 λh5 u5 q5 e5=>?_;have n5:=u5.next;refine yr (show zX Pg _ _ Nn=some [vE u.zZ qL] by simp [Nn,zX,zJ.get,e5]) ?_;refine ⟨qL,rfl,?_,q5⟩;refine (Xc.Xb O_).zA (T:=[(0,50,0)]) ((zb.vP u4 f3 rfl rfl).trans (zb.vP u5 g4 rfl rfl)) rfl
def Un.z:Un:=⟨0,[]⟩
def ry (s:List UInt8) (a:Nat):Option (Ol × Nat) :=
 if s.length<=a\/1<(s.getD a 0).toNat then none
 else if (s.getD a 0).toNat=1 then
  if s.length<a+11\/s.length<a+11+(s.getD (a+10) 0).toNat then none
  else some (⟨true,xB s (a+1) 2,xB s (a+3) 4,xB s (a+7) 2,s.getD (a+9) 0,(s.drop (a+11)).take (s.getD (a+10) 0).toNat⟩,a+11+(s.getD (a+10) 0).toNat)
 else some (Ol.z,a+1)
def rh (s:List UInt8):Nat->Nat->Option (List Ol × Nat)
 | 0,a=>some ([],a)
 | k+1,a=>match ry s a with
  | none=>none
  | some (o,b)=>match rh s k b with
   | none=>none
   | some (l,e)=>some (o :: l,e)
def eF (s:List UInt8) (zZ:Nat) (l:List Ol):Option (List Ol × Nat)->Option Un
 | none=>none
 | some (l',e)=>if (∀ x∈s.drop e,x=0)/\wZ (l++l')=true then some ⟨zZ,l++l'⟩ else none
def ua (no:Nat) (s:List UInt8):Option Un:=open Classical in if oF 2 no s then eF s (xB s 7 8) [] (rh s (s.getD 15 0).toNat 16) else none
def ZC:Option Un->Un × Nat
 | some u=>(u,0)
 | none=>(Un.z,2)
def oH (h0:AH) (mk:V->V) (u:Un):yO->AH->Prop:=λe h'=>∃ w,e=.ret (mk w)/\zb [] h0 h'/\sZ h' w u
theorem YP {f:FuncId} {args:List V} {h:AH} {mk:V->V} {u:Un} {K X:V->AH->Prop} (c:z0q f args h (oH h mk u)) (k:∀ w h',zb [] h h'->sZ h' w u->K (mk w) h'):z0q f args h (zS K X) :=
 c.mono λe h' q=>by obtain ⟨w,rfl,q1,q2⟩:=q;exact k w h' q1 q2
theorem sZ.zero (h:AH):sZ h (vE 0 (.y8 none 0)) Un.z:=⟨⟨_,rfl,.inl ⟨rfl,rfl⟩⟩,⟨D_,(λ_ h=>nomatch h),D_⟩⟩
abbrev GU (h0:AH) (r:Option Un):yO->AH->Prop:=oH h0 (λw=>.yX [w,.int .i64 (ZC r).2]) (ZC r).1
section
variable {h0:AH} {n4 n7:Nat} {s:List UInt8} {zZ:Nat} {r:Option Un}
theorem z02 {h:AH} {T:xr} {w x:V} {b:Int} {Q:yO->AH->Prop} (q:zb T h0 h) (l4:h0.next<=n4) (f4:h.m n4=some (.cells true (.one 50) w)) (hx:zf Pg x 50=true)
 (k:∀ h',zb T h0 h'->lD h h' n4 (.cells true (.one 50) x)->Q (.ret (.yX [x,.int .i64 b])) h') :
 z0 (zh Pg h 50 (kS n4) x) λ_ h1=>yq (zX Pg [(4,kS n4),(5,.int .i64 b)] h1 Tf) λv=>Q (.ret v) h1:=by
 refine Vm q l4 f4 hx λh' u q' e'=>?_;refine yr (show zX Pg _ _ Tf=some [x,.int .i64 b] by simp [Tf,zX,zJ.get,e']) ?_;exact k h' q' u
theorem bO {h:AH} {w:V} (q:zb [] h0 h) (l4:h0.next<=n4) (f4:h.m n4=some (.cells true (.one 50) w)) (hr:r=none) :
 z0 (zh Pg h 50 (kS n4) (vE 0 (.y8 none 0))) λ_ h1=>yq (zX Pg [(4,kS n4),(5,.int .i64 2)] h1 Tf) λv=>GU h0 r (.ret v) h1 :=
 z02 q l4 f4 uE λh' q' u'=>by subst hr;exact ⟨_,rfl,q',sZ.zero _⟩
theorem AP {l:List Ol} {sv:V} {e:Nat} (hs:s.length=224) (l4:h0.next<=n4) (n74:n7≠n4) (hl:zZ<18446744073709551616) (UZ:l.length<=1000000) (hok:∀ o∈l,o.ok) {w4:V} {h:AH} (q:zb [] h0 h) (dh:j0 60 h0 h sv (l.map Ol.v)) (f7:h.m n7=some (.cells true (.one 50) (vE zZ sv))) (f4:h.m n4=some (.cells true (.one 50) w4))
 (hr:r=if (∀ x∈s.drop e,x=0)/\wZ l=true then some ⟨zZ,l⟩ else none) :
 ∀ (j a m:Nat),a+j=224->j<m->e<=a->(∀ i,e<=i->i<a->s.getD i 0=0)->EJ (GU h0 r) m (kS n4) (.str s) (kS n7) (.int .i64 (a:Nat)) h
 | j,a,0,_,hm,_,_=>by omega
 | 0,a,m+1,ha,hm,he,hz=>by
  rw [Pa];have b:sZ h (vE zZ sv) ⟨zZ,l⟩:=⟨⟨sv,rfl,dh.jg.dt⟩,hl,hok,UZ⟩
  have hz':∀ x∈s.drop e,x=0:=by
   intro x hx;obtain ⟨i,hi,rfl⟩:=List.mem_iff_getElem.1 hx;rw [List.getElem_drop];rw [List.length_drop] at hi;have:=hz (e+i) O_ O_;rw [List.getD_eq_getElem?_getD,List.getElem?_eq_getElem O_] at this;exact this
  have mm:=j7 b;cases A2:wZ l with
  | true =>
   rw [show wZ (⟨zZ,l⟩:Un).zt=true from A2] at mm;rw [A2,if_pos ⟨hz',rfl⟩] at hr;refine xq K_ ?_;refine yD O_ ?_;apply yZ;refine sm (Es ..) ?_;refine zl f7 K_ (w:=vE zZ sv) rfl ?_;refine yf mm ?_;apply wq;apply yZ;refine sm (IT ..) ?_;refine zl f7 K_ (w:=vE zZ sv) rfl ?_;refine z02 q l4 f4 (qN zZ dh.jg.dt) λh' q' u'=>?_;subst hr;refine ⟨_,rfl,q',⟨sv,rfl,(dh.jg.zA (T:=[(0,50,0)]) (zb.vP u' f4 rfl rfl) rfl).dt⟩,hl,hok,UZ⟩
  | false =>
   rw [show wZ (⟨zZ,l⟩:Un).zt=false from A2] at mm;rw [A2,if_neg S_] at hr;refine xq K_ ?_;refine yD O_ ?_;apply yZ;refine sm (Es ..) ?_;refine zl f7 K_ (w:=vE zZ sv) rfl ?_;refine yf mm ?_;apply tv;apply xz;refine z6 SY ?_;exact bO q l4 f4 hr
 | j+1,a,m+1,ha,hm,he,hz=>by
  rw [Pa];have ix:vN Pg 9 (.str s) (.int .i64 (a:Nat))=some (.int .u8 ((s.getD a 0).toNat:Int)):=js K_ O_;by_cases g:s.getD a 0=0
  ·rw [g,show (((0:UInt8).toNat:Nat):Int)=0 from rfl] at ix;refine xq K_ ?_;refine xH O_ ?_;apply xz;refine sm (RE ..) ?_;refine z6 ix ?_;refine yx O_ ?_;apply yZ;refine sm (WC ..) ?_;refine zE O_ O_ ?_;rw [show (a:Int)+1=((a+1:Nat):Int) by omega];refine z7.of (AP hs l4 n74 hl UZ hok q dh f7 f4 hr j (a+1) m O_ O_ O_ λi h1 h2=>?_);by_cases e':i=a
   ·subst e';exact g
   ·exact hz i h1 O_
  ·have g':(s.getD a 0).toNat≠0:=λe'=>g (UInt8.toNat_inj.1 e');have hr':r=none:=by
    rw [hr,if_neg];rintro ⟨q1,_⟩;refine g (q1 _ ?_);rw [List.getD_eq_getElem?_getD,List.getElem?_eq_getElem O_];rw [List.mem_iff_getElem];exact ⟨a-e,by rw [List.length_drop];omega,by rw [List.getElem_drop];congr 1;omega⟩
   refine xq K_ ?_;refine xH O_ ?_;apply xz;refine sm (RE ..) ?_;refine z6 ix ?_;refine xe O_ ?_;apply xz;refine z6 SY ?_;exact bO q l4 f4 hr'
end
theorem WO {l:List V} {i:Nat} {w:V} (h:i<l.length):tX (.agg l) [i] w=some (.agg (l.set i w)):=by
 simp only [tX,List.getElem?_eq_getElem h]
theorem j0.set {e t:TypeId} {kd:IntKind} {h0 h:AH} {x w:V} {xs:List V} {i:Nat} (b:j0 e h0 h x xs) (hi:i<xs.length) (hc:S8 Pg t e=true) (hl:my Pg (.row e) [i] e=true) (hs:zf Pg w e=true) {K:V->AH->Prop}
 (k:∀ h',j0 e h0 h' x (xs.set i w)->zb [(1,e,0)] h h'->(∀ T,zb T h0 h->zb T h0 h')->K yw h') :
 z0 (z03 (zy Pg t x (.int kd i)) h) λv h1=>z0 (zh Pg h1 e v w) K:=by
 rcases b with ⟨rfl,rfl⟩ | ⟨n,h1,h2,rfl,h3⟩
 ·exact absurd hi S_
 ·refine z6 (xW _ hc O_ O_) ?_;rw [show 0+((i:Nat):Int).toNat=i by omega];refine zq (zM (p:=[i]) h3 hl (v7 (List.getElem?_eq_getElem hi)) hs (WO hi)) λh' u=>?_;exact k h' (.inr ⟨n,h1,by rw [u.next];exact h2,by rw [List.length_set],u.at_⟩) (zb.vP u h3 rfl (by simp [AO.tag])) (λT q=>q.ya u h1)
def yS (l:List Ol) (i:Nat) (o:Ol):List Ol:=if i=l.length then l++[o] else l.set i o
def uw (u:Un) (o:Ol):Un × Nat × Nat :=
 if wZ u.zt=false\/o.live=false\/66<o.dl.length then (Un.z,0,1) else match xv u.zt o.dl.length with
 | none=>(Un.z,0,5)
 | some i=>(⟨u.zZ,yS u.zt i o⟩,i,0)
theorem px {l:List Ol} (h:wZ l=true):l.length<=15:=by
 unfold wZ at h;simp only [Bool.and_eq_true,decide_eq_true_eq] at h;exact h.1.1.1
theorem wz {l:List Ol} {n i:Nat} (h:xv l n=some i):n<=66/\wZ l=true/\i<=l.length/\i<15/\yG l+10+n<=224/\(i=l.length->yG l+11+n<=224)/\(i<l.length->l[i]?.map Ol.live=some false):=by
 unfold xv at h;split at h
 ·cases h
 ·rename_i g;have g1:n<=66:=O_;have g2:wZ l=true:=by cases hm:wZ l with
   | true=>rfl
   | false=>exact absurd (.inr hm) g
  have gl:=px g2;split at h
  ·rename_i j hd;split at h
   ·cases h
   ·rename_i g3;cases h;unfold mr at hd;obtain ⟨hj,hl,_⟩:=List.findIdx?_eq_some_iff_getElem.1 hd;refine ⟨g1,g2,O_,O_,O_,O_,λ_=>?_⟩;rw [List.getElem?_eq_getElem hj];simpa using hl
  ·split at h
   ·cases h
   ·cases h;refine ⟨g1,g2,O_,O_,O_,O_,O_⟩
section
variable {h:AH}
theorem au {h0:AH} {T:xr} {n4:Nat} {w x:V} {a b:Int} {Q:yO->AH->Prop} (q:zb T h0 h) (l4:h0.next<=n4) (f4:h.m n4=some (.cells true (.one 50) w)) (hx:zf Pg x 50=true)
 (k:∀ h',zb T h0 h'->lD h h' n4 (.cells true (.one 50) x)->Q (.ret (.yX [x,.int .u8 a,.int .i64 b])) h') :
 z0 (zh Pg h 50 (kS n4) x) λ_ h1=>yq (zX Pg [(4,kS n4),(5,.int .u8 a),(6,.int .i64 b)] h1 NU) λv=>Q (.ret v) h1:=by
 refine Vm q l4 f4 hx λh' u q' e'=>?_;refine yr (show zX Pg _ _ NU=some [x,.int .u8 a,.int .i64 b] by simp [NU,zX,zJ.get,e']) ?_;exact k h' q' u
theorem addP {v:V} {u:Un} (b:sZ h v u) {o:Ol} (ho:o.ok):z0q 75 [v,o.v] h (oH h (λw=>.yX [w,.int .u8 (uw u o).2.1,.int .i64 (uw u o).2.2]) (uw u o).1):=by
 have hl:=b.ok.len;have hd:=ho.dl;obtain ⟨⟨sv,rfl,rb⟩,ok⟩:=b;refine C75 _ _ _ _ ?_;refine zq (yl (qN u.zZ rb)) λh1 u1=>?_;have n1:=u1.next;have q1:zb [] h h1:=zb.new u1;refine zq (yl (qh o)) λh2 u2=>?_;have n2:=u2.next;have q2:zb [] h1 h2:=zb.new u2;refine zq (yA UK uE) λh3 u3=>?_;have n3:=u3.next;have q3:zb [] h2 h3:=zb.new u3;have ez:=(q1.trans q2).trans q3;have f1:=(q2.trans q3).at u1.at_ O_ rfl;have f2:=q3.at u2.at_ O_ rfl;have f3:=u3.at_;have rb3:=rb.zA ez rfl;have b3:sZ h3 (vE u.zZ sv) u:=⟨⟨sv,rfl,rb3⟩,ok⟩
 clear u1 u2 u3 q1 q2 q3 rb;have bad:∀ e:Nat,(uw u o)=(Un.z,0,e)->∀ h',zb [] h h'->oH h (λw=>.yX [w,.int .u8 (uw u o).2.1,.int .i64 (uw u o).2.2]) (uw u o).1 (.ret (.yX [vE 0 (.y8 none 0),.int .u8 0,.int .i64 e])) h':=by
  intro e he h' q;rw [he];exact ⟨_,rfl,q,sZ.zero _⟩
 refine zl f1 K_ rfl ?_;refine yf (j7 b3) ?_;cases g1:wZ u.zt with
 | false =>
  apply tv;apply tA;refine sm (Bu ..) ?_;apply wc;apply tA;refine sm (Hc ..) ?_;apply wc;refine sm (FJ ..) ?_;apply xz;refine z6 SY ?_;exact au ez O_ f3 uE λh' q' u'=>bad 1 (by unfold uw;rw [if_pos (.inl g1)]) _ q'
 | true =>
  have ol:=o.live;have gl:yF o.v ([]++[0])=some (.bool o.live):=rfl;cases g2:o.live with
  | false =>
   rw [g2] at gl;apply wq;apply xc;refine zx K_ ?_;refine zl f2 K_ gl ?_;apply tv;refine sm (Bu ..) ?_;apply yi;apply tA;refine sm (Hc ..) ?_;apply wc;refine sm (FJ ..) ?_;apply xz;refine z6 SY ?_;exact au ez O_ f3 uE λh' q' u'=>bad 1 (by unfold uw;rw [if_pos (.inr (.inl g2))]) _ q'
  | true =>
   rw [g2] at gl;have gd:yF o.v ([]++[4])=some (.str o.dl):=rfl;by_cases g3:66<o.dl.length
   ·apply wq;apply xc;refine zx K_ ?_;refine zl f2 K_ gl ?_;apply wq;refine sm (Bu ..) ?_;apply yi;apply xc;refine zx K_ ?_;refine zl f2 K_ gd ?_;refine xq K_ ?_;refine vT O_ ?_;refine sm (Hc ..) ?_;apply yi;refine sm (FJ ..) ?_;apply xz;refine z6 SY ?_;exact au ez O_ f3 uE λh' q' u'=>bad 1 (by unfold uw;rw [if_pos (.inr (.inr g3))]) _ q'
   ·have pl:=WE b3 (n:=o.dl.length) O_;have ea:uw u o=match xv u.zt o.dl.length with
     | none=>(Un.z,0,5)
     | some i=>(⟨u.zZ,yS u.zt i o⟩,i,0):=by unfold uw;rw [if_neg (by rw [g1,g2];simp;omega)]
    cases hp:xv u.zt o.dl.length with
    | none =>
     rw [hp] at pl ea;apply wq;apply xc;refine zx K_ ?_;refine zl f2 K_ gl ?_;apply wq;refine sm (Bu ..) ?_;apply yi;apply xc;refine zx K_ ?_;refine zl f2 K_ gd ?_;refine xq K_ ?_;refine xA O_ ?_;refine sm (Hc ..) ?_;apply yi;refine sm (FJ ..) ?_;apply yZ;refine sm (DF ..) ?_;refine zl f1 K_ rfl ?_;refine zx K_ ?_;refine zl f2 K_ gd ?_;refine xq K_ ?_;refine yf pl ?_;exact au ez O_ f3 uE λh' q' u'=>bad 5 ea _ q'
    | some i =>
     rw [hp] at pl ea;obtain ⟨_,_,i1,i2,i3,i4,i5⟩:=wz hp;have pl':z0q 117 [vE u.zZ sv,.int .i64 o.dl.length] h3 (zO (.int .i64 (i:Nat)) h3):=pl;apply wq;apply xc;refine zx K_ ?_;refine zl f2 K_ gl ?_;apply wq;refine sm (Bu ..) ?_;apply yi;apply xc;refine zx K_ ?_;refine zl f2 K_ gd ?_;refine xq K_ ?_;refine xA O_ ?_;refine sm (Hc ..) ?_;apply yi;refine sm (FJ ..) ?_;apply yZ;refine sm (DF ..) ?_;refine zl f1 K_ rfl ?_;refine zx K_ ?_;refine zl f2 K_ gd ?_;refine xq K_ ?_;refine yf pl' ?_;refine yD O_ ?_;apply yZ;refine sm (E4 ..) ?_;refine zl f1 K_ rfl ?_;refine z2I (z1K b3) λe h4 q=>?_;obtain ⟨qL,rfl,O6,q4⟩:=q;refine ⟨_,rfl,?_⟩;have n4:=q4.next;have g1':=q4.at f1 O_ rfl;have g2':=q4.at f2 O_ rfl;have g3':=q4.at f3 O_ rfl;have sh4:=qN u.zZ O6.jg.dt;refine zq (zM (p:=[]) g1' K_ rfl sh4 rfl) λh5 u5=>?_;have n5:=u5.next;have dm:zb [] h h5:=(ez.trans q4).ya u5 (Nat.le_refl _);have V7:j0 60 h h5 qL (u.zt.map Ol.v):=(O6.Xb O_).zA (T:=[(0,50,0)]) (zb.vP u5 g1' rfl rfl) rfl;have k1:=u5.at_;have k2:=(u5.other h1.next O_).trans g2';have k3:=(u5.other h2.next O_).trans g3';clear f1 f2 f3 g1' g2' g3';have lq:=ip V7.jg.dt;refine zx K_ ?_;refine zl k1 K_ (w:=qL) rfl ?_;refine ze lq ?_;have fin:∀ (h7:AH) (oM:V),zb [] h h7->j0 60 h h7 oM ((yS u.zt i o).map Ol.v)->h7.m h.next=some (.cells true (.one 50) (vE u.zZ oM))->h7.m h2.next=some (.cells true (.one 50) (vE 0 (.y8 none 0)))->h2.next<h7.next ->
      zbZ (oH h (λw=>.yX [w,.int .u8 (uw u o).2.1,.int .i64 (uw u o).2.2]) (uw u o).1) (kS h.next) (kS h2.next) (.int .i64 (i:Nat)) h7:=by
      intro h7 oM q7 Oa a1 a3 ln;rw [Fd];refine zl a1 K_ (w:=vE u.zZ oM) rfl ?_;refine bX E_ O_ O_ ?_;refine au q7 O_ a3 (qN u.zZ Oa.jg.dt) λh' q' u'=>?_;rw [ea];refine ⟨_,rfl,q',⟨oM,rfl,(Oa.jg.zA (T:=[(0,50,0)]) (zb.vP u' a3 rfl rfl) rfl).dt⟩,ok.zZ,λx hx=>?_,?_⟩
      ·have hx:x∈yS u.zt i o:=hx;unfold yS at hx;split at hx
       ·rcases List.mem_append.1 hx with hx | hx
        ·exact ok.zt x hx
        ·rw [List.mem_singleton] at hx;subst hx;exact ho
       ·rcases List.mem_or_eq_of_mem_set hx with hx | rfl
        ·exact ok.zt x hx
        ·exact ho
      ·show (yS u.zt i o).length<=1000000;have:=px g1;unfold yS;split
       ·simp;omega
       ·simp;omega
     by_cases ge:i=u.zt.length
     ·refine xn O_ ?_;apply xz;refine zx K_ ?_;refine zl k1 K_ (w:=qL) rfl ?_;refine zl k2 K_ (w:=o.v) rfl ?_;refine zq (mV (e:=60) K_ Mw (qh o)) λh6 u6=>?_;have n6:=u6.next;have q6:zb [] h5 h6:=zb.new u6;have A3:=V7.zA q6 rfl;obtain ⟨oM,h7,e7,Oa,q7,qq7⟩:=A3.app O_ TX (wV (by exact u6.at_)) S_ (ac (by rw [List.length_map];simp;omega));have n7:=q7.next;refine ze e7 ?_;have a1:=q7.at (q6.at k1 O_ rfl) O_ rfl;have a3:=q7.at (q6.at k3 O_ rfl) O_ rfl;refine zx K_ ?_;refine zq (zM a1 K_ (w:=qL) rfl (Mr Oa.jg.dt) (v':=vE u.zZ oM) rfl) λh8 u8=>?_;have n8:=u8.next;have Jm:zb [] h h8:=(qq7 _ (dm.trans q6)).ya u8 (Nat.le_refl _);refine z7.of (fin h8 oM Jm ?_ u8.at_ ((u8.other h2.next O_).trans a3) O_);rw [show (yS u.zt i o).map Ol.v=u.zt.map Ol.v++[o.v] by unfold yS;rw [if_pos ge];simp];exact Oa.zA (T:=[(0,50,0)]) (zb.vP u8 a1 rfl rfl) rfl
     ·refine yB O_ ?_;apply yZ;refine zx K_ ?_;refine zl k1 K_ (w:=qL) rfl ?_;refine zl k2 K_ (w:=o.v) rfl ?_;refine V7.set (by rw [List.length_map];omega) K_ K_ (qh o) λh6 A3 q6 qq6=>?_;have n6:=q6.next;refine z7.of (fin h6 qL (qq6 _ dm) ?_ (q6.at k1 O_ rfl) (q6.at k3 O_ rfl) O_);rw [show (yS u.zt i o).map Ol.v=(u.zt.map Ol.v).set i o.v by unfold yS;rw [if_neg ge,List.map_set]];exact A3
end
theorem SW {t e:TypeId} {h:AH} {n s len l k:Nat} {lo hi:Option V} (hc:S8 Pg t e=true) (hl:gJ lo 0=some l) (hk:gJ hi len=some k) (h1:l<=k) (h2:k<=len) :
 yC Pg h t (.y8 (some (⟨n,.row e,[]⟩,s)) len) lo hi=some (.y8 (some (⟨n,.row e,[]⟩,s+l)) (k-l)):=by
 simp only [S8,Bool.and_eq_true] at hc;obtain ⟨h3,h4⟩:=hc;split at h3
 ·rename_i e' hu;simp only [beq_iff_eq] at h3;subst h3;have hr:Go.Ab.rowAt Pg (.row e') []=some (0,e'):=rfl;simp [yC,hu,hl,hk,hr,h1,h2,h4]
 ·cases h3
def uX (l:List Ol):Nat->Nat
 | 0=>0
 | k+1=>if (l[k]?.map Ol.live).getD true then k+1 else uX l k
theorem bA (l:List Ol):∀ k,uX l k<=k
 | 0=>Nat.le_refl _
 | k+1=>by unfold uX;split;exact Nat.le_refl _;have:=bA l k;omega
def uN (u:Un) (i:Nat):Option Un:=if (w5 u.zt i).isSome/\wZ u.zt=true then some ⟨u.zZ,(u.zt.set i Ol.z).take (uX (u.zt.set i Ol.z) u.zt.length)⟩ else none
def Ol.cut (o:Ol):Ol:={ o with np:=0,ns:=0 }
def jV (u:Un) (i:Nat):Option Un:=if (w5 u.zt i).isSome/\wZ u.zt=true then some ⟨u.zZ,u.zt.set i ((u.zt[i]?.getD Ol.z).cut)⟩ else none
def NT:Option Un->Un × Nat
 | some u=>(u,0)
 | none=>(Un.z,1)
theorem py {l:List Ol} {i:Nat} (h:(w5 l i).isSome=true):i<l.length:=by
 unfold w5 at h;cases hi:l[i]? with
 | none=>rw [hi] at h;cases h
 | some o=>exact (List.getElem?_eq_some_iff.1 hi).1
section
variable {h0:AH} {n1 n4 r:Nat} {w4:V} {zZ:Nat} {l:List Ol}
theorem TP {h:AH} {T:xr} {w x:V} {b:Int} {Q:yO->AH->Prop} (q:zb T h0 h) (l4:h0.next<=n4) (f4:h.m n4=some (.cells true (.one 50) w)) (hx:zf Pg x 50=true)
 (k:∀ h',zb T h0 h'->lD h h' n4 (.cells true (.one 50) x)->Q (.ret (.yX [x,.int .i64 b])) h') :
 z0 (zh Pg h 50 (kS n4) x) λ_ h1=>yq (zX Pg [(4,kS n4),(5,.int .i64 b)] h1 ZV) λv=>Q (.ret v) h1:=by
 refine Vm q l4 f4 hx λh' u q' e'=>?_;refine yr (show zX Pg _ _ ZV=some [x,.int .i64 b] by simp [ZV,zX,zJ.get,e']) ?_;exact k h' q' u
theorem Se {h:AH} {T:xr} {w x:V} {b:Int} {Q:yO->AH->Prop} (q:zb T h0 h) (l4:h0.next<=n4) (f4:h.m n4=some (.cells true (.one 50) w)) (hx:zf Pg x 50=true)
 (k:∀ h',zb T h0 h'->lD h h' n4 (.cells true (.one 50) x)->Q (.ret (.yX [x,.int .i64 b])) h') :
 z0 (zh Pg h 50 (kS n4) x) λ_ h1=>yq (zX Pg [(4,kS n4),(5,.int .i64 b)] h1 UE) λv=>Q (.ret v) h1:=by
 refine Vm q l4 f4 hx λh' u q' e'=>?_;refine yr (show zX Pg _ _ UE=some [x,.int .i64 b] by simp [UE,zX,zJ.get,e']) ?_;exact k h' q' u
theorem z8S (r k:Nat):zf Pg (vE zZ (.y8 (some (⟨r,.row 60,[]⟩,0)) k)) 50=true:=K_
theorem z7m (r k:Nat):zf Pg (.y8 (some (⟨r,.row 60,[]⟩,0)) k) 48=true:=K_
theorem AX {Q:yO->AH->Prop} (l1:h0.next<=n1) (l4:h0.next<=n4) (lr:h0.next<=r) (n14:n1≠n4) (hl:l.length<=1000000)
 (fin:∀ h',zb [] h0 h'->r<h'.next->h'.m r=some (.cells true (.row 60) (.agg (l.map Ol.v)))->Q (.ret (.yX [vE zZ (.y8 (some (⟨r,.row 60,[]⟩,0)) (uX l l.length)),.int .i64 0])) h') :
 ∀ (k m:Nat) (h:AH),k<m->k<=l.length->uX l k=uX l l.length->zb [] h0 h->r<h.next->h.m r=some (.cells true (.row 60) (.agg (l.map Ol.v)))->h.m n1=some (.cells true (.one 50) (vE zZ (.y8 (some (⟨r,.row 60,[]⟩,0)) k)))->h.m n4=some (.cells true (.one 50) w4) ->
  Ib Q m (kS n1) (kS n4) h
 | k,0,h,hk,_,_,_,_,_,_,_=>by omega
 | k,m+1,h,hk,hk2,e,q,lr',fr,f1,f4=>by
  have out:uX l k=k->z7O Q (kS n1) (kS n4) h:=by
   intro ek;rw [G5];refine zl f1 K_ (w:=vE zZ (.y8 (some (⟨r,.row 60,[]⟩,0)) k)) rfl ?_;refine TP q l4 f4 (z8S r k) λh' q' u'=>?_;have hr:r≠n4:=uQ fr f4 (by simp [AO.tag]);rw [show k=uX l l.length by rw [<- e,ek]];exact fin h' q' (by rw [u'.next];exact lr') ((u'.other r hr).trans fr)
  rw [QU];refine zx K_ ?_;refine zl f1 K_ (w:=.y8 (some (⟨r,.row 60,[]⟩,0)) k) rfl ?_;refine ze (wa K_) ?_;cases k with
  | zero =>
   refine xA O_ ?_;apply jo;refine sm (St ..) ?_;apply yi;refine sm (IQ ..) ?_;apply yZ;exact z7.of (out rfl)
  | succ k =>
   have hg:l[k]?=some (l[k]'O_):=List.getElem?_eq_getElem O_;generalize l[k]'O_=o at hg;have hgv:(l.map Ol.v)[k]?=some o.v:=by rw [List.getElem?_map,hg];rfl
   have et:uX l (k+1)=if o.live then k+1 else uX l k:=by show (if _ then _ else _)=_;rw [hg];rfl
   have ia:zy Pg 48 (.y8 (some (⟨r,.row 60,[]⟩,0)) (k+1)) (.int .i64 ((k+1:Nat)-1))=some (.ptr (some ⟨r,.row 60,[k]⟩)):=by
    rw [xW _ K_ O_ O_,show 0+(((k+1:Nat):Int)-1).toNat=k by omega]
   have gl:yF (.agg (l.map Ol.v)) ([k]++[0])=some (.bool o.live):=by simp only [yF,hgv,List.cons_append,List.nil_append];rfl
   cases ho:o.live with
   | true =>
    rw [ho] at gl;refine vT O_ ?_;apply sE;refine zx K_ ?_;refine zl f1 K_ rfl ?_;refine zx K_ ?_;refine zl f1 K_ rfl ?_;refine ze (wa K_) ?_;refine rQ O_ O_ ?_;refine z6 ia ?_;refine zx K_ ?_;refine zl fr K_ gl ?_;apply wq;refine sm (St ..) ?_;apply wc;refine sm (IQ ..) ?_;apply yZ;exact z7.of (out (by rw [et,ho];rfl))
   | false =>
    rw [ho] at gl;have es:∀ h,yC Pg h 48 (.y8 (some (⟨r,.row 60,[]⟩,0)) (k+1)) none (some (.int .i64 ((k+1:Nat)-1)))=some (.y8 (some (⟨r,.row 60,[]⟩,0)) k):=by
     intro h;rw [SW (l:=0) (k:=k) K_ rfl (by rw [show (((k+1:Nat):Int)-1)=((k:Nat):Int) by omega];exact tU O_) O_ O_];rfl
    refine vT O_ ?_;apply sE;refine zx K_ ?_;refine zl f1 K_ rfl ?_;refine zx K_ ?_;refine zl f1 K_ rfl ?_;refine ze (wa K_) ?_;refine rQ O_ O_ ?_;refine z6 ia ?_;refine zx K_ ?_;refine zl fr K_ gl ?_;apply tv;refine sm (St ..) ?_;apply wc;refine sm (IQ ..) ?_;apply xz;refine sm (Qb ..) ?_;refine zx K_ ?_;refine zl f1 K_ rfl ?_;refine zx K_ ?_;refine zl f1 K_ rfl ?_;refine ze (wa K_) ?_;refine rQ O_ O_ ?_;refine z6 (es _) ?_;refine zx K_ ?_;refine zq (zM f1 K_ (w:=.y8 (some (⟨r,.row 60,[]⟩,0)) (k+1)) rfl (z7m r k) (v':=vE zZ (.y8 (some (⟨r,.row 60,[]⟩,0)) k)) rfl) λh2 u2=>?_;have hr:r≠n1:=uQ fr f1 (by simp [AO.tag]);exact z7.of (AX l1 l4 lr n14 hl fin k m h2 O_ O_ (by rw [<- e,et,ho];rfl) (q.ya u2 l1) (by rw [u2.next];exact lr') ((u2.other r hr).trans fr) u2.at_ ((u2.other n4 (Ne.symm n14)).trans f4))
end
section
variable {h:AH}
theorem z1g {v:V} {u:Un} (b:sZ h v u) {i:Nat} (hi:i<256):z0q 154 [v,.int .u8 i] h (oH h (λw=>.yX [w,.int .i64 (NT (uN u i)).2]) (NT (uN u i)).1):=by
 have hl:=b.ok.len;obtain ⟨⟨sv,rfl,rb⟩,ok⟩:=b;refine C154 _ _ _ _ ?_;refine zq (yl (qN u.zZ rb)) λh1 u1=>?_;have n1:=u1.next;have q1:zb [] h h1:=zb.new u1;refine zq (yA UK uE) λh2 u2=>?_;have n2:=u2.next;have q2:zb [] h1 h2:=zb.new u2;have po:=q1.trans q2;have f1:=q2.at u1.at_ O_ rfl;have f2:=u2.at_;have Vh:=rb.zA po rfl;have b2:sZ h2 (vE u.zZ sv) u:=⟨⟨sv,rfl,Vh⟩,ok⟩
 clear u1 u2 q1 q2 rb;refine zl f1 K_ (w:=vE u.zZ sv) rfl ?_;refine yf (Sf b2 hi) ?_;have gs:∃ o:Ol,∃ c:Bool,R5 (w5 u.zt i)=.yX [o.v,.bool c]/\c=(w5 u.zt i).isSome:=by
  cases w5 u.zt i with
  | none=>exact ⟨Ol.z,false,rfl,rfl⟩
  | some o=>exact ⟨o,true,rfl,rfl⟩
 obtain ⟨o,c,ec,hc⟩:=gs;rw [ec];apply wj;apply wl;refine zq (yA Mw (qh _)) λh3 u3=>?_;have n3:=u3.next;have q3:zb [] h2 h3:=zb.new u3;refine zq (zM (p:=[]) u3.at_ K_ rfl (qh o) rfl) λh4 u4=>?_;have n4:=u4.next;have q4:zb [] h2 h4:=q3.ya u4 (Nat.le_refl _);have mE:=po.trans q4;have g1:=q4.at f1 O_ rfl;have g2:=q4.at f2 O_ rfl;have rb4:=Vh.zA q4 rfl;have b4:sZ h4 (vE u.zZ sv) u:=⟨⟨sv,rfl,rb4⟩,ok⟩
 clear f1 f2 u3 u4 Vh b2 q3;have bad:uN u i=none->∀ h',zb [] h h'->oH h (λw=>.yX [w,.int .i64 (NT (uN u i)).2]) (NT (uN u i)).1 (.ret (.yX [vE 0 (.y8 none 0),.int .i64 1])) h':=by
  intro he h' q;rw [he];exact ⟨_,rfl,q,sZ.zero _⟩
 cases c with
 | false =>
  apply tv;apply tA;refine sm (z0P ..) ?_;apply wc;refine sm (DX ..) ?_;apply xz;refine z6 SY ?_;exact TP mE O_ g2 uE λh' q' u'=>bad (by unfold uN;rw [if_neg (by rw [<- hc];simp)]) h' q'
 | true =>
  cases gm:wZ u.zt with
  | false =>
   have mm:=j7 b4;rw [gm] at mm;apply wq;apply xc;refine zl g1 K_ rfl ?_;refine yf mm ?_;apply tv;refine sm (z0P ..) ?_;apply yi;refine sm (DX ..) ?_;apply xz;refine z6 SY ?_;exact TP mE O_ g2 uE λh' q' u'=>bad (by unfold uN;rw [if_neg (by rw [gm];simp)]) h' q'
  | true =>
   have mm:=j7 b4;rw [gm] at mm;have il:=py hc.symm;apply wq;apply xc;refine zl g1 K_ rfl ?_;refine yf mm ?_;apply wq;refine sm (z0P ..) ?_;apply yi;refine sm (DX ..) ?_;apply yZ;refine sm (IA ..) ?_;refine zl g1 K_ rfl ?_;refine z2I (z1K b4) λe h5 q=>?_;obtain ⟨qL,rfl,V7,q5⟩:=q;refine ⟨_,rfl,?_⟩;have n5:=q5.next;have k1:=q5.at g1 O_ rfl;have k2:=q5.at g2 O_ rfl;refine zq (zM (p:=[]) k1 K_ rfl (qN u.zZ V7.jg.dt) rfl) λh6 u6=>?_;have n6:=u6.next;have Tj:zb [] h h6:=(mE.trans q5).ya u6 (Nat.le_refl _);have A3:j0 60 h h6 qL (u.zt.map Ol.v):=(V7.Xb O_).zA (T:=[(0,50,0)]) (zb.vP u6 k1 rfl rfl) rfl;have j1:=u6.at_;have j2:=(u6.other h1.next O_).trans k2;clear k1 k2 g1 g2;refine zx K_ ?_;refine zl j1 K_ (w:=qL) rfl ?_;refine z6 bOl ?_;refine A3.set (by rw [List.length_map];omega) K_ K_ (qh Ol.z) λh7 Oa q7 qq7=>?_;have n7:=q7.next;have Va:=qq7 _ Tj;rw [<- List.map_set] at Oa;have e1:(u.zt.set i Ol.z).length=u.zt.length:=S_;rcases Oa with ⟨_,e0⟩ | ⟨r,r1,r2,rfl,r3⟩
   ·have:((u.zt.set i Ol.z).map Ol.v).length=0:=by rw [e0];rfl
    rw [List.length_map,e1] at this;omega
   ·refine ⟨u.zt.length+1,z7.of ?_⟩;rw [List.length_map,e1] at j1;refine AX (h0:=h) (l:=u.zt.set i Ol.z) (w4:=vE 0 (.y8 none 0)) (zZ:=u.zZ) (r:=r) (Nat.le_refl _) O_ r1 O_ (by rw [e1];exact hl) (λh' q' l' fr'=>?_) u.zt.length _ h7 O_ (by rw [e1];exact Nat.le_refl _) (by rw [e1]) Va r2 r3 (q7.at j1 O_ rfl) (q7.at j2 O_ rfl);rw [show uN u i=some ⟨u.zZ,(u.zt.set i Ol.z).take (uX (u.zt.set i Ol.z) u.zt.length)⟩ by unfold uN;rw [if_pos ⟨hc.symm,gm⟩]];have tl:=bA (u.zt.set i Ol.z) u.zt.length;refine ⟨_,rfl,q',⟨_,rfl,.inr ⟨r,((u.zt.set i Ol.z).drop (uX (u.zt.set i Ol.z) u.zt.length)).map Ol.v,l',?_,?_⟩⟩,ok.zZ,λx hx=>?_,?_⟩
    ·rw [List.length_map];show _=V.y8 _ (List.take (uX (u.zt.set i Ol.z) u.zt.length) (u.zt.set i Ol.z)).length;rw [List.length_take,e1,Nat.min_eq_left tl]
    ·show h'.m r=some (.cells true (.row 60) (.agg ((List.take (uX (u.zt.set i Ol.z) u.zt.length) (u.zt.set i Ol.z)).map Ol.v++_)));rw [<- List.map_append,List.take_append_drop];exact fr'
    ·rcases List.mem_or_eq_of_mem_set (List.mem_of_mem_take hx) with hx | rfl
     ·exact ok.zt x hx
     ·exact ⟨D_,D_,D_,D_⟩
    ·show (List.take _ _).length<=_;rw [List.length_take];omega
theorem z9a {v:V} {u:Un} (b:sZ h v u) {i:Nat} (hi:i<256):z0q 155 [v,.int .u8 i] h (oH h (λw=>.yX [w,.int .i64 (NT (jV u i)).2]) (NT (jV u i)).1):=by
 have hl:=b.ok.len;obtain ⟨⟨sv,rfl,rb⟩,ok⟩:=b;refine C155 _ _ _ _ ?_;refine zq (yl (qN u.zZ rb)) λh1 u1=>?_;have n1:=u1.next;have q1:zb [] h h1:=zb.new u1;refine zq (yA UK uE) λh2 u2=>?_;have n2:=u2.next;have q2:zb [] h1 h2:=zb.new u2;have po:=q1.trans q2;have f1:=q2.at u1.at_ O_ rfl;have f2:=u2.at_;have Vh:=rb.zA po rfl;have b2:sZ h2 (vE u.zZ sv) u:=⟨⟨sv,rfl,Vh⟩,ok⟩
 clear u1 u2 q1 q2 rb;refine zl f1 K_ (w:=vE u.zZ sv) rfl ?_;refine yf (Sf b2 hi) ?_;have gs:∃ o:Ol,∃ c:Bool,R5 (w5 u.zt i)=.yX [o.v,.bool c]/\c=(w5 u.zt i).isSome:=by
  cases w5 u.zt i with
  | none=>exact ⟨Ol.z,false,rfl,rfl⟩
  | some o=>exact ⟨o,true,rfl,rfl⟩
 obtain ⟨o,c,ec,hc⟩:=gs;rw [ec];apply wj;apply wl;refine zq (yA Mw (qh _)) λh3 u3=>?_;have n3:=u3.next;have q3:zb [] h2 h3:=zb.new u3;refine zq (zM (p:=[]) u3.at_ K_ rfl (qh o) rfl) λh4 u4=>?_;have n4:=u4.next;have q4:zb [] h2 h4:=q3.ya u4 (Nat.le_refl _);have mE:=po.trans q4;have g1:=q4.at f1 O_ rfl;have g2:=q4.at f2 O_ rfl;have rb4:=Vh.zA q4 rfl;have b4:sZ h4 (vE u.zZ sv) u:=⟨⟨sv,rfl,rb4⟩,ok⟩
 clear f1 f2 u3 u4 Vh b2 q3;have bad:jV u i=none->∀ h',zb [] h h'->oH h (λw=>.yX [w,.int .i64 (NT (jV u i)).2]) (NT (jV u i)).1 (.ret (.yX [vE 0 (.y8 none 0),.int .i64 1])) h':=by
  intro he h' q;rw [he];exact ⟨_,rfl,q,sZ.zero _⟩
 cases c with
 | false =>
  apply tv;apply tA;refine sm (TC ..) ?_;apply wc;refine sm (G8 ..) ?_;apply xz;refine z6 SY ?_;exact Se mE O_ g2 uE λh' q' u'=>bad (by unfold jV;rw [if_neg (by rw [<- hc];simp)]) h' q'
 | true =>
  cases gm:wZ u.zt with
  | false =>
   have mm:=j7 b4;rw [gm] at mm;apply wq;apply xc;refine zl g1 K_ rfl ?_;refine yf mm ?_;apply tv;refine sm (TC ..) ?_;apply yi;refine sm (G8 ..) ?_;apply xz;refine z6 SY ?_;exact Se mE O_ g2 uE λh' q' u'=>bad (by unfold jV;rw [if_neg (by rw [gm];simp)]) h' q'
  | true =>
   have mm:=j7 b4;rw [gm] at mm;have il:=py hc.symm;apply wq;apply xc;refine zl g1 K_ rfl ?_;refine yf mm ?_;apply wq;refine sm (TC ..) ?_;apply yi;refine sm (G8 ..) ?_;apply yZ;refine sm (WJ ..) ?_;refine zl g1 K_ rfl ?_;refine z2I (z1K b4) λe h5 q=>?_;obtain ⟨qL,rfl,V7,q5⟩:=q;refine ⟨_,rfl,?_⟩;have n5:=q5.next;have k1:=q5.at g1 O_ rfl;have k2:=q5.at g2 O_ rfl;refine zq (zM (p:=[]) k1 K_ rfl (qN u.zZ V7.jg.dt) rfl) λh6 u6=>?_;have n6:=u6.next;have Tj:zb [] h h6:=(mE.trans q5).ya u6 (Nat.le_refl _);have A3:j0 60 h h6 qL (u.zt.map Ol.v):=(V7.Xb O_).zA (T:=[(0,50,0)]) (zb.vP u6 k1 rfl rfl) rfl;have j1:=u6.at_;have j2:=(u6.other h1.next O_).trans k2;clear k1 k2 g1 g2;refine zx K_ ?_;refine zl j1 K_ (w:=qL) rfl ?_;refine z6 (show zD Pg 58 []=some (.agg [.int .u16 0,.int .u8 0]) from K_) ?_;have hg:u.zt[i]?=some (u.zt[i]'il):=List.getElem?_eq_getElem il;generalize ho2:u.zt[i]'il=o2 at hg;have hgv:(u.zt.map Ol.v)[i]?=some o2.v:=by rw [List.getElem?_map,hg];rfl
   rcases A3 with ⟨_,e0⟩ | ⟨r,r1,r2,rfl,r3⟩
   ·have:(u.zt.map Ol.v).length=0:=by rw [e0];rfl
    rw [List.length_map] at this;omega
   ·rw [List.length_map] at j1 ⊢;refine z6 (xW _ K_ O_ O_) ?_;rw [show 0+((i:Nat):Int).toNat=i by omega];refine zx K_ ?_;have hsv:tX (.agg (u.zt.map Ol.v)) ([i]++[3]) (.agg [.int .u16 0,.int .u8 0])=some (.agg ((u.zt.set i o2.cut).map Ol.v)):=by
     have hlt:i<(u.zt.map Ol.v).length:=by rw [List.length_map];exact il
     show tX (.agg (u.zt.map Ol.v)) [i,3] _=_;simp only [tX,hgv,List.map_set];rfl
    refine zq (zM r3 K_ (p:=[i]++[3]) (w:=.agg [.int .u16 o2.np,.int .u8 o2.ns.toNat]) (by simp only [yF,hgv,List.cons_append,List.nil_append];rfl) K_ hsv) λh7 u7=>?_;have n7:=u7.next;have Va:=Tj.ya u7 r1;have m1:=(u7.other h.next (uQ j1 r3 (by simp [AO.tag]))).trans j1;have m2:=(u7.other h1.next (uQ j2 r3 (by simp [AO.tag]))).trans j2;refine zl m1 K_ (w:=vE u.zZ (.y8 (some (⟨r,.row 60,[]⟩,0)) u.zt.length)) rfl ?_;refine Se Va O_ m2 (z8S r _) λh' q' u'=>?_;rw [show jV u i=some ⟨u.zZ,u.zt.set i o2.cut⟩ by unfold jV;rw [if_pos ⟨hc.symm,gm⟩,hg];rfl];refine ⟨_,rfl,q',⟨_,rfl,.inr ⟨r,[],by rw [u'.next,n7];exact r2,by rw [List.length_map];show _=V.y8 _ (List.set _ _ _).length;rw [List.length_set],?_⟩⟩,ok.zZ,λx hx=>?_,?_⟩
    ·rw [List.append_nil,u'.other r (Ne.symm (uQ j2 r3 (by simp [AO.tag])))];exact u7.at_
    ·rcases List.mem_or_eq_of_mem_set hx with hx | rfl
     ·exact ok.zt x hx
     ·have:=ok.zt o2 (List.mem_of_getElem? hg);exact ⟨this.xu,this.ts,by show (0:Nat)<_;omega,this.dl⟩
    ·show (List.set _ _ _).length<=_;rw [List.length_set];exact hl
end
theorem nD.cut {e t:TypeId} {h:AH} {x:V} {xs:List V} (b:nD e h x xs) (hc:S8 Pg t e=true) (wO:xs≠[]) {k:Nat} (hk:k<=xs.length) :
 (∃ v,(∀ h,yC Pg h t x none (some (.int .i64 (k:Nat)))=some v)/\Sx e h v (xs.take k))/\(∃ v,(∀ h,yC Pg h t x (some (.int .i64 (k:Nat))) none=some v)/\Sx e h v (xs.drop k)):=by
 rcases b with ⟨_,e0⟩ | ⟨n,h1,rfl,h3⟩
 ·exact absurd e0 wO
 ·have l1:(xs.take k).length=k:=by rw [List.length_take];omega
  refine ⟨⟨_,λh=>SW (l:=0) (k:=k) hc rfl (by rw [tU O_,show ((k:Nat):Int).toNat=k by omega]) O_ hk,.inr ⟨n,[],xs.drop k,h1,by rw [l1];rfl,?_⟩⟩,
   ⟨_,λh=>SW (l:=k) (k:=xs.length) hc (by rw [tU O_,show ((k:Nat):Int).toNat=k by omega]) rfl hk (Nat.le_refl _),.inr ⟨n,xs.take k,[],h1,by rw [l1,List.length_drop,Nat.zero_add],?_⟩⟩⟩
  ·rw [List.nil_append,List.take_append_drop];exact h3
  ·rw [List.append_nil,List.take_append_drop];exact h3
def Lg.close (l:Lg):Lg:=if l.xJ=[] then l else l.z0x l.xJ.length
def pZ (c:Ch):Nat × Nat:=(c.num,c.off)
def Lg.laid (l:Lg):Lg:={ l with yn:=l.yn++l.zB.map pZ,zB:=[],Ti:=l.fin }
def Lg.ti (l:Lg) (todo:List Ch) (d:Dk):Int × Lg × Dk :=
 if (l.wF todo d).1≠0 then ((l.wF todo d).1,l,(l.wF todo d).2) else (0,l.laid,(l.wF todo d).2)
def Lg.uu (l:Lg) (d:Dk):Int × Lg × Dk :=
 if l.zB=[] then (0,l,d)
 else if l.fresh=false then l.ti l.zB d
 else if (l.wF (l.zB.take 1) d).1≠0 then ((l.wF (l.zB.take 1) d).1,l,(l.wF (l.zB.take 1) d).2)
 else ({ l with fresh:=false }:Lg).ti (l.zB.drop 1) (l.wF (l.zB.take 1) d).2
def Lg.flush (l:Lg) (d:Dk):Int × Lg × Dk:=l.close.uu d
abbrev TFl:xr:=[(0,179,0),(1,182,0),(1,184,0),(0,125,0),(2,198,199),(1,211,0)]
theorem Dk.cM (d:Dk):d.sync.2.ops<=d.ops+1/\d.sync.2.zT.length<=d.zT.length/\d.sync.2.n=d.n:=by
 unfold Dk.sync;split
 ·exact ⟨Nat.le_succ _,Nat.le_refl _,rfl⟩
 ·split
  ·rw [Dk.Zx,Dk.kK,Dk.BV];exact ⟨Nat.le_refl _,Nat.le_refl _,rfl⟩
  ·exact ⟨by show d.op.2.ops<=_;rw [Dk.Zx];exact Nat.le_refl _,by show 0<=_;omega,by show d.op.2.n=_;rw [Dk.BV]⟩
theorem Lg.Ob (l:Lg):∀ (cs:List Ch) (d:Dk),(l.pP cs d).2.ops<=d.ops+cs.length/\(l.pP cs d).2.zT.length<=d.zT.length+4*cs.length/\(l.pP cs d).2.n=d.n
 | [],d=>⟨Nat.le_refl _,Nat.le_refl _,rfl⟩
 | c :: cs,d=>by
  obtain ⟨h1,h2,h3⟩:=Dk.lJ d ((l.at_+c.num%l.size:Nat):Int) (sj c);obtain ⟨g1,g2,g3⟩:=Lg.Ob l cs (d.write ((l.at_+c.num%l.size:Nat):Int) (sj c)).2;simp only [List.length_cons];unfold Lg.pP;split
  ·exact ⟨O_,O_,h3⟩
  ·exact ⟨O_,O_,g3.trans h3⟩
theorem Lg.eA (l:Lg) (cs:List Ch) (d:Dk):(l.wF cs d).2.ops<=d.ops+cs.length+1/\(l.wF cs d).2.zT.length<=d.zT.length+4*cs.length/\(l.wF cs d).2.n=d.n:=by
 obtain ⟨h1,h2,h3⟩:=Lg.Ob l cs d;unfold Lg.wF;split
 ·exact ⟨O_,O_,h3⟩
 ·split
  ·exact ⟨by show (l.pP cs d).2.ops<=_;omega,by show (l.pP cs d).2.zT.length<=_;omega,h3⟩
  ·obtain ⟨g1,g2,g3⟩:=Dk.cM (l.pP cs d).2;exact ⟨O_,O_,g3.trans h3⟩
theorem bySt:Pg.bytesOf 184<=1000:=E_
theorem shSt (x:Nat × Nat):zf Pg (Tc x) 184=true:=K_
theorem zSt:xk Pg 184=some (Tc (0,0)):=K_
section
variable {h0:AH} {p:Nat} {l:Lg} {all:List Ch}
theorem Lr {pv:V} {d:Dk} (M0:l.zB=all) (hl:l.yn.length+all.length<=1000000):∀ (rest pre:List Ch) (m:Nat) (h:AH) (sv:V),all=pre++rest->rest.length<m->zb TFl h0 h->IU h p sv pv { l with yn:=l.yn++pre.map pZ }->qf h l.d d ->
 LQ (xj TFl h0 (.int .i64 0) λh'=>gR h' p l.laid/\qf h' l.d d) m (fM p) pv (.int .i64 (all.length:Nat)) (.int .i64 (pre.length:Nat)) h
 | rest,pre,0,h,sv,e,hm,_,_,_=>by omega
 | [],pre,m+1,h,sv,e,hm,q,k,kd=>by
  rw [List.append_nil] at e;have f0:=k.log;rw [PM];refine yD (by rw [e];omega) ?_;apply yZ;refine sm (Iq ..) ?_;apply yb;refine zx K_ ?_;refine zq (zM f0 K_ (w:=pv) rfl K_ (v':=Oo { l with yn:=l.yn++pre.map pZ,zB:=[] } sv (.y8 none 0)) rfl) λh1 u1=>?_;have n1:=u1.next;apply yb;refine zx K_ ?_;refine zl u1.at_ K_ (w:=.int .u64 l.fin) rfl ?_;apply yb;refine zx K_ ?_;refine zq (zM u1.at_ K_ (w:=.int .u64 l.Ti) rfl K_ (v':=Oo l.laid sv (.y8 none 0)) rfl) λh2 u2=>?_;have n2:=u2.next;have q2:zb [(0,179,0)] h h2:=(zb.vP u1 f0 rfl rfl).trans (zb.vP u2 u1.at_ rfl rfl);refine ⟨rfl,q.trans (q2.sub rfl),⟨sv,.y8 none 0,u2.at_,?_,.inl ⟨rfl,rfl⟩,by have:=k.o;omega,?_⟩,kd.zA q2 rfl rfl rfl rfl⟩
  ·have:=k.yn.zA q2 rfl;show nD _ _ _ ((l.yn++l.zB.map pZ).map Tc);rw [M0,e];exact this
  ·obtain ⟨a1,a2,a3,a4,a5,a6,a7,a8,a9,a10⟩:=k.ok;exact ⟨a1,a2,a3,by show (l.yn++l.zB.map pZ).length<=_;rw [M0];simp;omega,by show 0<=_;omega,a6,a7,a8,a8,a10⟩
 | c :: rest,pre,m+1,h,sv,e,hm,q,k,kd=>by
  have hlen:all.length=pre.length+1+rest.length:=by rw [e];simp;omega
  have e':all=(pre++[c])++rest:=by rw [e];simp
  have f0:=k.log;rw [PM];refine xH O_ ?_;apply xz;refine sm (HE ..) ?_;have hg:(l.zB.map j6)[pre.length]?=some (j6 c):=by rw [M0,e];simp
  obtain ⟨r,j,g1,ll,g2,g3,g4⟩:=(k.zB.toW).get (t:=177) hg K_;refine z6 g1 ?_;refine ze (zR g2 K_ g3) ?_;refine zq (yA zCh (VP _)) λh1 u1=>?_;have n1:=u1.next;have q1:zb [] h h1:=zb.new u1;refine zq (zM (p:=[]) u1.at_ K_ rfl (VP c) rfl) λh2 u2=>?_;have n2:=u2.next;have po:zb [] h h2:=q1.ya u2 (Nat.le_refl _);have f2:=u2.at_;have fl:=po.at f0 k.o rfl;have k2:=k.zA po rfl rfl rfl;have gn:yF (j6 c) ([]++[1])=some (.int .u32 c.num):=rfl;have go:yF (j6 c) ([]++[2])=some (.int .u64 c.off):=rfl;have bS:zD Pg 184 [(0,.int .u32 c.num),(1,.int .u64 c.off)]=some (Tc (pZ c)):=K_;apply xy;refine ym K_ ?_;refine zY fl K_ (w:=sv) rfl ?_;refine ym K_ ?_;refine zY f2 K_ gn ?_;refine ym K_ ?_;refine zY f2 K_ go ?_;refine zg bS ?_;refine zq (mV (e:=184) K_ zSt (shSt (pZ c))) λh3 u3=>?_;have n3:=u3.next;have q3:zb [] h2 h3:=zb.new u3;have fl3:=q3.at fl (by have:=k.o;omega) rfl;refine And.intro (zR fl3 K_ (w:=sv) rfl) ?_;have k3:=k2.zA q3 rfl rfl rfl;obtain ⟨qL,h4,e4,O6,q4⟩:=k3.yn.app (t:=176) (xt:=176) K_ (wV (by exact u3.at_)) S_ (Nat.le_trans (Nat.mul_le_mul (show ((l.yn++pre.map pZ).map Tc).length+[Tc (pZ c)].length<=1000001 by simp;omega) bySt) D_);have n4:=q4.next;refine ze e4 ?_;have fl4:=q4.at fl3 (by have:=k.o;omega) rfl;apply xy;refine ym K_ ?_;obtain ⟨ap,rfl⟩:=O6.shape;refine zq (zM fl4 K_ (w:=sv) rfl K_ (v':=Oo { l with yn:=l.yn++(pre++[c]).map pZ } (.y8 ap ((l.yn++pre.map pZ).map Tc++[Tc (pZ c)]).length) pv) rfl) λh5 u5=>?_;have n5:=u5.next;have q5:zb [(0,179,0)] h4 h5:=zb.vP u5 fl4 rfl rfl;refine sm (CX ..) ?_;refine zE O_ O_ ?_;have kk:IU h5 p (.y8 ap ((l.yn++pre.map pZ).map Tc++[Tc (pZ c)]).length) pv { l with yn:=l.yn++(pre++[c]).map pZ }:=by
   refine ⟨u5.at_,?_,(k3.zB.zA q4 rfl).zA q5 rfl,by have:=k.o;omega,?_⟩
   ·show nD _ _ _ ((l.yn++(pre++[c]).map pZ).map Tc);have:=O6.zA q5 rfl;rw [show (l.yn++(pre++[c]).map pZ).map Tc=(l.yn++pre.map pZ).map Tc++[Tc (pZ c)] by simp];exact this
   ·obtain ⟨a1,a2,a3,a4,a5,a6,a7,a8,a9,a10⟩:=k.ok;exact ⟨a1,a2,a3,by show (l.yn++(pre++[c]).map pZ).length<=_;simp;omega,a5,a6,a7,a8,a9,a10⟩
  have:=Lr M0 hl rest (pre++[c]) m h5 _ e' (by simp at hm;omega) (q.trans ((po.sub rfl).trans ((q3.sub rfl).trans ((q4.sub rfl).trans (q5.sub rfl))))) kk ((((kd.zA po rfl rfl rfl rfl).zA q3 rfl rfl rfl rfl).zA q4 rfl rfl rfl rfl).zA q5 rfl rfl rfl rfl);rw [show (((pre++[c]).length:Nat):Int)=(pre.length:Int)+1 by simp] at this;exact z7.of this
end
abbrev FlQ (h0:AH) (p dn:Nat) (y:Int × Lg × Dk):yO->AH->Prop:=xj TFl h0 (.int .i64 y.1) λh'=>gR h' p y.2.1/\qf h' dn y.2.2
structure Lg.fl (l:Lg) (d:Dk):Prop where
 size:1<=l.size
 num:l.num+1<4294967296
 sC:l.yn.length+l.zB.length<999999
 xJ:l.xJ.length<=214
 chs:∀ c∈l.zB,c.ok
 ops:d.ops+l.zB.length+10<999999999999
 zT:d.zT.length+4*l.zB.length+8<=900000000
section
variable {h0:AH} {p:Nat} {l:Lg} {d:Dk}
theorem RM {h:AH} {lv:V} {todo:List Ch} (JG:1<=l.size) (hok:∀ c∈todo,c.ok) (M0:todo.length<=1000000) (pN:l.yn.length+l.zB.length<=1000000) (q:zb TFl h0 h) (kl:gR h p l) (kd:qf h l.d d) (dh:Sx 182 h lv (todo.map j6)) (ho:d.ops+todo.length<999999999999) (hpd:d.zT.length+4*todo.length<=900000000) :
 z9G (FlQ h0 p l.d (l.ti todo d)) (fM p) lv h:=by
 rw [EQ];refine xN (AL JG hok M0 kl kd dh ho hpd) λh1 q1 ⟨k1,d1,w1⟩=>?_;have n1:=q1.next;unfold Lg.ti;generalize l.wF todo d=y at *;have dw:zb TFl h0 h1:=q.trans (q1.sub rfl);by_cases g:y.1=0
 ·rw [if_neg (by rw [g];simp)];refine yx g ?_;apply yZ;refine sm (Ix ..) ?_;obtain ⟨sv,pv,kb⟩:=k1;have f0:=kb.log;have Jn:zr Pg h1 .len [177] [pv]=some (.int .i64 l.zB.length,h1):=by
   obtain ⟨a,ea⟩:=kb.zB.shape;rw [List.length_map] at ea;rw [ea];exact wa K_
  apply yb;refine zx K_ ?_;refine zl f0 K_ (w:=pv) rfl ?_;refine ze Jn ?_;refine ⟨l.zB.length+1,z7.of ?_⟩;refine Lr (l:=l) (all:=l.zB) (d:=y.2) rfl pN l.zB [] _ h1 sv rfl O_ dw ?_ d1;rw [show ({ l with yn:=l.yn++([]:List Ch).map pZ }:Lg)=l by simp];exact kb
 ·rw [if_pos g];refine xe g ?_;apply xz;exact ⟨rfl,dw,k1,d1⟩
theorem Qv {h:AH} (o:l.size>=1/\l.yn.length+l.zB.length<=1000000/\(∀ c∈l.zB,c.ok)/\d.ops+l.zB.length+5<999999999999/\d.zT.length+4*l.zB.length+4<=900000000) (q:zb TFl h0 h) (kl:gR h p l) (kd:qf h l.d d) :
 zar (FlQ h0 p l.d (l.uu d)) (fM p) h:=by
 obtain ⟨o1,o2,o3,o4,o5⟩:=o;obtain ⟨sv,pv,kb⟩:=id kl;have f0:=kb.log;have Jn:zr Pg h .len [177] [pv]=some (.int .i64 l.zB.length,h):=by
  obtain ⟨a,ea⟩:=kb.zB.shape;rw [List.length_map] at ea;rw [ea];exact wa K_
 rw [D5];apply yb;refine zx K_ ?_;refine zl f0 K_ (w:=pv) rfl ?_;refine ze Jn ?_;by_cases g:l.zB=[]
 ·rw [show l.uu d=(0,l,d) by unfold Lg.uu;rw [if_pos g]];refine xn (by rw [g];simp) ?_;apply xz;exact ⟨rfl,q,kl,kd⟩
 ·have hlen:0<l.zB.length:=List.length_pos_iff.2 g;refine yB O_ ?_;apply yZ;refine sm (Bm ..) ?_;apply yb;refine zx K_ ?_;refine zl f0 K_ (w:=pv) rfl ?_;apply yb;refine zx K_ ?_;refine zl f0 K_ (w:=.bool l.fresh) rfl ?_;obtain ⟨⟨v1,s1,w1⟩,⟨v2,s2,w2⟩⟩:=kb.zB.cut (t:=177) K_ (by intro e;exact g (List.map_eq_nil_iff.1 e)) (k:=1) (by rw [List.length_map];omega);rw [<- List.map_take] at w1;rw [<- List.map_drop] at w2;cases gf:l.fresh with
  | false =>
   rw [show l.uu d=l.ti l.zB d by unfold Lg.uu;rw [if_neg g,if_pos gf]];apply yZ;exact z7.of (RM o1 o3 O_ o2 q kl kd kb.zB.toW O_ O_)
  | true =>
   have ef:l.uu d=if (l.wF (l.zB.take 1) d).1≠0 then ((l.wF (l.zB.take 1) d).1,l,(l.wF (l.zB.take 1) d).2) else ({ l with fresh:=false }:Lg).ti (l.zB.drop 1) (l.wF (l.zB.take 1) d).2:=by
    unfold Lg.uu;rw [if_neg g,if_neg (by rw [gf];simp)]
   rw [ef];apply xz;refine z6 (s1 _) ?_;have t1:(l.zB.take 1).length=1:=by rw [List.length_take];omega
   refine xN (AL o1 (λc hc=>o3 c (List.mem_of_mem_take hc)) O_ kl kd w1 O_ O_) λh1 q1 ⟨k1,d1,w1'⟩=>?_;have n1:=q1.next;obtain ⟨b1,b2,b3⟩:=Lg.eA l (l.zB.take 1) d;generalize l.wF (l.zB.take 1) d=y at *;have dw:zb TFl h0 h1:=q.trans (q1.sub rfl);have w2':=w2.zA q1 rfl;by_cases g2:y.1=0
   ·rw [if_neg (by rw [g2];simp)];refine yx g2 ?_;apply yZ;refine sm (cF ..) ?_;have M3:=kb.zA q1 rfl rfl rfl;have f1:=M3.log;apply yb;refine zx K_ ?_;refine zq (zM f1 K_ (w:=.bool l.fresh) rfl K_ (v':=Oo { l with fresh:=false } sv pv) rfl) λh2 u2=>?_;have n2:=u2.next;have q2:zb [(0,179,0)] h1 h2:=zb.vP u2 f1 rfl rfl;have kl2:gR h2 p { l with fresh:=false }:=⟨sv,pv,M3.set u2 rfl rfl ⟨M3.ok.at_,M3.ok.size,M3.ok.ep,M3.ok.yn,M3.ok.zB,M3.ok.xJ,M3.ok.num,M3.ok.fin,M3.ok.Ti,M3.ok.op⟩⟩
    refine z6 (s2 _) ?_;have t2:(l.zB.drop 1).length=l.zB.length-1:=List.length_drop;exact z7.of (RM (l:={ l with fresh:=false }) o1 (λc hc=>o3 c (List.mem_of_mem_drop hc)) O_ o2 (dw.trans (q2.sub rfl)) kl2 (d1.zA q2 rfl rfl rfl rfl) (w2'.zA q2 rfl) O_ O_)
   ·rw [if_pos g2];refine xe g2 ?_;apply xz;exact ⟨rfl,dw,k1,d1⟩
theorem F6 {h:AH} (kl:gR h p l) (kd:qf h l.d d) (o:l.fl d):z0q 33 [fM p] h (FlQ h p l.d (l.flush d)):=by
 obtain ⟨o1,o2,o3,o4,o5,o6,o7⟩:=o;obtain ⟨sv,pv,kb⟩:=id kl;have f0:=kb.log;have ok:=kb.ok;refine C33 _ _ _ ?_;refine z6 (show zi Pg .eql 83 (.ptr (some _)) (.ptr none) true=some (.bool false) from K_) ?_;apply yZ;refine sm (GX ..) ?_;apply yb;refine zx K_ ?_;refine zl f0 K_ (w:=.str l.xJ) rfl ?_;refine z6 bP ?_;by_cases g:l.xJ=[]
 ·rw [show (!(l.xJ == []))=false by rw [g];rfl];apply yZ;rw [show l.flush d=l.uu d by unfold Lg.flush Lg.close;rw [if_pos g]];exact z7.of (Qv ⟨o1,O_,o5,O_,O_⟩ (zb.refl _ _) kl kd)
 ·have hlen:0<l.xJ.length:=List.length_pos_iff.2 g;rw [show (!(l.xJ == []))=true by cases hq:l.xJ with | nil=>exact absurd hq g | cons a b=>rfl];apply xz;apply yb;refine zx K_ ?_;refine zl f0 K_ (w:=.str l.xJ) rfl ?_;refine xq K_ ?_;rw [show l.flush d=(l.z0x l.xJ.length).uu d by unfold Lg.flush Lg.close;rw [if_neg g]];refine xN (KR kl (Nat.le_refl _) o2 O_) λh1 q1 k1=>?_;have e1:(l.z0x l.xJ.length).zB.length=l.zB.length+1:=by unfold Lg.z0x;simp
  refine z7.of (Qv (l:=l.z0x l.xJ.length) ⟨o1,by rw [e1];show l.yn.length+_<=_;omega,λc hc=>?_,O_,O_⟩ (q1.sub rfl) k1 (kd.zA q1 rfl rfl rfl rfl));have hc:c∈l.zB++[(⟨l.ep,l.num,l.fin-l.xJ.length,l.xJ.take l.xJ.length⟩:Ch)]:=hc;rcases List.mem_append.1 hc with hc | hc
  ·exact o5 c hc
  ·rw [List.mem_singleton] at hc;subst hc;refine ⟨ok.ep,ok.num,?_,?_⟩
   ·have:=ok.fin;show l.fin-l.xJ.length<_;omega
   ·show 1<=(l.xJ.take l.xJ.length).length/\(l.xJ.take l.xJ.length).length<=214;rw [List.take_length];omega
end
theorem Yi {P:Program} {t:TypeId} {v:V} {name:String} {k:FuncId} {args:List V} {h:AH} {E:yO->AH->Prop} (hm:c9 P t name=some k) (he:vZ P k=true) (c:za P k (v :: args) h E):tD P (.mB t v) name args h E:=by
 unfold tD;simp only [hm];unfold rY;rw [he];exact c
theorem Lg.dy (l:Lg) (cs:List Ch) (d:Dk):(l.ti cs d).2.1.d=l.d/\(l.ti cs d).2.2.n=d.n/\(l.ti cs d).2.2.ops<=d.ops+cs.length+1/\(l.ti cs d).2.2.zT.length<=d.zT.length+4*cs.length:=by
 obtain ⟨h1,h2,h3⟩:=Lg.eA l cs d;unfold Lg.ti;split
 ·exact ⟨rfl,h3,h1,h2⟩
 ·exact ⟨rfl,h3,h1,h2⟩
theorem Lg.T5 (l:Lg) (d:Dk):(l.uu d).2.1.d=l.d/\(l.uu d).2.2.n=d.n/\(l.uu d).2.2.ops<=d.ops+l.zB.length+2/\(l.uu d).2.2.zT.length<=d.zT.length+4*l.zB.length:=by
 unfold Lg.uu;split
 ·exact ⟨rfl,rfl,by show d.ops<=_;omega,by show d.zT.length<=_;omega⟩
 ·split
  ·obtain ⟨h1,h2,h3,h4⟩:=Lg.dy l l.zB d;exact ⟨h1,h2,O_,h4⟩
  ·have t:(l.zB.take 1).length+(l.zB.drop 1).length=l.zB.length:=by rw [<- List.length_append,List.take_append_drop]
   obtain ⟨h1,h2,h3⟩:=Lg.eA l (l.zB.take 1) d;split
   ·exact ⟨rfl,h3,by show (l.wF (l.zB.take 1) d).2.ops<=_;omega,by show (l.wF (l.zB.take 1) d).2.zT.length<=_;omega⟩
   ·obtain ⟨g1,g2,g3,g4⟩:=Lg.dy { l with fresh:=false } (l.zB.drop 1) (l.wF (l.zB.take 1) d).2;exact ⟨g1,g2.trans h3,O_,O_⟩
theorem Lg.jJ (l:Lg) (d:Dk):(l.flush d).2.1.d=l.d/\(l.flush d).2.2.n=d.n/\(l.flush d).2.2.ops<=d.ops+l.zB.length+3/\(l.flush d).2.2.zT.length<=d.zT.length+4*l.zB.length+4:=by
 unfold Lg.flush;obtain ⟨h1,h2,h3,h4⟩:=Lg.T5 l.close d;have e:l.close.d=l.d/\l.close.zB.length<=l.zB.length+1:=by
  unfold Lg.close;split
  ·exact ⟨rfl,O_⟩
  ·exact ⟨rfl,by unfold Lg.z0x;simp⟩
 exact ⟨h1.trans e.1,h2,O_,O_⟩
def Ca.wt (c:Ca) (j:Nat):Int × Lg × Dk:=if c.lg.Ti<=xB (c.frame j).p 7 8 then c.lg.flush c.dk else (0,c.lg,c.dk)
def Ca.wL (c:Ca) (j:Nat) (d:Dk):Int × Dk:=d.write (c.place (c.frame j).id) (wN (xB (c.frame j).p 7 8) (c.frame j).p)
def Ca.clear (c:Ca) (j:Nat):Ca:={ c with fr:=c.fr.set j { c.frame j with xQ:=false,first:=0 } }
def Ca.tJ (c:Ca) (j:Nat) (d:Dk):Int × Ca :=
 if (c.wL j d).1≠0 then ((c.wL j d).1,{ c with dk:=(c.wL j d).2 })
 else if (c.wL j d).2.sync.1≠0 then ((c.wL j d).2.sync.1,{ c with dk:=(c.wL j d).2.sync.2 })
 else (0,({ c with dk:=(c.wL j d).2.sync.2 }:Ca).clear j)
def Ca.xT (c:Ca) (j:Nat):Int × Ca :=
 if (c.wt j).1≠0 then ((c.wt j).1,{ c with lg:=(c.wt j).2.1,dk:=(c.wt j).2.2 })
 else ({ c with lg:=(c.wt j).2.1 }:Ca).tJ j (c.wt j).2.2
abbrev TBk:xr:=[(0,179,0),(1,182,0),(1,184,0),(0,125,0),(2,198,199),(1,211,0),(1,141,0)]
section
variable {h:AH} {p:Nat} {n:ZD} {lv:V} {c:Ca}
theorem Yz.parts {i:vd} {j r:Nat} {f:Fr} (b:Yz h lv c i j r f) (c':Ca) (e1:c'.fr=c.fr) (e2:c'.ck.n=c.ck.n):Yz h lv c' i j r f:=by
 obtain ⟨a1,a2,a3,a4,a5,a6,a7,a8⟩:=b;exact ⟨by rw [e1];exact a1,a2,a3,by rw [e1];exact a4,by rw [e2];exact a5,a6,by rw [e1];exact a7,by rw [e1];exact a8⟩
theorem MS {h0:AH} {j r:Nat} {f:Fr} {i:vd} {d:Dk} (k:pT h p n lv { c with dk:=d }) (a:Yz h lv { c with dk:=d } i j r f) (hi:f.id.2<65536) (q:zb TBk h0 h) (ho:d.ops<99999999999) (hp:d.zT.length<=899999999) :
 z7S (xj TBk h0 (.int .i64 (c.tJ j d).1) λh'=>pT h' p n lv (c.tJ j d).2) (j4 p) (.ptr (some ⟨r,.row 141,[j]⟩)) (.int .u64 (xB f.p 7 8:Nat)) h:=by
 have f0:=k.cache;have gi:yF (.agg (c.fr.map iD)) ([j]++[0])=some (pV f.id):=by rw [List.singleton_append,sG a.hf];rfl
 have gp:yF (.agg (c.fr.map iD)) ([j]++[1])=some (.agg (zd f.p)):=by rw [List.singleton_append,sG a.hf];rfl
 have fm:=a.m;have ef:c.frame j=f:=by unfold Ca.frame;rw [show c.fr[j]?=some f from a.hf];rfl
 have lW:=uI f.p 7 8;rw [show 256 ^ 8=18446744073709551616 from rfl] at lW;have Oc:=k.ok.zH;rw [FU];apply xy;refine ym K_ ?_;refine zY f0 K_ (w:=pU n.d) rfl ?_;apply xy;refine ym K_ ?_;refine zY f0 K_ (w:=.int .i64 c.zH) rfl ?_;apply xy;refine ym K_ ?_;refine zY fm K_ gi ?_;refine ⟨_,Mq c.zH (by have:c.zH<=16:=Oc.2;omega) f.id hi h,?_⟩;apply xy;refine ym K_ ?_;refine zY fm K_ gp ?_;refine ⟨_,Kx a.ok.p lW h,?_⟩;have hlen:(wN (xB f.p 7 8) f.p).length=256:=by unfold wN;rw [pf a.ok.p O_]
 have e2:c.wL j d=d.write (c.place f.id) (wN (xB f.p 7 8) f.p):=by unfold Ca.wL;rw [ef]
 obtain ⟨w1,w2,w3⟩:=Dk.lJ d (c.place f.id) (wN (xB f.p 7 8) f.p);refine xN (WM k.dk (by show d.ops<_;omega) (by show d.zT.length<=_;omega) (c.place f.id) hlen) λh1 q1 d1=>?_;rw [<- e2] at w1 w2 w3;have d1:qf h1 n.d (c.wL j d).2:=by rw [e2];exact d1
 show z0 (z03 (zi Pg .neq 36 (.int .i64 (d.write (c.place f.id) (wN (xB f.p 7 8) f.p)).1) (.int .i64 0) true) h1) _;rw [<- e2];have k1:pT h1 p n lv { c with dk:=(c.wL j d).2 }:=k.parts (pW:=c.lg) (O7:=c.ck) q1 rfl d1 (k.lg.zA q1 rfl rfl rfl) (k.ck.zA q1 rfl rfl rfl) w3 rfl rfl;have a1:Yz h1 lv { c with dk:=(c.wL j d).2 } i j r f:=(a.zA q1 rfl).parts _ rfl rfl;have dw:zb TBk h0 h1:=q.trans (q1.sub rfl);by_cases g:(c.wL j d).1=0
 ·refine yx g ?_;apply yZ;refine sm (D4 ..) ?_;apply yb;refine zx K_ ?_;refine zl k1.cache K_ (w:=pU n.d) rfl ?_;refine xN (Tv k1.dk (by show (c.wL j d).2.ops<_;omega) (by show (c.wL j d).2.zT.length<=_;omega)) λh2 q2 d2=>?_;have n2:=q2.next;obtain ⟨s1,s2,s3⟩:=Dk.cM (c.wL j d).2;have k2:pT h2 p n lv { c with dk:=(c.wL j d).2.sync.2 }:=k1.parts (pW:=c.lg) (O7:=c.ck) q2 rfl d2 (k1.lg.zA q2 rfl rfl rfl) (k1.ck.zA q2 rfl rfl rfl) s3 rfl rfl;have a2:Yz h2 lv { c with dk:=(c.wL j d).2.sync.2 } i j r f:=(a1.zA q2 rfl).parts _ rfl rfl;have po:zb TBk h0 h2:=dw.trans (q2.sub rfl);by_cases g2:(c.wL j d).2.sync.1=0
  ·have er:c.tJ j d=(0,({ c with dk:=(c.wL j d).2.sync.2 }:Ca).clear j):=by unfold Ca.tJ;rw [if_neg (by rw [g];simp),if_neg (by rw [g2];simp)]
   refine yx g2 ?_;apply yZ;refine sm (Ba ..) ?_;rw [er];have gd:yF (.agg (c.fr.map iD)) ([j]++[2])=some (.bool f.xQ):=by rw [List.singleton_append,sG a.hf];rfl
   apply yb;refine zx K_ ?_;refine zq (zM a2.m K_ gd K_ (jB (f':={ f with xQ:=false }) a.hf rfl)) λh3 u3=>?_;have n3:=u3.next;have hf3:(c.fr.set j { f with xQ:=false })[j]?=some { f with xQ:=false }:=List.getElem?_set_self a.lt;have gr:yF (.agg ((c.fr.set j { f with xQ:=false }).map iD)) ([j]++[3])=some (.int .u64 f.first):=by rw [List.singleton_append,sG hf3];rfl
   apply yb;refine zx K_ ?_;refine zq (zM u3.at_ K_ gr K_ (jB (f':={ f with xQ:=false,first:=0 }) hf3 rfl)) λh4 u4=>?_;have n4:=u4.next;rw [List.set_set] at u4;have u24:lD h2 h4 r (.cells true (.row 141) (.agg ((c.fr.set j { f with xQ:=false,first:=0 }).map iD))):=⟨O_,u4.at_,λx hx=>(u4.other x hx).trans (u3.other x hx)⟩
   have k4:=k2.Jk a2 u24 rfl (f':={ f with xQ:=false,first:=0 }) ⟨a.ok.id,a.ok.p,by show (0:Nat)<_;omega⟩;have q4:zb [(1,141,0)] h2 h4:=zb.vP u24 a2.m rfl rfl;refine ⟨rfl,po.trans (q4.sub rfl),?_⟩;have:(({ c with dk:=(c.wL j d).2.sync.2 }:Ca).clear j)={ c with dk:=(c.wL j d).2.sync.2,fr:=c.fr.set j { f with xQ:=false,first:=0 } }:=by
    unfold Ca.clear;rw [show ({ c with dk:=(c.wL j d).2.sync.2 }:Ca).frame j=f from ef]
   rw [this];exact k4.1
  ·have er:c.tJ j d=((c.wL j d).2.sync.1,{ c with dk:=(c.wL j d).2.sync.2 }):=by unfold Ca.tJ;rw [if_neg (by rw [g];simp),if_pos g2]
   refine xe g2 ?_;apply xz;rw [er];exact ⟨rfl,po,k2⟩
 ·have er:c.tJ j d=((c.wL j d).1,{ c with dk:=(c.wL j d).2 }):=by unfold Ca.tJ;rw [if_pos g]
  refine xe g ?_;apply xz;rw [er];exact ⟨rfl,dw,k1⟩
theorem z1I {j r:Nat} {f:Fr} {i:vd} (k:pT h p n lv c) (a:Yz h lv c i j r f) (o:c.lg.fl c.dk) (oo:c.dk.ops+c.lg.zB.length<99999999000) (op:c.dk.zT.length+4*c.lg.zB.length<899999000) :
 z0q 56 [j4 p,.ptr (some ⟨r,.row 141,[j]⟩)] h (xj TBk h (.int .i64 (c.xT j).1) λh'=>pT h' p n lv (c.xT j).2):=by
 have f0:=k.cache;have gp:yF (.agg (c.fr.map iD)) ([j]++[1])=some (.agg (zd f.p)):=by rw [List.singleton_append,sG a.hf];rfl
 have fm:=a.m;have ef:c.frame j=f:=a.frame;have lW:=uI f.p 7 8;rw [show 256 ^ 8=18446744073709551616 from rfl] at lW;have ldur:c.lg.Ti<18446744073709551616:=by obtain ⟨_,_,kb⟩:=k.lg;exact kb.ok.Ti
 refine C56 _ _ _ _ ?_;apply yb;refine zx K_ ?_;refine zl fm K_ gp ?_;refine yf (II a.ok.p h) ?_;apply yb;refine zx K_ ?_;refine zl f0 K_ (w:=.mB 83 (fM n.l)) rfl ?_;refine Yi (k:=36) K_ K_ ?_;refine yf (Nq k.lg) ?_;by_cases g:c.lg.Ti<=xB f.p 7 8
 ·refine lu O_ ?_;apply xz;apply yb;refine zx K_ ?_;refine zl f0 K_ (w:=.mB 83 (fM n.l)) rfl ?_;refine Yi (k:=33) K_ K_ ?_;have e1:c.wt j=c.lg.flush c.dk:=by unfold Ca.wt;rw [ef,if_pos g]
  obtain ⟨s1,s2,s3,s4⟩:=Lg.jJ c.lg c.dk;obtain ⟨o1,o2,o3,o4,o5,o6,o7⟩:=o;refine xN (F6 k.lg (by rw [k.lgd];exact k.dk) ⟨o1,o2,o3,o4,o5,o6,o7⟩) λh1 q1 ⟨k1,d1⟩=>?_;rw [k.lgd] at d1;rw [<- e1] at s1 s2 s3 s4 k1 d1 ⊢;have kk:pT h1 p n lv { c with lg:=(c.wt j).2.1,dk:=(c.wt j).2.2 }:=k.parts (O7:=c.ck) q1 rfl d1 k1 (k.ck.zA q1 rfl rfl rfl) s2 s1 rfl;have aa:Yz h1 lv { c with lg:=(c.wt j).2.1,dk:=(c.wt j).2.2 } i j r f:=(a.zA q1 rfl).parts _ rfl rfl;by_cases g2:(c.wt j).1=0
  ·have er:c.xT j=({ c with lg:=(c.wt j).2.1 }:Ca).tJ j (c.wt j).2.2:=by unfold Ca.xT;rw [if_neg (by rw [g2];simp)]
   refine yx g2 ?_;apply yZ;rw [er];exact z7.of (MS (c:={ c with lg:=(c.wt j).2.1 }) kk aa a.ok.id (q1.sub rfl) O_ O_)
  ·have er:c.xT j=((c.wt j).1,{ c with lg:=(c.wt j).2.1,dk:=(c.wt j).2.2 }):=by unfold Ca.xT;rw [if_pos g2]
   refine xe g2 ?_;apply xz;rw [er];exact ⟨rfl,q1.sub rfl,kk⟩
 ·refine bY O_ ?_;apply yZ;have e1:c.wt j=(0,c.lg,c.dk):=by unfold Ca.wt;rw [ef,if_neg g]
  have er:c.xT j=c.tJ j c.dk:=by unfold Ca.xT;rw [e1,if_neg S_]
  rw [er];exact z7.of (MS (c:=c) (d:=c.dk) k a a.ok.id (zb.refl _ _) O_ O_)
end
abbrev TKc:xr:=[(0,229,0)]
def Ck.step (c:Ck):Ck:={ c with hand:=if c.hand+1=c.n then 0 else c.hand+1 }
def Ck.gj:Nat->Ck->Option Nat × Ck
 | 0,c=>(none,c)
 | k+1,c=>if c.vQ.getD c.hand false=true/\c.pins.getD c.hand 0=0 then (some c.hand,c.step) else Ck.gj k c.step
def Ck.mD:Nat->Ck->Option Nat × Ck
 | 0,c=>(none,c)
 | k+1,c=>if 0<c.pins.getD c.hand 0 then Ck.mD k c.step else if c.seen.getD c.hand false=true then Ck.mD k { c.step with seen:=c.seen.set c.hand false } else (some c.hand,c.step)
def Ck.yE (c:Ck):Option Nat × Ck:=match Ck.gj c.n c with
 | (some i,c')=>(some i,c')
 | (none,c')=>Ck.mD (2*c.n) c'
def Mb:Option Nat->V
 | some i=>.yX [.int .i64 i,.bool true]
 | none=>.yX [.int .i64 0,.bool false]
section
variable {h:AH} {k s d p:Nat} {c:Ck}
theorem Kt (a:oG h k s d p c):z0q 110 [gx k] h (xj TKc h (.int .i64 c.hand) λh'=>oG h' k s d p c.step):=by
 have ho:=a.ok.hand;have hn:=a.ok.n;have fk:=a.fk;refine C110 _ _ _ ?_;apply yb;refine zx K_ ?_;refine zl fk K_ (w:=.int .i64 c.hand) rfl ?_;apply yb;refine zx K_ ?_;refine zl fk K_ (w:=.int .i64 c.hand) rfl ?_;refine zE O_ O_ ?_;apply yb;refine zx K_ ?_;refine zq (zM fk K_ (w:=.int .i64 c.hand) rfl K_ (v':=LK { c with hand:=c.hand+1 } s d p) rfl) λh1 u1=>?_;have n1:=u1.next;have f1:=u1.at_;have q1:zb TKc h h1:=zb.vP u1 fk rfl rfl;apply xy;refine ym K_ ?_;refine zY f1 K_ (w:=.int .i64 (c.hand+1:Nat)) rfl ?_;apply xy;refine ym K_ ?_;refine zY f1 K_ (w:=.y8 (some (⟨p,.row 3,[]⟩,0)) c.n) rfl ?_;refine WK K_ ?_;have o:=a.o;obtain ⟨b1,b2,b3,b4,⟨o1,o2,o3,o4,o5⟩,ok⟩:=a;have fin:∀ (h2:AH) (x:Nat),lD h h2 k (.cells true (.one 229) (LK { c with hand:=x } s d p))->x<c.n->oG h2 k s d p { c with hand:=x }:=by
  intro h2 x u2 hx;have n2:=u2.next;exact ⟨u2.at_,(u2.other s (uQ b2 b1 (by simp [AO.tag]))).trans b2,(u2.other d (uQ b3 b1 (by simp [AO.tag]))).trans b3,(u2.other p (uQ b4 b1 (by simp [AO.tag]))).trans b4,⟨O_,O_,O_,O_,o5⟩,hx,ok.seen,ok.vQ,ok.n,ok.pins⟩
 by_cases g:c.hand+1=c.n
 ·refine U3 O_ ?_;apply xz;apply yb;refine zx K_ ?_;refine zq (zM f1 K_ (w:=.int .i64 (c.hand+1:Nat)) rfl K_ (v':=LK { c with hand:=0 } s d p) rfl) λh2 u2=>?_;have n2:=u2.next;have q2:zb TKc h1 h2:=zb.vP u2 f1 rfl rfl;refine sm (z0U ..) ?_;refine ⟨rfl,q1.trans q2,?_⟩;rw [show c.step={ c with hand:=0 } by unfold Ck.step;rw [if_pos g]];exact fin h2 0 ⟨O_,u2.at_,λj hj=>(u2.other j hj).trans (u1.other j hj)⟩ O_
 ·refine U4 O_ ?_;apply yZ;refine sm (z0U ..) ?_;refine ⟨rfl,q1,?_⟩;rw [show c.step={ c with hand:=c.hand+1 } by unfold Ck.step;rw [if_neg g]];exact fin h1 _ u1 O_
theorem Ck.z4W (c:Ck):c.step.n=c.n:=rfl
theorem z05 {h0:AH} {y:Option Nat × Ck}:∀ (j i m:Nat) (h:AH) (c:Ck),i+j=2*c.n->j<m->zb TK h0 h->oG h k s d p c->y=Ck.mD j c ->
 IO (xj TK h0 (Mb y.1) λh'=>oG h' k s d p y.2) m (gx k) (.int .i64 (2*(c.n:Nat):Int)) (.int .i64 (i:Nat)) h
 | j,i,0,h,c,hj,hm,_,_,_=>by omega
 | 0,i,m+1,h,c,hj,hm,q,a,hy=>by
  have hn:=a.ok.n;rw [P1];refine yD O_ ?_;apply yZ;refine sm (Cl ..) ?_;subst hy;exact ⟨rfl,q,a⟩
 | j+1,i,m+1,h,c,hj,hm,q,a,hy=>by
  have hn:=a.ok.n;have ho:=a.ok.hand;have hs:=a.ok.seen;rw [P1];refine xH O_ ?_;apply xz;refine sm (FK ..) ?_;refine xN (Kt a) λh1 q1 a1=>?_;have n1:=q1.next;have dw:=q.trans (q1.sub rfl);have gp:=qt (l:=c.pins) (i:=c.hand) ho;have fp:h1.m p=some (.cells true (.row 3) (.agg (kP c.pins))):=a1.fp;have fs:h1.m s=some (.cells true (.row 4) (.agg (uv c.seen))):=a1.fs;have ps:∀ x∈c.pins,x<=1000000:=a.ok.pins;have pl:c.pins.getD c.hand 0<=1000000:=ps _ (lO ho);have gs:=sK (l:=c.seen) (i:=c.hand) O_;have ian:zy Pg 87 (.y8 (some (⟨p,.row 3,[]⟩,0)) c.n) (.int .i64 (c.hand:Nat))=some (.ptr (some ⟨p,.row 3,[0+((c.hand:Nat):Int).toNat]⟩)):=xW _ K_ O_ O_;have iab:zy Pg 99 (.y8 (some (⟨s,.row 4,[]⟩,0)) c.n) (.int .i64 (c.hand:Nat))=some (.ptr (some ⟨s,.row 4,[0+((c.hand:Nat):Int).toNat]⟩)):=xW _ K_ O_ O_;have fk:=a1.fk;apply yb;refine zx K_ ?_;refine zl fk K_ (w:=.y8 (some (⟨p,.row 3,[]⟩,0)) c.n) rfl ?_;refine z6 ian ?_;refine zl fp K_ gp ?_;have nxt:∀ (h2:AH) (c2:Ck),c2.n=c.n->zb TK h0 h2->oG h2 k s d p c2->y=Ck.mD j c2->z46 (xj TK h0 (Mb y.1) λh'=>oG h' k s d p y.2) m (gx k) (.int .i64 (2*(c.n:Nat):Int)) (.int .i64 (i:Nat)) h2:=by
   intro h2 c2 e2 q2 a2 y2;rw [CB];refine zE O_ O_ ?_;have:=z05 j (i+1) m h2 c2 O_ O_ q2 a2 y2;rw [e2] at this;exact z7.of this
  by_cases g:0<c.pins.getD c.hand 0
  ·have ey:y=Ck.mD j c.step:=by rw [hy];show (if _ then _ else _)=_;rw [if_pos g]
   refine vT O_ ?_;apply xz;exact z7.of (nxt h1 c.step rfl dw a1 ey)
  ·refine xA O_ ?_;apply yZ;apply yb;refine zx K_ ?_;refine zl fk K_ (w:=.y8 (some (⟨s,.row 4,[]⟩,0)) c.n) rfl ?_;refine z6 iab ?_;refine zl fs K_ gs ?_;cases g2:c.seen.getD c.hand false with
   | true =>
    have ey:y=Ck.mD j { c.step with seen:=c.seen.set c.hand false }:=by rw [hy];show (if _ then _ else if _ then _ else _)=_;rw [if_neg g,if_pos g2]
    apply xz;apply yb;refine zx K_ ?_;refine zl fk K_ (w:=.y8 (some (⟨s,.row 4,[]⟩,0)) c.n) rfl ?_;refine z6 iab ?_;refine zq (zM fs K_ (sK O_) K_ (nB O_ false)) λh2 u2=>?_;have q2:zb TB h1 h2:=zb.vP u2 fs rfl rfl;exact z7.of (nxt h2 { c.step with seen:=c.seen.set c.hand false } rfl (dw.trans (q2.sub rfl)) (a1.z4P u2 (by simp;exact hs)) ey)
   | false =>
    have ey:y=(some c.hand,c.step):=by rw [hy];show (if _ then _ else if _ then _ else _)=_;rw [if_neg g,if_neg (by rw [g2];decide)]
    apply yZ;subst ey;exact ⟨rfl,dw,a1⟩
theorem z09 {h0:AH} {y:Option Nat × Ck} {N:Nat}:∀ (j i m:Nat) (h:AH) (c:Ck),N=c.n->i+j=c.n->j<m->zb TK h0 h->oG h k s d p c->(y=match Ck.gj j c with | (some i,c')=>(some i,c') | (none,c')=>Ck.mD (2*N) c') ->
 Ig (xj TK h0 (Mb y.1) λh'=>oG h' k s d p y.2) m (gx k) (.int .i64 (N:Nat)) (.int .i64 (i:Nat)) h
 | j,i,0,h,c,_,hj,hm,_,_,_=>by omega
 | 0,i,m+1,h,c,eN,hj,hm,q,a,hy=>by
  have hn:=a.ok.n;have fk:=a.fk;rw [Hr];refine yD O_ ?_;apply yZ;refine sm (EH ..) ?_;apply yb;refine zx K_ ?_;refine zl fk K_ (w:=.y8 (some (⟨p,.row 3,[]⟩,0)) c.n) rfl ?_;refine jX K_ ?_;refine TQ O_ O_ ?_;exact ⟨2*c.n+1,z7.of (z05 (2*c.n) 0 _ h c O_ O_ q a (by rw [hy,eN];rfl))⟩
 | j+1,i,m+1,h,c,eN,hj,hm,q,a,hy=>by
  have hn:=a.ok.n;have ho:=a.ok.hand;have hc:=a.ok.vQ;rw [Hr];refine xH O_ ?_;apply xz;refine sm (Co ..) ?_;refine xN (Kt a) λh1 q1 a1=>?_;have n1:=q1.next;have dw:=q.trans (q1.sub rfl);have gp:=qt (l:=c.pins) (i:=c.hand) ho;have fp:h1.m p=some (.cells true (.row 3) (.agg (kP c.pins))):=a1.fp;have fd:h1.m d=some (.cells true (.row 4) (.agg (uv c.vQ))):=a1.fd;have pl:c.pins.getD c.hand 0<=1000000:=a.ok.pins _ (lO ho);have gd:=sK (l:=c.vQ) (i:=c.hand) O_;have ian:zy Pg 87 (.y8 (some (⟨p,.row 3,[]⟩,0)) c.n) (.int .i64 (c.hand:Nat))=some (.ptr (some ⟨p,.row 3,[0+((c.hand:Nat):Int).toNat]⟩)):=xW _ K_ O_ O_;have iab:zy Pg 99 (.y8 (some (⟨d,.row 4,[]⟩,0)) c.n) (.int .i64 (c.hand:Nat))=some (.ptr (some ⟨d,.row 4,[0+((c.hand:Nat):Int).toNat]⟩)):=xW _ K_ O_ O_;have fk:=a1.fk;apply yb;refine zx K_ ?_;refine zl fk K_ (w:=.y8 (some (⟨d,.row 4,[]⟩,0)) c.n) rfl ?_;refine z6 iab ?_;refine zl fd K_ gd ?_;have nxt:¬ (c.vQ.getD c.hand false=true/\c.pins.getD c.hand 0=0)->z2w (xj TK h0 (Mb y.1) λh'=>oG h' k s d p y.2) m (gx k) (.int .i64 (N:Nat)) (.int .i64 (i:Nat)) h1:=by
   intro g;rw [HN];refine zE O_ O_ ?_;exact z7.of (z09 j (i+1) m h1 c.step eN (by rw [Ck.z4W];omega) O_ dw a1 (by
    rw [hy,show Ck.gj (j+1) c=Ck.gj j c.step from by show (if _ then _ else _)=_;rw [if_neg g]]))
  cases g1:c.vQ.getD c.hand false with
  | true =>
   apply sE;apply yb;refine zx K_ ?_;refine zl fk K_ (w:=.y8 (some (⟨p,.row 3,[]⟩,0)) c.n) rfl ?_;refine z6 ian ?_;refine zl fp K_ gp ?_;by_cases g2:c.pins.getD c.hand 0=0
   ·refine xn O_ ?_;refine sm (Pe ..) ?_;apply wc;refine sm (BA ..) ?_;apply xz;rw [show Ck.gj (j+1) c=(some c.hand,c.step) from by show (if _ then _ else _)=_;rw [if_pos ⟨g1,g2⟩]] at hy;subst hy;exact ⟨rfl,dw,a1⟩
   ·refine yB O_ ?_;refine sm (Pe ..) ?_;apply wc;refine sm (BA ..) ?_;apply yZ;exact z7.of (nxt (λg=>g2 g.2))
  | false =>
   apply jo;refine sm (Pe ..) ?_;apply yi;refine sm (BA ..) ?_;apply yZ;exact z7.of (nxt (λg=>by rw [g1] at g;cases g.1))
theorem K8 (a:oG h k s d p c):z0q 55 [gx k] h (xj TK h (Mb c.yE.1) λh'=>oG h' k s d p c.yE.2):=by
 have fk:=a.fk;refine C55 _ _ _ ?_;refine z6 (show zi Pg .eql 134 (gx k) (.ptr none) true=some (.bool false) from K_) ?_;apply yZ;refine sm (FC ..) ?_;apply yb;refine zx K_ ?_;refine zl fk K_ (w:=.y8 (some (⟨p,.row 3,[]⟩,0)) c.n) rfl ?_;refine jX K_ ?_;exact ⟨c.n+1,z7.of (z09 c.n 0 _ h c rfl O_ O_ (zb.refl _ _) a rfl)⟩
end
def Ca.swap (c:Ca) (j:Nat) (d:Dk) (i:vd) (x:List UInt8 × Bool):Ca:=(({ c with dk:=d,fr:=c.fr.set j ⟨i,x.1,false,0,x.2⟩,at_:=qS (nr c.at_ (c.frame j).id) i j }:Ca).Jl j).hold j
def Ca.tB (c:Ca) (j:Nat) (d:Dk) (i:vd) (x:List UInt8 × Bool):Ca:=if j=c.fr.length then c.more d i x else c.swap j d i x
def Ca.load (rt:List UInt8->Bool) (bl:List UInt8) (c:Ca) (i:vd) (j:Nat):(List UInt8 × Int) × Ca :=
 if (c.dk.read (c.place i)).2.1=0 then (((vf rt bl (c.dk.read (c.place i)).1).1,0),c.tB j (c.dk.read (c.place i)).2.2 i (vf rt bl (c.dk.read (c.place i)).1))
 else ((xM 224,(c.dk.read (c.place i)).2.1),{ c with dk:=(c.dk.read (c.place i)).2.2 })
theorem YD {κ α:Type} [DecidableEq κ] {l:List (κ × α)} (hu:jR l) (k:κ):jR (nr l k):=by
 induction l with
 | nil=>exact hu
 | cons x l ih =>
  obtain ⟨k',s'⟩:=x;obtain ⟨u1,u2⟩:=hu;unfold nr;split
  ·exact u2
  ·refine ⟨?_,ih u2⟩;rw [iG u2];split
   ·rfl
   ·exact u1
theorem Ca.Od {c:Ca} (o:c.ok) {j:Nat} (hj:j<c.fr.length) {d:Dk} {i:vd} {x:List UInt8 × Bool} (hd:d.n=c.dk.n) (hi:c.tC i) (jI:i.2<65536) (hk:xI c.at_ i=none) (hx:x.1.length=224):(c.swap j d i x).ok:=by
 obtain ⟨a1,a2,a3,a4,a5,a6,a7,a8,a9⟩:=o;have hf:c.fr[j]?=some c.fr[j]:=List.getElem?_eq_getElem hj;have ef:c.frame j=c.fr[j]:=by unfold Ca.frame;rw [hf];rfl
 have ej:xI c.at_ (c.frame j).id=some j:=(a7 _ _).2 (by rw [hf,ef];rfl);refine ⟨a1,a2,⟨?_,a3.2⟩,?_,?_,?_,?_,YE (YD a8 _) _ _,?_⟩
 ·show (Ca.hold _ _).ck.n=_;rw [lC,V1];exact a3.1
 ·show (c.fr.set j _).length<=c.wE;rw [List.length_set];exact a4
 ·intro f hf;rcases List.mem_or_eq_of_mem_set hf with y | rfl
  ·exact a5 f y
  ·exact ⟨jI,hx,by show 0<_;omega⟩
 ·intro f hf;rcases List.mem_or_eq_of_mem_set hf with y | rfl
  ·exact a6 f y
  ·exact hi
 ·intro k y;show xI (qS (nr c.at_ (c.frame j).id) i j) k=some y↔(c.fr.set j (⟨i,x.1,false,0,x.2⟩:Fr))[y]?.map Fr.id=some k;rw [ri,iG a8];by_cases g:y=j
  ·subst g;rw [List.getElem?_set_self hj];by_cases e:i=k
   ·subst e;rw [if_pos rfl];simp
   ·rw [if_neg e];by_cases e2:(c.frame y).id=k
    ·rw [if_pos e2];constructor
     ·intro q;cases q
     ·intro q;exact absurd (by simpa using q) e
    ·rw [if_neg e2];constructor
     ·intro q;have:=(a7 _ _).1 q;rw [hf] at this;exact absurd (by rw [ef];simpa using this) e2
     ·intro q;exact absurd (by simpa using q) e
  ·rw [List.getElem?_set_ne (Ne.symm g),<- a7];by_cases e:i=k
   ·subst e;rw [if_pos rfl,hk];constructor
    ·intro q;cases q;exact absurd rfl g
    ·intro q;cases q
   ·rw [if_neg e];by_cases e2:(c.frame j).id=k
    ·rw [if_pos e2];constructor
     ·intro q;cases q
     ·intro q;rw [<- e2,ej] at q;cases q;exact absurd rfl g
    ·rw [if_neg e2]
 ·show 2+c.zH+c.zU<=d.n;rw [hd];exact a9
section
variable {h:AH} {p:Nat} {n:ZD} {lv:V} {c:Ca} {rt:List UInt8->Bool} {bl:List UInt8} {i:vd}
theorem Wy {h0:AH} {T:xr} (hT:(TFe.all λt=>T.contains t)=true) {n1 n3 j:Nat} {w:V} (k:pT h p n lv c) (own:vx h) (q:zb T h0 h) (o:n1<h.next/\h0.next<=n3/\n3<h.next) (hj:j<=c.fr.length) (hjm:j<c.wE) (g:c.tC i) (hi:i.2<65536) (hk:xI c.at_ i=none) (ho:c.dk.ops<1000000000000) (hp:∀ x∈c.ck.pins,x<1000000)
 (f1:h.m n1=some (.cells true (.one 43) (pV i))) (f3:h.m n3=some (.cells true (.one 33) w))
 (hR:∀ p h,p.length=224->z0q 60 [pV i,.agg (zd p)] h (zO (.bool (rt p)) h)) (hB:∀ h,z0q 44 [pV i] h (zO (.agg (zd bl)) h)) (T3:bl.length=224) :
 z39 (xj T h0 (ZY (c.load rt bl i j).1) λh'=>gF h' p n (c.load rt bl i j).2) (j4 p) (.ptr (some ⟨n1,.one 43,[]⟩)) (VC n3) (.int .i64 (j:Nat)) h:=by
 have f0:=k.cache;have hm:=k.ok.wE;have Oc:=k.ok.zH;have gB:=k.ok.len;obtain ⟨sa,es⟩:=k.BY.shape;rw [List.length_map] at es;rw [IX];apply xy;refine ym K_ ?_;refine zY f0 K_ (w:=pU n.d) rfl ?_;apply xy;refine ym K_ ?_;refine zY f0 K_ (w:=.int .i64 c.zH) rfl ?_;refine zY f1 K_ (w:=pV i) rfl ?_;refine ⟨_,Mq c.zH O_ i hi h,?_⟩;have hlen:=KW c.dk k.dk.ok.seen (c.place i);have rs:=Dk.NI c.dk (c.place i);refine xN (z3R k.dk ho (c.place i)) λh3 q3 kd3=>?_;have n3':=q3.next;have k3:pT h3 p n lv { c with dk:=(c.dk.read (c.place i)).2.2 }:=k.parts (pW:=c.lg) (O7:=c.ck) q3 rfl kd3 (k.lg.zA q3 rfl rfl rfl) (k.ck.zA q3 rfl rfl rfl) rs.2.2.2.2 rfl rfl;have o3:vx h3:=q3.own own;have g1:=q3.at f1 o.1 rfl;have g3:=q3.at f3 o.2.2 rfl;have ez:zb T h0 h3:=q.trans ((q3.sub (T':=TFe) rfl).sub hT);have el:c.load rt bl i j=if (c.dk.read (c.place i)).2.1=0 then (((vf rt bl (c.dk.read (c.place i)).1).1,0),c.tB j (c.dk.read (c.place i)).2.2 i (vf rt bl (c.dk.read (c.place i)).1))
  else ((xM 224,(c.dk.read (c.place i)).2.1),{ c with dk:=(c.dk.read (c.place i)).2.2 }):=rfl
 generalize c.dk.read (c.place i)=rd at *;refine zg (show zm (rdR rd) 0=some (.agg (zd rd.1)) from rfl) ?_;refine zg (show zm (rdR rd) 1=some (.int .i64 rd.2.1) from rfl) ?_;refine WY SD (tY (zI 256)) (rE _ _) o3 ?_;have u4:=vJ h3 (.cells true (.one 111) (.agg (zd (xM 256))));generalize h3.make (.cells true (.one 111) (.agg (zd (xM 256))))=h4 at u4 ⊢;have q4:zb [] h3 h4:=zb.new u4;have n4:=u4.next;refine zq (zM (p:=[]) u4.at_ K_ rfl (tY hlen) rfl) λh5 u5=>?_;have q5:zb [] h3 h5:=q4.ya u5 (Nat.le_refl _);have n5:=u5.next;have k5:=k3.zA q5 rfl;have j1:=q5.at g1 O_ rfl;have j3:=q5.at g3 O_ rfl;have f4:=u5.at_;have dm:zb T h0 h5:=ez.trans (q5.sub rfl);by_cases ee:rd.2.1=0
 case neg =>
  rw [el,if_neg ee];refine xe ee ?_;apply xz;refine z6 Pv ?_;refine gS j3 (zI 224) λh6 u6=>?_;exact ⟨rfl,dm.ya u6 o.2.1,lv,k5.zA (T:=[(0,33,0)]) (zb.vP u6 j3 rfl rfl) rfl⟩
 rw [el,if_pos ee];refine yx ee ?_;apply yZ;refine sm (W8 ..) ?_;have f05:=k5.cache;apply yb;refine zx K_ ?_;refine zl f05 K_ (w:=lv) rfl ?_;have zdq:=k5.BY;rw [es] at zdq f05 ⊢;refine jX K_ ?_;by_cases ej:j=c.fr.length
 ·have ei:c.tB j rd.2.2 i (vf rt bl rd.1)=c.more rd.2.2 i (vf rt bl rd.1):=by unfold Ca.tB;rw [if_pos ej]
  rw [ei];subst ej;refine xn rfl ?_;apply xz;apply yb;refine zx K_ ?_;refine zl f05 K_ (w:=.y8 sa c.fr.length) rfl ?_;refine z6 bFr0 ?_;refine zq (mV (e:=141) K_ MF (z6r (f:=Yv) (zI 224))) λh6 u6=>?_;have q6:zb [] h5 h6:=zb.new u6;have n6:=u6.next;have frs6:=zdq.zA q6 rfl;have byFr:Pg.bytesOf 141<=1000:=E_;obtain ⟨lv2,h7,e7,zdr,q7⟩:=frs6.app (t:=135) (xt:=135) K_ (y:=.y8 (some (⟨h5.next,.row 141,[]⟩,0)) 1) (wV u6.at_) S_ (Nat.le_trans (Nat.mul_le_mul (show _<=1000 by rw [List.length_map];show c.fr.length+1<=_;omega) byFr) D_);refine ze e7 ?_;have n7:=q7.next;have k6:=k5.zA q6 rfl;have f07:=q7.at k6.cache k6.o.1 rfl;rw [es] at f07;apply yb;refine zx K_ ?_;obtain ⟨sb,eb⟩:=zdr.shape;have shl:zf Pg lv2 135=true:=by rw [eb];kernel_rfl
  refine zq (zM f07 K_ (w:=.y8 sa c.fr.length) rfl shl (v':=caV { c with dk:=rd.2.2 } n lv2) rfl) λh8 u8=>?_;have q8:zb [(0,138,0)] h7 h8:=zb.vP u8 f07 rfl rfl;have n8:=u8.next;have Vg:zb [(0,138,0),(1,141,0)] h5 h8:=(q6.sub rfl).trans ((q7.sub rfl).trans (q8.sub rfl));have m8:Vy h8 p n lv2 { c with dk:=rd.2.2,fr:=c.fr++[Yv] }:=by
   refine ⟨u8.at_,?_,Vg.at k5.at_ k5.o.2 rfl,k5.dk.zA Vg rfl rfl rfl rfl,k5.lg.zA Vg rfl rfl rfl,k5.ck.zA Vg rfl rfl rfl,⟨by have:=k5.o.1;omega,by have:=k5.o.2;omega⟩,k5.lgd⟩;have:=zdr.zA q8 rfl;show nD _ _ _ ((c.fr++[Yv]).map iD);rw [List.map_append];exact this
  have ok':(c.more rd.2.2 i (vf rt bl rd.1)).ok:=Ca.O8 k.ok rs.2.2.2.2 g hi hk hjm (lZ hlen T3);refine z7.of (QJ hT (b:=rd.1) (c:={ c with dk:=rd.2.2,fr:=c.fr++[Yv] }) m8 (dm.trans ((Vg.sub (T':=TFe) rfl).sub hT)) ⟨O_,o.2.1,O_⟩ (j:=c.fr.length) (by show _<(c.fr++[Yv]).length;simp) (by show c.fr.length<c.ck.n;omega) hlen (XC hp O_) hR hB T3 (Vg.at j1 O_ rfl) (Vg.at j3 O_ rfl) (Vg.at f4 O_ rfl) rfl ?_ ok');unfold Ca.more;rw [show (c.fr++[Yv]).set c.fr.length ⟨i,(vf rt bl rd.1).1,false,0,(vf rt bl rd.1).2⟩=c.fr++[⟨i,(vf rt bl rd.1).1,false,0,(vf rt bl rd.1).2⟩] by rw [List.set_append_right _ _ (Nat.le_refl _),Nat.sub_self];rfl]
 ·have ei:c.tB j rd.2.2 i (vf rt bl rd.1)=c.swap j rd.2.2 i (vf rt bl rd.1):=by unfold Ca.tB;rw [if_neg ej]
  rw [ei];have qV:j<c.fr.length:=O_;have ok':(c.swap j rd.2.2 i (vf rt bl rd.1)).ok:=Ca.Od k.ok qV rs.2.2.2.2 g hi hk (lZ hlen T3);refine yB O_ ?_;apply yZ;obtain ⟨r,r1,r2,r3⟩:=k5.row (by exact (by omega:0<c.fr.length));rw [es] at r2;have ea:sa=some (⟨r,.row 141,[]⟩,0):=by cases r2;rfl
  subst ea;have hf:c.fr[j]?=some c.fr[j]:=List.getElem?_eq_getElem qV;have ef:c.frame j=c.fr[j]:=by unfold Ca.frame;rw [hf];rfl
  have gid:yF (.agg (c.fr.map iD)) ([j]++[0])=some (pV (c.frame j).id):=by rw [List.singleton_append,sG hf,ef];rfl
  have r3:h5.m r=some (.cells true (.row 141) (.agg (c.fr.map iD))):=r3;apply xy;refine ym K_ ?_;refine zY f05 K_ (w:=.map (some n.m)) rfl ?_;apply xy;refine ym K_ ?_;refine zY f05 K_ (w:=.y8 (some (⟨r,.row 141,[]⟩,0)) c.fr.length) rfl ?_;refine zg (xW _ K_ O_ O_) ?_;rw [show 0+((j:Nat):Int).toNat=j by omega];refine ym K_ ?_;refine zY r3 K_ gid ?_;refine zq (kDel z1C Dg k5.at_ (fJ (c.frame j).id)) λh6 u6=>?_;have q6:zb [(2,43,3)] h5 h6:=zb.vP u6 k5.at_ rfl rfl;have n6:=u6.next;have m6:Vy h6 p n lv { c with dk:=rd.2.2,at_:=nr c.at_ (c.frame j).id } :=
   ⟨q6.at k5.cache k5.o.1 rfl,k5.BY.zA q6 rfl,u6.at_,k5.dk.zA q6 rfl rfl rfl rfl,k5.lg.zA q6 rfl rfl rfl,k5.ck.zA q6 rfl rfl rfl,⟨by have:=k5.o.1;omega,by have:=k5.o.2;omega⟩,k5.lgd⟩
  exact z7.of (QJ hT (b:=rd.1) (c:={ c with dk:=rd.2.2,at_:=nr c.at_ (c.frame j).id }) m6 (dm.trans ((q6.sub (T':=TFe) rfl).sub hT)) ⟨O_,o.2.1,O_⟩ (j:=j) qV (by show j<c.ck.n;omega) hlen (XC hp O_) hR hB T3 (q6.at j1 O_ rfl) (q6.at j3 O_ rfl) (q6.at f4 O_ rfl) rfl rfl ok')
end
abbrev Yx:xr:=[(0,138,0),(1,141,0),(2,43,3),(0,125,0),(1,4,0),(1,3,0),(0,179,0),(1,182,0),(1,184,0),(2,198,199),(1,211,0),(0,229,0)]
def Ca.wA (rt:List UInt8->Bool) (bl:List UInt8) (c:Ca) (i:vd):(List UInt8 × Int) × Ca :=
 if c.tC i then match xI c.at_ i with
  | some j=>(((c.frame j).p,0),c.hold j)
  | none =>
   if c.fr.length<c.wE then c.load rt bl i c.fr.length
   else match c.ck.yE.1 with
    | none=>((xM 224,6),{ c with ck:=c.ck.yE.2 })
    | some j =>
     if (c.frame j).xQ=true then
      if (({ c with ck:=c.ck.yE.2 }:Ca).xT j).1≠0 then ((xM 224,(({ c with ck:=c.ck.yE.2 }:Ca).xT j).1),(({ c with ck:=c.ck.yE.2 }:Ca).xT j).2)
      else (({ c with ck:=c.ck.yE.2 }:Ca).xT j).2.load rt bl i j
     else ({ c with ck:=c.ck.yE.2 }:Ca).load rt bl i j
 else ((xM 224,1),c)
theorem Ck.eB:∀ (m:Nat) (c:Ck),c.hand<c.n->(Ck.mD m c).2.n=c.n/\(Ck.mD m c).2.pins=c.pins/\∀ j,(Ck.mD m c).1=some j->j<c.n/\c.pins.getD j 0=0
 | 0,c,h=>⟨rfl,rfl,λj e=>by cases e⟩
 | m+1,c,h=>by
  have hs:c.step.hand<c.step.n:=by
   show (if c.hand+1=c.n then 0 else c.hand+1)<c.n;split <;> omega
  unfold Ck.mD;split
  ·exact Ck.eB m c.step hs
  ·split
   ·exact Ck.eB m { c.step with seen:=c.seen.set c.hand false } hs
   ·exact ⟨rfl,rfl,λj e=>by cases e;exact ⟨h,O_⟩⟩
theorem Ck.kL:∀ (m:Nat) (c:Ck),c.hand<c.n->(Ck.gj m c).2.n=c.n/\(Ck.gj m c).2.pins=c.pins/\(Ck.gj m c).2.hand<c.n/\∀ j,(Ck.gj m c).1=some j->j<c.n/\c.pins.getD j 0=0
 | 0,c,h=>⟨rfl,rfl,h,λj e=>by cases e⟩
 | m+1,c,h=>by
  have hs:c.step.hand<c.step.n:=by
   show (if c.hand+1=c.n then 0 else c.hand+1)<c.n;split <;> omega
  unfold Ck.gj;split
  ·rename_i g;exact ⟨rfl,rfl,hs,λj e=>by cases e;exact ⟨h,g.2⟩⟩
  ·exact Ck.kL m c.step hs
theorem Ck.lK (c:Ck) (h:c.hand<c.n):c.yE.2.n=c.n/\c.yE.2.pins=c.pins/\∀ j,c.yE.1=some j->j<c.n/\c.pins.getD j 0=0:=by
 obtain ⟨h1,h2,h3,h4⟩:=Ck.kL c.n c h;unfold Ck.yE;split
 ·rename_i i c' e;rw [e] at h1 h2 h3 h4;exact ⟨h1,h2,λj q=>by cases q;exact h4 i rfl⟩
 ·rename_i c' e;rw [e] at h1 h2 h3;have h1:c'.n=c.n:=h1;have h2:c'.pins=c.pins:=h2;have h3:c'.hand<c.n:=h3;obtain ⟨g1,g2,g3⟩:=Ck.eB (2*c.n) c' O_;exact ⟨g1.trans h1,g2.trans h2,λj q=>by have:=g3 j q;rw [h1,h2] at this;exact this⟩
theorem Ca.Zz (c:Ca) (j:Nat) (d:Dk):(c.tJ j d).2.at_=c.at_/\(c.tJ j d).2.zH=c.zH/\(c.tJ j d).2.zU=c.zU/\(c.tJ j d).2.wE=c.wE/\(c.tJ j d).2.fr.length=c.fr.length/\(c.tJ j d).2.ck=c.ck/\(c.tJ j d).2.dk.ops<=d.ops+2/\(c.tJ j d).2.lg=c.lg:=by
 obtain ⟨w1,w2,w3⟩:=Dk.lJ d (c.place (c.frame j).id) (wN (xB (c.frame j).p 7 8) (c.frame j).p);have e:c.wL j d=d.write (c.place (c.frame j).id) (wN (xB (c.frame j).p 7 8) (c.frame j).p):=rfl;rw [<- e] at w1;obtain ⟨s1,s2,s3⟩:=Dk.cM (c.wL j d).2;unfold Ca.tJ;split
 ·exact ⟨rfl,rfl,rfl,rfl,rfl,rfl,by show (c.wL j d).2.ops<=_;omega,rfl⟩
 ·split
  ·exact ⟨rfl,rfl,rfl,rfl,rfl,rfl,by show (c.wL j d).2.sync.2.ops<=_;omega,rfl⟩
  ·exact ⟨rfl,rfl,rfl,rfl,by show (List.set _ _ _).length=_;rw [List.length_set],rfl,by show (c.wL j d).2.sync.2.ops<=_;omega,rfl⟩
theorem Ca.mh (c:Ca) (j:Nat):(c.xT j).2.at_=c.at_/\(c.xT j).2.zH=c.zH/\(c.xT j).2.zU=c.zU/\(c.xT j).2.wE=c.wE/\(c.xT j).2.fr.length=c.fr.length/\(c.xT j).2.ck=c.ck/\(c.xT j).2.dk.ops<=c.dk.ops+c.lg.zB.length+5:=by
 have hb:(c.wt j).2.2.ops<=c.dk.ops+c.lg.zB.length+3:=by
  unfold Ca.wt;split
  ·exact (Lg.jJ c.lg c.dk).2.2.1
  ·show c.dk.ops<=_;omega
 unfold Ca.xT;split
 ·exact ⟨rfl,rfl,rfl,rfl,rfl,rfl,by show (c.wt j).2.2.ops<=_;omega⟩
 ·obtain ⟨b1,b2,b3,b4,b5,b6,b7,b8⟩:=Ca.Zz { c with lg:=(c.wt j).2.1 } j (c.wt j).2.2;exact ⟨b1,b2,b3,b4,b5,b6,O_⟩
theorem Ca.gq {c c':Ca} (h1:c'.zH=c.zH) (h2:c'.zU=c.zU) {i:vd} (g:c.tC i):c'.tC i:=by
 unfold Ca.tC at g ⊢;rw [h1,h2];exact g
section
variable {h:AH} {p:Nat} {n:ZD} {lv:V} {c:Ca} {rt:List UInt8->Bool} {bl:List UInt8} {i:vd}
structure Ca.dR (c:Ca):Prop where
 fl:c.lg.fl c.dk
 ops:c.dk.ops+c.lg.zB.length<99999990000
 zT:c.dk.zT.length+4*c.lg.zB.length<899990000
 pins:∀ x∈c.ck.pins,x<1000000
theorem Xm (k:pT h p n lv c) (own:vx h) (hi:i.2<65536) (b:c.dR)
 (hR:∀ p h,p.length=224->z0q 60 [pV i,.agg (zd p)] h (zO (.bool (rt p)) h)) (hB:∀ h,z0q 44 [pV i] h (zO (.agg (zd bl)) h)) (T3:bl.length=224) :
 z0q 15 [j4 p,pV i] h (xj Yx h (ZY (c.wA rt bl i).1) λh'=>gF h' p n (c.wA rt bl i).2):=by
 obtain ⟨bf,bo,bp,hp⟩:=b;refine C15 _ _ _ _ ?_;refine zq (yl (fJ i)) λh1 u1=>?_;have n1:=u1.next;have q1:zb [] h h1:=zb.new u1;refine zq (yA na (xf (zI 224))) λh2 u2=>?_;have n2:=u2.next;have q2:zb [] h1 h2:=zb.new u2;have f1:=q2.at u1.at_ O_ rfl;have f3:=u2.at_;have cL:=q1.trans q2;have k2:=k.zA cL rfl;refine zl f1 K_ (w:=pV i) rfl ?_;refine yf (caIs k2 i hi) ?_;by_cases g:c.tC i
 case neg =>
  rw [decide_eq_false g];apply tv;apply xz;refine z6 Pv ?_;refine gS f3 (zI 224) λh3 u3=>?_;have e:c.wA rt bl i=((xM 224,1),c):=by unfold Ca.wA;rw [if_neg g]
  rw [e];exact ⟨rfl,(q1.sub rfl).trans ((zb.new (T:=Yx) u2).ya u3 O_),lv,k2.zA (T:=[(0,33,0)]) (zb.vP u3 f3 rfl rfl) rfl⟩
 rw [decide_eq_true g];apply wq;apply yZ;refine sm (IV ..) ?_;refine zl f1 K_ (w:=pV i) rfl ?_;refine yf (jk k2 i) ?_;cases hk:xI c.at_ i with
 | some j =>
  have e:c.wA rt bl i=(((c.frame j).p,0),c.hold j):=by unfold Ca.wA;rw [if_pos g,hk]
  rw [e];obtain ⟨r,f,a⟩:=k2.at hk;rw [a.find,a.frame];apply wj;apply wl;refine z6 (show zi Pg .neq 129 (.ptr (some _)) (.ptr none) true=some (.bool true) from K_) ?_;apply xz;apply yb;refine zx K_ ?_;refine zl k2.cache K_ (w:=gx n.k) rfl ?_;refine xN (Q3 k2.ck a.jn) λh7 q7 k7=>?_;have n7:=q7.next;have m7:=k2.toM.clock q7 rfl k7;apply yb;refine zx K_ ?_;refine zl m7.cache K_ (w:=gx n.k) rfl ?_;refine xN (z0b m7.ck a.jn (XC hp a.jn)) λh8 q8 k8=>?_;have n8:=q8.next;have m8:=m7.clock q8 rfl k8;have Vg:zb [(1,4,0),(1,3,0)] h2 h8:=(q7.sub rfl).trans (q8.sub rfl);apply yb;refine zx K_ ?_;refine zl (Vg.at a.m a.hr rfl) K_ (w:=.agg (zd f.p)) (by rw [List.singleton_append,sG a.hf];rfl) ?_;refine gS (Vg.at f3 O_ rfl) a.ok.p λh9 u9=>?_;have q9:zb [(0,33,0)] h8 h9:=zb.vP u9 (Vg.at f3 O_ rfl) rfl rfl;exact ⟨rfl,(((cL.sub rfl).trans (Vg.sub rfl):zb Yx h h8)).ya u9 O_,lv,Vy.jg (m8.zA q9 rfl) (Ca.O9 k.ok j)⟩
 | none =>
  apply wj;apply wl;refine z6 (show zi Pg .neq 129 (.ptr none) (.ptr none) true=some (.bool false) from K_) ?_;apply yZ;refine sm (XK ..) ?_;have f0:=k2.cache;have hm:=k2.ok.wE;have gB:=k2.ok.len;have Y5:=cL.own own;have Jn:zr Pg h2 .len [135] [lv]=some (.int .i64 c.fr.length,h2):=by
   obtain ⟨a,ea⟩:=k2.BY.shape;rw [List.length_map] at ea;rw [ea];exact wa K_
  apply yb;refine zx K_ ?_;refine zl f0 K_ (w:=lv) rfl ?_;refine ze Jn ?_;apply yb;refine zx K_ ?_;refine zl f0 K_ (w:=.int .i64 c.wE) rfl ?_;by_cases hl:c.fr.length<c.wE
  ·have e:c.wA rt bl i=c.load rt bl i c.fr.length:=by unfold Ca.wA;rw [if_pos g,hk];simp only [if_pos hl]
   rw [e];refine yB O_ ?_;apply yZ;exact z7.of (Wy (T:=Yx) rfl k2 Y5 (cL.sub rfl) ⟨O_,O_,O_⟩ (Nat.le_refl _) hl g hi hk O_ hp f1 f3 hR hB T3)
  ·refine xn O_ ?_;apply xz;apply yb;refine zx K_ ?_;refine zl f0 K_ (w:=gx n.k) rfl ?_;refine xN (K8 k2.ck) λh3 q3 c3=>?_;have n3:=q3.next;obtain ⟨v1,v2,v3⟩:=Ck.lK c.ck k2.ck.ok.hand;have k3:pT h3 p n lv { c with ck:=c.ck.yE.2 }:=k2.clock q3 rfl c3 v1;have f13:=q3.at f1 O_ rfl;have f33:=q3.at f3 O_ rfl;have ez:zb Yx h h3:=(cL.sub rfl).trans (q3.sub rfl);have A4:=q3.own Y5;cases hv:c.ck.yE.1 with
   | none =>
    have e:c.wA rt bl i=((xM 224,6),{ c with ck:=c.ck.yE.2 }):=by unfold Ca.wA;rw [if_pos g,hk];simp only [if_neg hl,hv]
    rw [e];apply wj;apply wl;apply tv;apply xz;refine z6 Pv ?_;refine gS f33 (zI 224) λh4 u4=>?_;exact ⟨rfl,ez.ya u4 O_,lv,k3.zA (T:=[(0,33,0)]) (zb.vP u4 f33 rfl rfl) rfl⟩
   | some j =>
    obtain ⟨j1,j2⟩:=v3 j hv;have jl:j<c.fr.length:=O_;have hf:c.fr[j]?=some c.fr[j]:=List.getElem?_eq_getElem jl;have ef:c.frame j=c.fr[j]:=by unfold Ca.frame;rw [hf];rfl
    have NK:xI c.at_ (c.fr[j]).id=some j:=(k2.ok.at_ _ _).2 (by rw [hf];rfl);obtain ⟨r,f,a⟩:=k3.at NK;have hff:f=c.fr[j]:=by have:=a.hf;rw [show ({ c with ck:=c.ck.yE.2 }:Ca).fr[j]?=some c.fr[j] from hf] at this;exact (Option.some.inj this).symm
    have f03:=k3.cache;have alv:=a.hl;apply wj;apply wl;apply wq;apply yZ;refine sm (Ew ..) ?_;have ia:zy Pg 135 lv (.int .i64 (j:Nat))=some (.ptr (some ⟨r,.row 141,[j]⟩)):=by
     rw [alv,xW _ K_ O_ (by show ((j:Nat):Int)<(c.fr.length:Int);omega),show 0+((j:Nat):Int).toNat=j by omega]
    have gd:yF (.agg (c.fr.map iD)) ([j]++[2])=some (.bool f.xQ):=by rw [List.singleton_append,sG (show c.fr[j]?=some f by rw [hff];exact hf)];rfl
    apply yb;refine zx K_ ?_;refine zl f03 K_ (w:=lv) rfl ?_;refine z6 ia ?_;refine zx K_ ?_;refine zl a.m K_ gd ?_;have JM:(c.frame j).xQ=f.xQ:=by rw [ef,hff]
    cases hd:f.xQ with
    | false =>
     have e:c.wA rt bl i=({ c with ck:=c.ck.yE.2 }:Ca).load rt bl i j:=by unfold Ca.wA;rw [if_pos g,hk];simp only [if_neg hl,hv];rw [JM,hd];rfl
     rw [e];apply yZ;exact z7.of (Wy (T:=Yx) (c:={ c with ck:=c.ck.yE.2 }) rfl k3 A4 ez ⟨O_,O_,O_⟩ (Nat.le_of_lt jl) (by show j<c.wE;omega) g hi hk (by show c.dk.ops<_;omega) (by show ∀ x∈c.ck.yE.2.pins,_;rw [v2];exact hp) f13 f33 hR hB T3)
    | true =>
     apply xz;apply yb;refine zx K_ ?_;refine zl f03 K_ (w:=lv) rfl ?_;refine z6 ia ?_;refine xN (z1I k3 a bf (by show c.dk.ops+c.lg.zB.length<_;omega) (by show c.dk.zT.length+4*c.lg.zB.length<_;omega)) λh4 q4 k4=>?_;have n4:=q4.next;obtain ⟨b1,b2,b3,b4,b5,b6,b7⟩:=Ca.mh { c with ck:=c.ck.yE.2 } j;have ee:c.wA rt bl i=if (({ c with ck:=c.ck.yE.2 }:Ca).xT j).1≠0 then ((xM 224,(({ c with ck:=c.ck.yE.2 }:Ca).xT j).1),(({ c with ck:=c.ck.yE.2 }:Ca).xT j).2)
      else (({ c with ck:=c.ck.yE.2 }:Ca).xT j).2.load rt bl i j:=by unfold Ca.wA;rw [if_pos g,hk];simp only [if_neg hl,hv];rw [JM,hd,if_pos rfl]
     rw [ee];generalize ({ c with ck:=c.ck.yE.2 }:Ca).xT j=w at *;have f14:=q4.at f13 O_ rfl;have f34:=q4.at f33 O_ rfl;have mE:zb Yx h h4:=ez.trans (q4.sub rfl);have NL:=q4.own A4;by_cases g2:w.1=0
     ·rw [if_neg (by rw [g2];simp)];refine yx g2 ?_;apply yZ;exact z7.of (Wy (T:=Yx) (c:=w.2) rfl k4 NL mE ⟨O_,O_,O_⟩ (by rw [b5];exact Nat.le_of_lt jl) (by rw [b4];show j<c.wE;omega) (Ca.gq b2 b3 g) hi (by rw [b1];exact hk) (by have:w.2.dk.ops<=c.dk.ops+c.lg.zB.length+5:=b7;omega) (by rw [b6];show ∀ x∈c.ck.yE.2.pins,_;rw [v2];exact hp) f14 f34 hR hB T3)
     ·rw [if_pos g2];refine xe g2 ?_;apply xz;refine z6 Pv ?_;refine gS f34 (zI 224) λh5 u5=>?_;exact ⟨rfl,mE.ya u5 O_,lv,k4.zA (T:=[(0,33,0)]) (zb.vP u5 f34 rfl rfl) rfl⟩
end
section
set_option maxRecDepth 100000
noncomputable section
variable (Q:yO->AH->Prop) (ds:List AD) (n n1 n2:Nat) (x0 x1 x3 x4 x7 x9 x11 x12 x13 x18 x29 x30 x31:V) (a0 a1 a2:V) (h:AH)
def B21:=bd Tryz.f21
def Am:List ResultVar:=[.cell 4 50]
abbrev N21:=28
def K21:KT:=(sQ lF (jN (sQ lF (.two (sQ lF lF [4]) lF) [0,1,4,8]) (sQ (.nG [16,18]) lF [4]) [0,1,4]) [0,1,4])
def z8L:Prop:=xG Pg N21 B21 K21 [1,1] [] (zn Pg Am Q) [(0,x0),(1,x1),(4,x4)] h
theorem Cy:z8L Q x0 x1 x4 h=(
 zc (zj (y7 x0 h)) λb =>
 zc (zj (z03 (z0e 161 b 0) h)) λc =>
 zc (zj (z0o h 159 c)) λd =>
 (
 zc (zj (z03 (z0w 159 d x1) h)) λe =>
 zc (zj (z03 (z0e 50 e 0) h)) λf =>
 zc (zj (z0o h 47 f)) λg =>
 (
 zc (zj (y7 x0 h)) λi =>
 zc (zj (z03 (z0e 161 i 0) h)) λj =>
 zc (zj (z0o h 159 j)) λk =>
 (
 zc (zj (z03 (z0w 159 k x1) h)) λl =>
 zc (zj (z03 (z0e 50 l 1) h)) λm =>
 zc (zj (z0o h 48 m)) λo =>
 (
 z0 (z0u h .append [48,48] [(V.y8 none 0),o]) λp q=>(z0o q 47 f=some (g,q))/\(z0o q 159 c=some (d,q))/\(
 zc (zj (z03 (z0y 50 [(0,g),(1,p)]) q)) λr =>
 z0 (z0t q 50 x4 r) λ_ s=>(
 yq (zX Pg [(4,x4)] s Am) λv=>Q (.ret v) s))))))):=K_
theorem C21 (c :
 z0 (z0D h 50) λb c =>
 z0q 68 [a0,a1] c (zS (λd e =>
 z0 (z03 (qd .not d) e) λf g =>
 zP f (
 z0 (z03 (z0y 50 []) g) λi j =>
 z0 (z0t j 50 b i) λ_ k =>
 yq (zX Pg [(4,b)] k Am) λv=>Q (.ret v) k) (
 z7 (z8L Q a0 a1 b g))) λv h=>Q (.panic v) h)):z0q 21 [a0,a1] h Q :=
 mkC Tryz.func21 B21 N21 K21 Am c
def B26:=bd Tryz.f26
def R26:List ResultVar:=[.tmp 2]
abbrev N26:=23
def K26:KT:=(sQ lF (sQ lF (jN (sQ lF (.two (sQ lF (.one (.loop (sQ lF (jN (.two lF lF) (jN (.one (sQ lF lF [3,5,11,12,13])) lF [3,11,12,13]) [3,11,12,13]) [3,11,12,13,14]) [3,11,12,13])) [3,11,12,13]) lF) [0,3,7]) (sQ lF lF [2]) [3]) [0,3]) [0])
def W26 (p l:List Nat) (e:zJ):Prop:=xG Pg N26 B26 K26 p l (zn Pg R26 Q) e h
def z9g:Prop:=W26 Q h [1,1,0,1,0,1,0,0,1,1,1] [n] [(3,x3),(11,x11),(12,x12),(13,x13)]
def zcj:Prop:=W26 Q h [1,1,0,1,0,1,0,0,1,1] [n] [(3,x3),(11,x11),(12,x12),(13,x13)]
def z6K:Prop:=W26 Q h [1,1,1] [] [(3,x3)]
def CI:Prop:=xX Pg N26 B26 K26 [1,1,0,1,0,1,0] [] n (zn Pg R26 Q) [(3,x3),(11,x11),(12,x12),(13,x13)] h
theorem DG:z9g Q n x3 x11 x12 x13 h=(
 z0 (z03 (z0s .add 3 x13 (V.int .i64 1) true) h) λb c =>
 z7 (CI Q n x3 x11 x12 b c)):=K_
theorem Dy:zcj Q n x3 x11 x12 x13 h=(
 z0 (z03 (z0w 159 x11 x13) h) λb c =>
 z0 (z0o c 50 b) λd e =>
 z0 (z0D e 50) λf g =>
 z0 (z0t g 50 f d) λ_ i =>
 z0 (z0o i 50 f) λj k =>
 z0q 71 [j] k (zS (λl m =>
 z0 (z03 (z0s .add 3 x3 l false) m) λo p =>
 z7 (z9g Q n o x11 x12 x13 p)) λv h=>Q (.panic v) h)):=K_
theorem Ii:z6K Q x3 h=(
 Q (.ret x3) h):=K_
theorem Ql:CI Q (n+1) x3 x11 x12 x13 h=(
 z0 (z03 (z0s .lss 3 x13 x12 false) h) λb c =>
 zP b (
 z7 (zcj Q n x3 x11 x12 x13 c)) (
 z7 (z6K Q x3 c))):=K_
theorem C26 (c :
 z0 (z03 (z0s .neq 53 a0 (V.ptr none) true) h) λb c =>
 zP b (
 z0 (y7 a0 c) λd e =>
 z0 (z03 (z0e 161 d 0) e) λf g =>
 z0 (z0o g 159 f) λi j =>
 z0 (z0u j .len [159] [i]) λk l =>
 ∃ n,z7 (CI Q n (V.int .i64 0) i k (V.int .i64 0) l)) (
 z7 (z6K Q (V.int .i64 0) c))):z0q 26 [a0] h Q :=
 mkC Tryz.func26 B26 N26 K26 R26 c
def B68:=bd Tryz.f68
def R68:List ResultVar:=[.tmp 4]
abbrev N68:=20
def K68:KT:=(sQ lF (jN (.rm [[0,1,7,9],[11,18]]) lF [4]) [0,1])
def zdz:Prop:=xG Pg N68 B68 K68 [1,1] [] (zn Pg R68 Q) [(4,x4)] h
def z3r:Prop:=yu Pg N68 B68 K68 [1,0] 4 2 [] (zn Pg R68 Q) [(11,x11),(18,x18)] h
def z2p:Prop:=yu Pg N68 B68 K68 [1,0] 2 1 [] (zn Pg R68 Q) [(0,x0),(1,x1),(7,x7),(9,x9)] h
theorem z0Z:zdz Q x4 h=(
 Q (.ret x4) h):=K_
theorem Bx:z3r Q x11 x18 h=(
 z0 (yc x11 x18 (V.bool false) h) λb c =>
 z7 (zdz Q b c)):=K_
theorem Qy:z2p Q x0 x1 x7 x9 h=(
 z0 (yc x7 x9 (V.bool false) h) λb c =>
 vp b true (
 z0 (y7 x0 c) λd e =>
 z0 (z03 (z0e 161 d 0) e) λf g =>
 z0 (z0o g 159 f) λi j =>
 z0 (z0u j .len [159] [i]) λk l =>
 z0 (z03 (z0s .lss 3 x1 k false) l) λm o =>
 z7 (z3r Q b m o)) (z7 (z3r Q b yw c))):=K_
theorem C68 (c :
 z0 (z03 (z0s .neq 53 a0 (V.ptr none) true) h) λb c =>
 vp b true (
 z0 (z03 (z0s .geq 3 a1 (V.int .i64 0) true) c) λd e =>
 z7 (z2p Q a0 a1 b d e)) (z7 (z2p Q a0 a1 b yw c))):z0q 68 [a0,a1] h Q :=
 mkC Tryz.func68 B68 N68 K68 R68 c
def B74:=bd Tryz.f74
def R74:List ResultVar:=[.tmp 4,.tmp 5]
abbrev N74:=45
def K74:KT:=(sQ lF (jN (sQ lF (.two (sQ lF lF [4,5]) lF) [0,1,9]) (jN (sQ lF (.two (sQ lF lF [4,5]) lF) [0,1,21]) (jN (sQ lF (.one (.loop (sQ lF (jN (.two lF lF) (jN (.one (sQ lF (sQ lF (.two (sQ lF (sQ lF lF [4,5]) [6]) lF) [0,1,6,29,30,31,38]) [0,1,6,7,29,30,31])) lF [0,1,29,30,31]) [0,1,29,30,31]) [0,1,29,30,31,32]) [0,1,29,30,31])) [0,1,29,30,31]) (sQ lF lF [4,5]) []) [0,1]) [0,1]) [0,1])
def W74 (p l:List Nat) (e:zJ):Prop:=xG Pg N74 B74 K74 p l (zn Pg R74 Q) e h
def z6i:Prop:=W74 Q h [1,1,1,0,1,0,0,1,1,1] [n] [(0,x0),(1,x1),(29,x29),(30,x30),(31,x31)]
def z8N:Prop:=W74 Q h [1,1,1,0,1,0,0,1,1] [n] [(0,x0),(1,x1),(29,x29),(30,x30),(31,x31)]
def S9:Prop:=W74 Q h [1,1,1,1] [] []
def z9j:Prop:=xX Pg N74 B74 K74 [1,1,1,0,1,0] [] n (zn Pg R74 Q) [(0,x0),(1,x1),(29,x29),(30,x30),(31,x31)] h
def zaL:Prop:=W74 Q h [1,1,1] [] [(0,x0),(1,x1)]
def z7J:Prop:=W74 Q h [1,1] [] [(0,x0),(1,x1)]
theorem Q6:z6i Q n x0 x1 x29 x30 x31 h=(
 z0 (z03 (z0s .add 3 x31 (V.int .i64 1) true) h) λb c =>
 z7 (z9j Q n x0 x1 x29 x30 b c)):=K_
theorem Wc:z8N Q n x0 x1 x29 x30 x31 h=(
 z0 (z03 (z0w 159 x29 x31) h) λb c =>
 z0 (z0o c 50 b) λd e =>
 z0 (z0D e 50) λf g =>
 z0 (z0t g 50 f d) λ_ i =>
 z0 (z0o i 50 f) λj k =>
 z0q 116 [j,x1] k (zS (λl m =>
 zP l (
 z0 (y7 x0 m) λo p =>
 z0 (z03 (z0e 161 o 1) p) λq r =>
 z0 (z0t r 3 q x31) λ_ s =>
 Q (.ret (V.yX [x31,(V.bool true)])) s) (
 z7 (z6i Q n x0 x1 x29 x30 x31 m))) λv h=>Q (.panic v) h)):=K_
theorem QG:S9 Q h=(
 Q (.ret (V.yX [(V.int .i64 0),(V.bool false)])) h):=K_
theorem DA:z9j Q (n+1) x0 x1 x29 x30 x31 h=(
 z0 (z03 (z0s .lss 3 x31 x30 false) h) λb c =>
 zP b (
 z7 (z8N Q n x0 x1 x29 x30 x31 c)) (
 z7 (S9 Q c))):=K_
theorem ky:zaL Q x0 x1 h=(
 z0 (y7 x0 h) λb c =>
 z0 (z03 (z0e 161 b 0) c) λd e =>
 z0 (z0o e 159 d) λf g =>
 z0 (z0u g .len [159] [f]) λi j =>
 ∃ n,z7 (z9j Q n x0 x1 f i (V.int .i64 0) j)):=K_
theorem z4H:z7J Q x0 x1 h=(
 zc (zj (y7 x0 h)) λb =>
 zc (zj (z03 (z0e 161 b 0) h)) λc =>
 zc (zj (z0o h 159 c)) λd =>
 zc (zj (y7 x0 h)) λe =>
 zc (zj (z03 (z0e 161 e 1) h)) λf =>
 zc (zj (z0o h 3 f)) λg =>
 zc (zj (z03 (z0w 159 d g) h)) λi =>
 zc (zj (z0o h 50 i)) λj =>
 ∃ k,z0q 116 [j,x1] h (zO k h)/\(
 zP k (
 z0 (y7 x0 h) λl m =>
 z0 (z03 (z0e 161 l 1) m) λo p =>
 z0 (z0o p 3 o) λq r =>
 Q (.ret (V.yX [q,(V.bool true)])) r) (
 z7 (zaL Q x0 x1 h)))):=K_
theorem C74 (c :
 z0 (z03 (z0s .eql 53 a0 (V.ptr none) true) h) λb c =>
 zP b (
 Q (.ret (V.yX [(V.int .i64 0),(V.bool false)])) c) (
 z7 (z7J Q a0 a1 c))):z0q 74 [a0,a1] h Q :=
 mkC Tryz.func74 B74 N74 K74 R74 c
def B135:=bd Tryz.f135
def R135:List ResultVar:=[]
abbrev N135:=21
def K135:KT:=(sQ lF (sQ lF (.two (.nG [9,12]) lF) [0,1,5,8]) [0,1,5])
theorem C135 (c :
 z0 (z0G h 50 a2) λb c =>
 z0q 68 [a0,a1] c (zS (λd e =>
 zP d (
 zc (zj (y7 a0 e)) λf =>
 zc (zj (z03 (z0e 161 f 0) e)) λg =>
 zc (zj (z0o e 159 g)) λi =>
 (
 zc (zj (z03 (z0e 50 b 0) e)) λj =>
 zc (zj (z0o e 47 j)) λk =>
 (
 zc (zj (z03 (z0e 50 b 1) e)) λl =>
 zc (zj (z0o e 48 l)) λm =>
 (
 z0 (z0u e .append [48,48] [(V.y8 none 0),m]) λo p=>(z0o p 47 j=some (k,p))/\(z0o p 159 g=some (i,p))/\(
 zc (zj (z03 (z0y 50 [(0,k),(1,o)]) p)) λq =>
 zc (zj (z03 (z0w 159 i a1) p)) λr =>
 z0 (z0t p 50 r q) λ_ s=>(
 Q (.ret (V.yX [])) s)))))) (
 Q (.ret (V.yX [])) e)) λv h=>Q (.panic v) h)):z0q 135 [a0,a1,a2] h Q :=
 mkC Tryz.func135 B135 N135 K135 R135 c
end
end
theorem U9 {s:List UInt8} (hs:s.length=224) {a b:Nat} {o:Ol} (h:ry s a=some (o,b)):o.ok/\a<b/\b<=224:=by
 unfold ry at h;split at h
 ·cases h
 ·split at h
  ·split at h
   ·cases h
   ·cases h;refine ⟨⟨uI s (a+1) 2,uI s (a+3) 4,uI s (a+7) 2,?_⟩,O_,O_⟩;show (List.take _ _).length<_;rw [List.length_take,List.length_drop];omega
  ·cases h;exact ⟨⟨D_,D_,D_,D_⟩,O_,O_⟩
section
variable {h0:AH} {n4 n7:Nat} {s:List UInt8} {zZ sC:Nat} {r:Option Un}
theorem AZ (hs:s.length=224) (l4:h0.next<=n4) (l7:h0.next<=n7) (n74:n7≠n4) (hl:zZ<18446744073709551616) (hc:sC<=255):∀ (k i m a:Nat) (h:AH) (l:List Ol) (sv:V),i+k=sC->k<m->l.length=i->(∀ o∈l,o.ok)->a<=224->r=eF s zZ l (rh s k a)->zb [] h0 h->j0 60 h0 h sv (l.map Ol.v)->n4<h.next->n7<h.next ->
 h.m n7=some (.cells true (.one 50) (vE zZ sv))->h.m n4=some (.cells true (.one 50) (vE 0 (.y8 none 0))) ->
 E7 (GU h0 r) m (kS n4) (.str s) (kS n7) (.int .i64 (a:Nat)) (.int .i64 (sC:Nat)) (.int .i64 (i:Nat)) h
 | k,i,0,a,h,l,sv,hk,hm,_,_,_,_,_,_,_,_,_,_=>by omega
 | 0,i,m+1,a,h,l,sv,hk,hm,UZ,hok,ha,hr,q,dh,x4,x7,f7,f4=>by
  rw [Qa];refine yD O_ ?_;apply yZ;refine sm (cx ..) ?_;refine ⟨225,z7.of (AP (e:=a) hs l4 n74 hl O_ hok q dh f7 f4 ?_ (224-a) a 225 O_ O_ (Nat.le_refl _) (λi h1 h2=>by omega))⟩;rw [hr];show (if _ then _ else _)=_;rw [List.append_nil]
 | k+1,i,m+1,a,h,l,sv,hk,hm,UZ,hok,ha,hr,q,dh,x4,x7,f7,f4=>by
  rw [Qa];refine xH O_ ?_;apply xz;refine sm (Gl ..) ?_;refine zq (yA Mw (qh _)) λh1 u1=>?_;have n1:=u1.next;have q1:zb [] h h1:=zb.new u1;have dw:=q.trans q1;have f71:=q1.at f7 x7 rfl;have f41:=q1.at f4 x4 rfl;have f9:=u1.at_;have JS:=dh.zA q1 rfl;have app:∀ (o:Ol) (b:Nat) (h2:AH),ry s a=some (o,b)->zb [(0,60,0)] h1 h2->zb [] h0 h2->h2.m h.next=some (.cells true (.one 60) o.v) ->
   zbo (GU h0 r) m (kS n4) (.str s) (kS n7) (.int .i64 (b:Nat)) (.ptr (some ⟨h.next,.one 60,[]⟩)) (.int .i64 (sC:Nat)) (.int .i64 (i:Nat)) h2:=by
   intro o b h2 ho q2 po f92;obtain ⟨o1,o2,o3⟩:=U9 hs ho;have n2:=q2.next;have f72:=q2.at f71 O_ rfl;have f42:=q2.at f41 O_ rfl;have rw2:=JS.zA q2 rfl;rw [Gb];refine zx K_ ?_;refine zl f72 K_ (w:=sv) rfl ?_;refine zl f92 K_ (w:=o.v) rfl ?_;refine zq (mV (e:=60) K_ Mw (qh o)) λh3 u3=>?_;have n3:=u3.next;have q3:zb [] h2 h3:=zb.new u3;have Xc:=rw2.zA q3 rfl;obtain ⟨qL,h4,e4,O6,q4,qq4⟩:=Xc.app (by have:=po.next;omega) TX (wV (by exact u3.at_)) S_ (ac (by rw [List.length_map];simp;omega));have n4':=q4.next;refine ze e4 ?_;have f74:=q4.at (q3.at f72 O_ rfl) O_ rfl;have f44:=q4.at (q3.at f42 O_ rfl) O_ rfl;refine zx K_ ?_;refine zq (zM f74 K_ (w:=sv) rfl (Mr O6.jg.dt) (v':=vE zZ qL) rfl) λh5 u5=>?_;have n5:=u5.next;have dm:zb [] h0 h5:=(qq4 _ (po.trans q3)).ya u5 l7;refine sm (EB ..) ?_;refine zE O_ O_ ?_;rw [show (i:Int)+1=((i+1:Nat):Int) by omega];refine z7.of (AZ hs l4 l7 n74 hl hc k (i+1) m b h5 (l++[o]) qL O_ O_ (by simp;omega) (λx hx=>?_) o3 ?_ dm ?_ O_ O_ u5.at_ ((u5.other n4 (Ne.symm n74)).trans f44))
   ·rcases List.mem_append.1 hx with hx | hx
    ·exact hok x hx
    ·rw [List.mem_singleton] at hx;subst hx;exact o1
   ·rw [hr];show eF s zZ l (match ry s a with | none=>none | some (o,b)=>match rh s k b with | none=>none | some (l,e)=>some (o :: l,e))=_;rw [ho];show eF s zZ l (match rh s k b with | none=>none | some (l,e)=>some (o :: l,e))=_;cases rh s k b with
    | none=>rfl
    | some x =>
     obtain ⟨l',e⟩:=x;show (if _ then _ else _)=(if _ then _ else _)
     rw [List.append_assoc];rfl
   ·rw [List.map_append];exact O6.zA (T:=[(0,50,0)]) (zb.vP u5 f74 rfl rfl) rfl
  have bad:ry s a=none->r=none:=by
   intro e;rw [hr];show eF s zZ l (match ry s a with | none=>none | some (o,b)=>match rh s k b with | none=>none | some (l,e)=>some (o :: l,e))=_;rw [e];rfl
  by_cases c1:s.length<=a
  ·refine xq K_ ?_;refine rj O_ ?_;apply tA;refine sm (Xz ..) ?_;apply wc;refine sm (HW ..) ?_;apply xz;refine z6 SY ?_;exact bO dw l4 f41 (bad (by unfold ry;rw [if_pos (.inl c1)]))
  ·have ix:vN Pg 9 (.str s) (.int .i64 (a:Nat))=some (.int .u8 ((s.getD a 0).toNat:Int)):=js K_ O_;obtain ⟨A,hA⟩:∃ A,(s.getD a 0).toNat=A:=⟨_,rfl⟩
   rw [hA] at ix;by_cases c2:1<A
   ·refine xq K_ ?_;refine qm O_ ?_;apply xc;refine z6 ix ?_;refine vT O_ ?_;refine sm (Xz ..) ?_;apply yi;refine sm (HW ..) ?_;apply xz;refine z6 SY ?_;exact bO dw l4 f41 (bad (by unfold ry;rw [if_pos (.inr (by rw [hA];exact c2))]))
   ·by_cases c3:A=1
    ·subst c3;refine xq K_ ?_;refine qm O_ ?_;apply xc;refine z6 ix ?_;refine xA O_ ?_;refine sm (Xz ..) ?_;apply yi;refine sm (HW ..) ?_;apply yZ;refine sm (GH ..) ?_;refine z6 ix ?_;refine xn O_ ?_;refine zx K_ ?_;refine zq (zM f9 K_ (w:=.bool false) rfl K_ (v':=(⟨true,0,0,0,0,[]⟩:Ol).v) rfl) λh2 u2=>?_;have n2:=u2.next;have q2:zb [(0,60,0)] h1 h2:=zb.vP u2 f9 rfl rfl;have po:zb [] h0 h2:=dw.ya u2 q.next;have f92:=u2.at_;have f42:=q2.at f41 O_ rfl;by_cases c4:s.length<a+11
     ·refine zE O_ O_ ?_;refine zx K_ ?_;refine zl f92 K_ (w:=.bool true) rfl ?_;apply xz;refine zE O_ O_ ?_;refine xq K_ ?_;refine vT O_ ?_;apply tA;refine sm (Tz ..) ?_;apply wc;refine sm (Qw ..) ?_;apply xz;refine z6 SY ?_;exact bO po l4 f42 (bad (by unfold ry;rw [if_neg O_,if_pos hA,if_pos (.inl c4)]))
     ·have ix9:vN Pg 9 (.str s) (.int .i64 ((a:Int)+1+9))=some (.int .u8 ((s.getD (a+10) 0).toNat:Int)):=by
       rw [show (a:Int)+1+9=((a+10:Nat):Int) by omega];exact js K_ O_
      obtain ⟨N,hN⟩:∃ N,(s.getD (a+10) 0).toNat=N:=⟨_,rfl⟩
      have lN:N<256:=by rw [<- hN];exact UInt8.toNat_lt _
      rw [hN] at ix9;by_cases c5:s.length<a+11+N
      ·refine zE O_ O_ ?_;refine zx K_ ?_;refine zl f92 K_ (w:=.bool true) rfl ?_;apply xz;refine zE O_ O_ ?_;refine xq K_ ?_;refine xA O_ ?_;apply xc;refine zE O_ O_ ?_;refine zE O_ O_ ?_;refine z6 ix9 ?_;refine tQ E_ O_ O_ ?_;refine zE O_ O_ ?_;refine xq K_ ?_;refine vT O_ ?_;refine sm (Tz ..) ?_;apply yi;refine sm (Qw ..) ?_;apply xz;refine z6 SY ?_;exact bO po l4 f42 (bad (by unfold ry;rw [if_neg O_,if_pos hA,if_pos (.inr (by rw [hN];exact c5))]))
      ·refine zE O_ O_ ?_;refine zx K_ ?_;refine zl f92 K_ (w:=.bool true) rfl ?_;apply xz;refine zE O_ O_ ?_;refine xq K_ ?_;refine xA O_ ?_;apply xc;refine zE O_ O_ ?_;refine zE O_ O_ ?_;refine z6 ix9 ?_;refine tQ E_ O_ O_ ?_;refine zE O_ O_ ?_;refine xq K_ ?_;refine xA O_ ?_;refine sm (Tz ..) ?_;apply yi;refine sm (Qw ..) ?_;apply yZ;refine sm (PG ..) ?_;have gt:∀ (b n:Nat) (bi:Int),bi=((b:Nat):Int)->n<=8->b+n<=s.length->∀ h,z0q 66 [.str s,.int .i64 bi,.int .i64 n] h (zO (.yX [.int .u64 (xB s b n),.bool true]) h):=λb n bi e1 e2 e3 h=>by rw [e1];exact kx e2 e3 O_ h
       have w2:=uI s (a+1) 2;have w4:=uI s (a+3) 4;have w7:=uI s (a+7) 2;rw [show 256 ^ 2=65536 from rfl] at w2 w7;rw [show 256 ^ 4=4294967296 from rfl] at w4;have ix8:vN Pg 9 (.str s) (.int .i64 ((a:Int)+1+8))=some (.int .u8 ((s.getD (a+9) 0).toNat:Int)):=by
        rw [show (a:Int)+1+8=((a+9:Nat):Int) by omega];exact js K_ O_
       have bR:zD Pg 58 [(0,.int .u16 (xB s (a+7) 2:Nat)),(1,.int .u8 ((s.getD (a+9) 0).toNat:Int))]=some (.agg [.int .u16 (xB s (a+7) 2:Nat),.int .u8 ((s.getD (a+9) 0).toNat:Int)]):=K_;have g1:=gt (a+1) 2 ((a:Int)+1) O_ O_ O_;have g2:=gt (a+3) 4 ((a:Int)+1+2) O_ O_ O_;have g3:=gt (a+7) 2 ((a:Int)+1+6) O_ O_ O_;refine yf (g1 _) ?_;apply wj;apply wl;refine zE O_ O_ ?_;refine yf (g2 _) ?_;apply wj;apply wl;refine zE O_ O_ ?_;refine yf (g3 _) ?_;apply wj;apply wl;refine YO E_ O_ O_ ?_;refine YF E_ O_ O_ ?_;refine YO E_ O_ O_ ?_;refine rJ O_ O_ ?_;refine zg ix8 ?_;refine zg bR ?_;refine ym K_ ?_;refine zq (zM f92 K_ (w:=.int .u16 0) rfl K_ (v':=(⟨true,xB s (a+1) 2,0,0,0,[]⟩:Ol).v) rfl) λh3 u3=>?_;have n3:=u3.next;refine And.intro (pA (t8 (k:=.u16) E_ (jq O_ O_))) ?_;refine And.intro (pA (t8 (k:=.u32) E_ (XN O_ O_))) ?_;refine ym K_ ?_;refine zq (zM u3.at_ K_ (w:=.int .u32 0) rfl K_ (v':=(⟨true,xB s (a+1) 2,xB s (a+3) 4,0,0,[]⟩:Ol).v) rfl) λh4 u4=>?_;have n4':=u4.next;refine And.intro (pA (t8 (k:=.u16) E_ (jq O_ O_))) ?_;refine ym K_ ?_;refine zq (zM u4.at_ K_ (w:=.agg [.int .u16 0,.int .u8 0]) rfl K_ (v':=(⟨true,xB s (a+1) 2,xB s (a+3) 4,xB s (a+7) 2,s.getD (a+9) 0,[]⟩:Ol).v) rfl) λh5 u5=>?_;have n5:=u5.next;have es:∀ h,yC Pg h 9 (.str s) (some (.int .i64 ((a:Int)+1+10))) (some (.int .i64 ((a:Int)+1+10+(N:Nat))))=some (.str ((s.drop (a+11)).take N)):=by
        intro h;rw [Z8 (l:=a+11) (k:=a+11+N) K_ (by rw [show (a:Int)+1+10=((a+11:Nat):Int) by omega];exact tU O_) (by rw [show (a:Int)+1+10+(N:Nat)=((a+11+N:Nat):Int) by omega];exact tU O_) O_ O_];rw [show a+11+N-(a+11)=N by omega]
       refine zE O_ O_ ?_;refine z6 ix9 ?_;refine tQ E_ O_ O_ ?_;refine zE O_ O_ ?_;refine zE O_ O_ ?_;refine zE O_ O_ ?_;refine z6 (es _) ?_;refine zx K_ ?_;refine zq (zM u5.at_ K_ (w:=.str []) rfl K_ (v':=(⟨true,xB s (a+1) 2,xB s (a+3) 4,xB s (a+7) 2,s.getD (a+9) 0,(s.drop (a+11)).take N⟩:Ol).v) rfl) λh6 u6=>?_;have n6:=u6.next;have q26:zb [(0,60,0)] h2 h6:=(zb.vP u3 f92 rfl rfl).trans ((zb.vP u4 u3.at_ rfl rfl).trans ((zb.vP u5 u4.at_ rfl rfl).trans (zb.vP u6 u5.at_ rfl rfl)));have Tj:zb [] h0 h6:=(((po.ya u3 q.next).ya u4 q.next).ya u5 q.next).ya u6 q.next;refine zE O_ O_ ?_;refine zE O_ O_ ?_;rw [show (a:Int)+1+(10+(N:Nat))=((a+11+N:Nat):Int) by omega];exact z7.of (app _ _ h6 (by unfold ry;rw [if_neg O_,if_pos hA,hN,if_neg O_]) (q2.trans q26) Tj u6.at_)
    ·have c3:A=0:=O_;subst c3;refine xq K_ ?_;refine qm O_ ?_;apply xc;refine z6 ix ?_;refine xA O_ ?_;refine sm (Xz ..) ?_;apply yi;refine sm (HW ..) ?_;apply yZ;refine sm (GH ..) ?_;refine z6 ix ?_;refine yB O_ ?_;refine zx K_ ?_;refine zq (zM f9 K_ (w:=.bool false) rfl K_ (v':=Ol.z.v) rfl) λh2 u2=>?_;have n2:=u2.next;have q2:zb [(0,60,0)] h1 h2:=zb.vP u2 f9 rfl rfl;have po:zb [] h0 h2:=dw.ya u2 q.next;have f92:=u2.at_;refine zE O_ O_ ?_;refine zx K_ ?_;refine zl f92 K_ (w:=.bool false) rfl ?_;apply yZ;exact z7.of (app Ol.z (a+1) h2 (by unfold ry;rw [if_neg O_,if_neg O_]) q2 po f92)
end
theorem RL {h:AH} {no:Nat} {s:List UInt8} (hs:s.length=224) (vk:no<65536):z0q 19 [.int .u16 no,.agg (zd s)] h (GU h (ua no s)):=by
 refine C19 _ _ _ _ ?_;refine zq (yl (xf hs)) λh1 u1=>?_;have n1:=u1.next;have q1:zb [] h h1:=zb.new u1;refine zq (yA UK uE) λh2 u2=>?_;have n2:=u2.next;have q2:zb [] h1 h2:=zb.new u2;have po:=q1.trans q2;have f1:=q2.at u1.at_ O_ rfl;have f2:=u2.at_;refine zl f1 K_ (w:=.agg (zd s)) rfl ?_;refine yf (Ko (kind:=2) hs vk h2) ?_;by_cases qU:oF 2 no s
 ·rw [decide_eq_true qU];have eg:ua no s=eF s (xB s 7 8) [] (rh s (s.getD 15 0).toNat 16):=by unfold ua;rw [if_pos qU]
  apply wq;apply yZ;refine sm (DQ ..) ?_;refine z6 (eX (n:=224) f1 K_ (a:=0) (b:=224) rfl rfl O_ O_) ?_;have al:=am (l:=s) f1 K_;rw [hs] at al;refine z6 al ?_;refine zl f1 K_ (w:=.agg (zd s)) rfl ?_;refine yf (II hs h2) ?_;refine z6 (show zD Pg 50 [(0,.int .u64 (xB s 7 8:Nat))]=some (vE (xB s 7 8) (.y8 none 0)) from K_) ?_;refine zq (yA UK uE) λh3 u3=>?_;have n3:=u3.next;have q3:zb [] h2 h3:=zb.new u3;have hsh:zf Pg (vE (xB s 7 8) (.y8 none 0)) 50=true:=K_;refine zq (zM (p:=[]) u3.at_ K_ rfl hsh rfl) λh4 u4=>?_;have n4:=u4.next;have JR:zb [] h2 h4:=q3.ya u4 (Nat.le_refl _);have g1:=JR.at f1 O_ rfl;have g2:=JR.at f2 O_ rfl;have g15:yF (.agg (zd s)) [15]=some (.int .u8 (s.getD 15 0).toNat):=by
   apply v7;rw [zd,List.getElem?_map,List.getElem?_eq_getElem O_,List.getD_eq_getElem?_getD,List.getElem?_eq_getElem O_];rfl
  refine z6 (show zy Pg 33 (.ptr (some ⟨h.next,.one 33,[]⟩)) (.int .i64 15)=some (.ptr (some ⟨h.next,.one 33,[15]⟩)) from K_) ?_;refine zl g1 K_ g15 ?_;have l15:(s.getD 15 0).toNat<256:=UInt8.toNat_lt _;refine tQ E_ O_ O_ ?_;refine ⟨(s.getD 15 0).toNat+1,z7.of ?_⟩;exact AZ (h0:=h) hs O_ O_ O_ (ib O_) O_ (s.getD 15 0).toNat 0 _ 16 h4 [] (.y8 none 0) O_ O_ rfl (λo ho=>by cases ho) O_ eg (po.trans JR) (.inl ⟨rfl,rfl⟩) O_ O_ u4.at_ g2
 ·rw [decide_eq_false qU];apply tv;apply xz;refine z6 SY ?_;exact bO po O_ f2 (by unfold ua;rw [if_neg qU])
theorem sZ.zA {T:xr} {h h':AH} {w:V} {u:Un} (b:sZ h w u) (q:zb T h h') (ht:T.contains (1,60,0)=false):sZ h' w u:=by
 obtain ⟨⟨sv,e,rb⟩,ok⟩:=b;exact ⟨⟨sv,e,rb.zA q ht⟩,ok⟩
theorem sZ.sh {h:AH} {w:V} {u:Un} (b:sZ h w u):zf Pg w 50=true:=by
 obtain ⟨⟨sv,rfl,rb⟩,ok⟩:=b;exact qN _ rb
theorem KP {h:AH} {v:V} {u:Un} (b:sZ h v u) {n:Nat} (hn:n<1000000000):z0q 116 [v,.int .i64 n] h (zO (.bool (xv u.zt n).isSome) h):=by
 refine yN rfl ?_;show z0q 116 _ h (vC _ h);refine C116 _ _ _ _ ?_;refine zq (yl b.sh) λh1 u1=>?_;have q1:zb [] h h1:=zb.new u1;refine zl u1.at_ K_ (w:=v) rfl ?_;refine yf (WE (b.zA q1 rfl) hn) ?_;cases hp:xv u.zt n with
 | none =>
  skip
  exact ⟨rfl,q1.all⟩
 | some i =>
  refine z6 (show zi Pg .geq 3 (.int .i64 ((i:Nat):Int)) (.int .i64 0) true=some (.bool true) from QO O_) ?_;exact ⟨rfl,q1.all⟩
structure Ro where
 us:List Un
 last:Nat
def roV (r:Nat) (x:Ro):V:=.agg [.y8 (some (⟨r,.row 50,[]⟩,0)) x.us.length,.int .i64 x.last]
structure jy (h:AH) (p r:Nat) (x:Ro):Prop where
 room:h.m p=some (.cells true (.one 161) (roV r x))
 row:∃ ws:List V,ws.length=x.us.length/\h.m r=some (.cells true (.row 50) (.agg ws))/\∀ (i:Nat) (u:Un),x.us[i]?=some u->∃ w,ws[i]?=some w/\sZ h w u
 o:p<h.next/\r<h.next
 n:1<=x.us.length/\x.us.length<=32
 last:x.last<x.us.length
abbrev TRo:xr:=[(0,161,0),(1,50,0),(1,60,0)]
theorem jy.zA {T:xr} {h h':AH} {p r:Nat} {x:Ro} (b:jy h p r x) (q:zb T h h') (ht:dC TRo T=true):jy h' p r x:=by
 obtain ⟨b1,⟨ws,b2,b3,b4⟩,⟨o1,o2⟩,b5,b6⟩:=b;have:=q.next;exact ⟨q.at b1 o1 (yv ht rfl),⟨ws,b2,q.at b3 o2 (yv ht rfl),λi u hi=>by obtain ⟨w,w1,w2⟩:=b4 i u hi;exact ⟨w,w1,w2.zA q (yv ht rfl)⟩⟩,⟨O_,O_⟩,b5,b6⟩
section
variable {h:AH} {p r:Nat} {x:Ro}
theorem z3p (p:Nat):zi Pg .neq 53 (OY p) (.ptr none) true=some (.bool true):=K_
theorem eqRo (p:Nat):zi Pg .eql 53 (OY p) (.ptr none) true=some (.bool false):=K_
theorem KQ (b:jy h p r x) (i:Nat) (hi:i<1000000):z0q 68 [OY p,.int .i64 i] h (zO (.bool (decide (i<x.us.length))) h):=by
 have f0:=b.room;have n2:=b.n;refine C68 _ _ _ _ ?_;by_cases g:i<x.us.length
 ·rw [decide_eq_true g];refine z6 (z3p p) ?_;apply sE;refine rj O_ ?_;refine sm (Qy ..) ?_;apply wc;apply sE;apply yb;refine zx K_ ?_;refine zl f0 K_ (w:=.y8 (some (⟨r,.row 50,[]⟩,0)) x.us.length) rfl ?_;refine ze (wa K_) ?_;refine xH O_ ?_;refine sm (Bx ..) ?_;apply wc;refine sm (z0Z ..) ?_;exact ⟨rfl,rfl⟩
 ·rw [decide_eq_false g];refine z6 (z3p p) ?_;apply sE;refine rj O_ ?_;refine sm (Qy ..) ?_;apply wc;apply sE;apply yb;refine zx K_ ?_;refine zl f0 K_ (w:=.y8 (some (⟨r,.row 50,[]⟩,0)) x.us.length) rfl ?_;refine ze (wa K_) ?_;refine yD O_ ?_;refine sm (Bx ..) ?_;apply wc;refine sm (z0Z ..) ?_;exact ⟨rfl,rfl⟩
theorem Al {m i:Nat} (b:jy h p r x) {u:Un} (hi:x.us[i]?=some u) {K:V->AH->Prop}
 (k:∀ h' w n,h.next<=n->zb [] h h'->h'.m n=some (.cells true (.one 50) w)->n<h'.next->sZ h' w u->K (kS n) h') :
 z0 (z03 (zy Pg 159 (.y8 (some (⟨r,.row 50,[]⟩,0)) x.us.length) (.int .i64 (i:Nat))) h) λv11 NH=>z0 (z9 Pg NH 50 v11) λv13 JQ=>z0 (zV Pg JQ 50) λv15 h16=>z0 (zh Pg h16 50 v15 v13) λ_ h18=>K v15 h18:=by
 obtain ⟨ws,b2,b3,b4⟩:=b.row;obtain ⟨w,w1,w2⟩:=b4 i u hi;have il:i<x.us.length:=(List.getElem?_eq_some_iff.1 hi).1;refine z6 (xW _ K_ O_ O_) ?_;rw [show 0+((i:Nat):Int).toNat=i by omega];refine ze (zR b3 K_ (v7 w1)) ?_;refine zq (yA UK uE) λh1 u1=>?_;have n1:=u1.next;refine zq (zM (p:=[]) u1.at_ K_ rfl w2.sh rfl) λh2 u2=>?_;have n2:=u2.next;have q:=(zb.new (T:=[]) u1).ya u2 (Nat.le_refl _);exact k h2 w h.next (Nat.le_refl _) q u2.at_ O_ (w2.zA q rfl)
def mP (l:List Un):Nat:=(l.map λu=>wi u.zt).sum
theorem KF {l:List Un} (h:∀ u∈l,u.ok):mP l<=1000000*l.length:=by
 unfold mP;induction l with
 | nil=>simp
 | cons o l ih =>
  have h1:=ih λo' ho=>h o' (List.mem_cons_of_mem _ ho);have h2:=(h o List.mem_cons_self).len;have h3:wi o.zt<=o.zt.length:=List.length_filter_le _ _;simp only [List.map_cons,List.sum_cons,List.length_cons];omega
theorem Pk {h0:AH} {us:List Un} (hus:x.us=us):∀ (rest pre:List Un) (m:Nat) (h:AH),us=pre++rest->rest.length<m->zb [] h0 h->jy h p r x ->
 CI (vC (.int .i64 (mP us:Nat)) h0) m (.int .i64 (mP pre:Nat)) (.y8 (some (⟨r,.row 50,[]⟩,0)) x.us.length) (.int .i64 (us.length:Nat)) (.int .i64 (pre.length:Nat)) h
 | rest,pre,0,h,e,hm,_,_=>by omega
 | [],pre,m+1,h,e,hm,q,b=>by
  rw [List.append_nil] at e;subst e;rw [Ql];refine yD O_ ?_;apply yZ;refine sm (Ii ..) ?_;exact ⟨rfl,q.all⟩
 | u :: rest,pre,m+1,h,e,hm,q,b=>by
  have hlen:us.length=pre.length+1+rest.length:=by rw [e];simp;omega
  have e':us=(pre++[u])++rest:=by rw [e];simp
  have hn:=b.n;rw [hus] at hn;have z10:∀ u∈us,u.ok:=by
   intro u hu;obtain ⟨ws,b2,b3,b4⟩:=b.row;obtain ⟨i,hi,rfl⟩:=List.mem_iff_getElem.1 hu;obtain ⟨w,_,w2⟩:=b4 i us[i] (by rw [hus];exact List.getElem?_eq_getElem hi);exact w2.ok
  have s1:mP (pre++[u])=mP pre+wi u.zt:=by unfold mP;simp
  have s2:=KF (l:=pre) λo' ho=>z10 o' (by rw [e];simp [ho]);have s3:wi u.zt<=u.zt.length:=List.length_filter_le _ _;have s4:=(z10 u (by rw [e];simp)).len;rw [Ql];refine xH O_ ?_;apply xz;refine sm (Dy ..) ?_;refine Al (m:=m) (u:=u) b (by rw [hus,e];simp) λh1 w n l1 q1 f1 l2 ub=>?_;have b1:=b.zA q1 rfl;refine zl f1 K_ (w:=w) rfl ?_;refine yf (z00 ub) ?_;refine zE O_ O_ ?_;refine sm (DG ..) ?_;refine zE O_ O_ ?_;have:=Pk hus rest (pre++[u]) m h1 e' (by simp at hm;omega) (q.trans q1) b1;rw [show (((pre++[u]).length:Nat):Int)=(pre.length:Int)+1 by simp,s1,show ((mP pre+wi u.zt:Nat):Int)=(mP pre:Int)+(wi u.zt:Int) by omega] at this;exact z7.of this
theorem z3g (b:jy h p r x):z0q 26 [OY p] h (zO (.int .i64 (mP x.us:Nat)) h):=by
 refine yN rfl ?_;show z0q 26 _ h (vC _ h);have f0:=b.room;refine C26 _ _ _ ?_;refine z6 (z3p p) ?_;apply xz;apply yb;refine zx K_ ?_;refine zl f0 K_ (w:=.y8 (some (⟨r,.row 50,[]⟩,0)) x.us.length) rfl ?_;refine ze (wa K_) ?_;exact ⟨x.us.length+1,z7.of (Pk (h0:=h) rfl x.us [] _ h rfl O_ (zb.refl _ _) b)⟩
end
def Ro.xu (x:Ro) (i:Nat):Un:=(x.us[i]?).getD Un.z
def Ro.note (x:Ro) (i:Nat) (u:Un):Ro:={ x with us:=x.us.set i u }
def uO (n:Nat) (u:Un):Bool:=(xv u.zt n).isSome
def Ro.find (x:Ro) (n:Nat):(Nat × Bool) × Ro :=
 if uO n (x.xu x.last) then ((x.last,true),x) else match x.us.findIdx? (uO n) with
 | some i=>((i,true),{ x with last:=i })
 | none=>((0,false),x)
theorem z0j (l:Nat) {h:AH} {sv:V} {xs:List V} (b:dH 60 h sv xs):zD Pg 50 [(0,.int .u64 l),(1,sv)]=some (vE l sv):=by
 obtain ⟨a,rfl⟩:=b.shape
 kernel_rfl
section
variable {h:AH} {p r:Nat} {x:Ro}
abbrev TRu:xr:=[(1,50,0)]
theorem z1P (b:jy h p r x) (i:Nat) (hi:i<1000000) {v:V} {u:Un} (ub:sZ h v u):z0q 135 [OY p,.int .i64 i,v] h (xj TRu h (.yX []) λh'=>jy h' p r (x.note i u)):=by
 refine C135 _ _ _ _ _ ?_;refine zq (yl ub.sh) λh1 u1=>?_;have n1:=u1.next;have q1:zb [] h h1:=zb.new u1;have b1:=b.zA q1 rfl;have f4:=u1.at_;have ub1:=ub.zA q1 rfl;refine yf (KQ b1 i hi) ?_;by_cases g:i<x.us.length
 ·rw [decide_eq_true g];apply xz;apply xy;refine ym K_ ?_;obtain ⟨ws,b2,b3,b4⟩:=b1.row;obtain ⟨⟨sv,rfl,rb⟩,ok⟩:=ub1;have f0:=b1.room;have o1:=b1.o;have BS:=ok.len;refine zY f0 K_ (w:=.y8 (some (⟨r,.row 50,[]⟩,0)) x.us.length) rfl ?_;refine ym K_ ?_;refine zY f4 K_ (w:=.int .u64 u.zZ) rfl ?_;refine ym K_ ?_;refine zY f4 K_ (w:=sv) rfl ?_;obtain ⟨qL,h3,e3,Xc,q3⟩:=rb.copy TX (by rw [List.length_map];exact ac O_);have n3:=q3.next;refine ze e3 ?_;have f43:=q3.at f4 O_ rfl;have f03:=q3.at f0 o1.1 rfl;have b33:=q3.at b3 o1.2 rfl;refine And.intro (zR f43 K_ (w:=.int .u64 u.zZ) rfl) ?_;refine And.intro (zR f03 K_ (w:=.y8 (some (⟨r,.row 50,[]⟩,0)) x.us.length) rfl) ?_;refine zg (z0j _ Xc.jg.dt) ?_;refine zg (xW _ K_ O_ O_) ?_;rw [show 0+((i:Nat):Int).toNat=i by omega];refine zq (zM (p:=[i]) b33 K_ (v7 (List.getElem?_eq_getElem (show i<ws.length from O_))) (qN u.zZ Xc.jg.dt) (WO (show i<ws.length from O_))) λh5 u5=>?_;have n5:=u5.next;have q5:zb TRu h3 h5:=zb.vP u5 b33 rfl rfl;have q35:zb TRu h h5:=((q1.trans q3).sub rfl).trans q5;refine ⟨rfl,q35,q5.at f03 O_ rfl |>.trans (by unfold roV Ro.note;simp),⟨ws.set i (vE u.zZ qL),by unfold Ro.note;simp [b2],u5.at_,λj u' hj=>?_⟩,⟨O_,O_⟩,by unfold Ro.note;simpa using b1.n,by unfold Ro.note;simpa using b1.last⟩;have hj:(x.us.set i u)[j]?=some u':=hj;by_cases ej:j=i
  ·subst ej;rw [List.getElem?_set_self g] at hj;cases hj;exact ⟨vE u.zZ qL,List.getElem?_set_self O_,⟨qL,rfl,(Xc.jg.zA q5 rfl).dt⟩,ok⟩
  ·rw [List.getElem?_set_ne O_] at hj;obtain ⟨w,w1,w2⟩:=b4 j u' hj;exact ⟨w,by rw [List.getElem?_set_ne O_];exact w1,(w2.zA q3 rfl).zA q5 rfl⟩
 ·rw [decide_eq_false g];apply yZ;rw [show x.note i u=x by unfold Ro.note;rw [List.set_eq_of_length_le O_]];exact ⟨rfl,q1.sub rfl,b1⟩
abbrev TRr:xr:=[(0,161,0)]
def zb0 (y:Nat × Bool):V:=.yX [.int .i64 y.1,.bool y.2]
theorem Qh {h0:AH} {n:Nat} {y:(Nat × Bool) × Ro} (hn:n<1000000000) (h00:jy h0 p r x):∀ (rest pre:List Un) (m:Nat) (h:AH),x.us=pre++rest->rest.length<m->zb [] h0 h->jy h p r x->(∀ u∈pre,uO n u=false) ->
 (y=match x.us.findIdx? (uO n) with | some i=>((i,true),{ x with last:=i }) | none=>((0,false),x)) ->
 z9j (xj TRr h0 (zb0 y.1) λh'=>jy h' p r y.2) m (OY p) (.int .i64 n) (.y8 (some (⟨r,.row 50,[]⟩,0)) x.us.length) (.int .i64 (x.us.length:Nat)) (.int .i64 (pre.length:Nat)) h
 | rest,pre,0,h,e,hm,_,_,_,_=>by omega
 | [],pre,m+1,h,e,hm,q,b,hp,hy=>by
  rw [List.append_nil] at e;have hn2:=b.n;rw [DA];refine yD (by rw [e];omega) ?_;apply yZ;refine sm (QG ..) ?_;rw [List.findIdx?_eq_none_iff.2 (λu hu=>hp u (by rw [<- e];exact hu))] at hy;subst hy;exact ⟨rfl,q.sub rfl,b⟩
 | u :: rest,pre,m+1,h,e,hm,q,b,hp,hy=>by
  have hlen:x.us.length=pre.length+1+rest.length:=by rw [e];simp;omega
  have e':x.us=(pre++[u])++rest:=by rw [e];simp
  have hn2:=b.n;rw [DA];refine xH O_ ?_;apply xz;refine sm (Wc ..) ?_;refine Al (m:=m) (u:=u) b (by rw [e];simp) λh1 w k l1 q1 f1 l2 ub=>?_;have b1:=b.zA q1 rfl;refine zl f1 K_ (w:=w) rfl ?_;refine yf (KP ub hn) ?_;cases hf:uO n u with
  | true =>
   rw [show (xv u.zt n).isSome=true from hf];apply xz;apply yb;refine zx K_ ?_;have f0:=b1.room;refine zq (zM f0 K_ (w:=.int .i64 x.last) rfl K_ (v':=roV r { x with last:=pre.length }) rfl) λh2 u2=>?_;have n2:=u2.next;have q2:zb TRr h1 h2:=zb.vP u2 f0 rfl rfl;rw [show x.us.findIdx? (uO n)=some pre.length by
    rw [e,List.findIdx?_append,List.findIdx?_eq_none_iff.2 hp,List.findIdx?_cons,hf];simp] at hy
   subst hy;refine ⟨rfl,(q.sub rfl).trans ((q1.sub rfl).trans q2),?_⟩;obtain ⟨_,⟨ws,c2,c3,c4⟩,⟨o1,o2⟩,c5,c6⟩:=b1;refine ⟨u2.at_,⟨ws,c2,q2.at c3 o2 rfl,λi u hi=>?_⟩,⟨O_,O_⟩,c5,?_⟩
   ·obtain ⟨w,w1,w2⟩:=c4 i u hi;exact ⟨w,w1,w2.zA q2 rfl⟩
   ·show pre.length<x.us.length;omega
  | false =>
   rw [show (xv u.zt n).isSome=false from hf];apply yZ;refine sm (Q6 ..) ?_;refine zE O_ O_ ?_;have:=Qh hn h00 rest (pre++[u]) m h1 e' (by simp at hm;omega) (q.trans q1) b1 (λv hv=>by
    rcases List.mem_append.1 hv with hv | hv
    ·exact hp v hv
    ·rw [List.mem_singleton] at hv;subst hv;exact hf) hy
   rw [show (((pre++[u]).length:Nat):Int)=(pre.length:Int)+1 by simp] at this;exact z7.of this
theorem z1j (b:jy h p r x) {n:Nat} (hn:n<1000000000):z0q 74 [OY p,.int .i64 n] h (xj TRr h (zb0 (x.find n).1) λh'=>jy h' p r (x.find n).2):=by
 have f0:=b.room;have hl:=b.last;have hn2:=b.n;obtain ⟨ws,b2,b3,b4⟩:=b.row;have hu:x.us[x.last]?=some (x.us[x.last]'hl):=List.getElem?_eq_getElem hl;generalize x.us[x.last]'hl=u at hu;obtain ⟨w,w1,w2⟩:=b4 _ u hu;have Oc:x.xu x.last=u:=by unfold Ro.xu;rw [hu];rfl
 refine C74 _ _ _ _ ?_;refine z6 (eqRo p) ?_;apply yZ;refine sm (z4H ..) ?_;apply xy;refine ym K_ ?_;refine zY f0 K_ rfl ?_;apply xy;refine ym K_ ?_;refine zY f0 K_ rfl ?_;refine zg (xW _ K_ O_ O_) ?_;rw [show 0+((x.last:Nat):Int).toNat=x.last by omega];refine zY b3 K_ (v7 w1) ?_;refine ⟨_,KP w2 hn,?_⟩;have ef:x.find n=if uO n u then ((x.last,true),x) else match x.us.findIdx? (uO n) with | some i=>((i,true),{ x with last:=i }) | none=>((0,false),x):=by unfold Ro.find;rw [Oc]
 cases hf:uO n u with
 | true =>
  rw [show (xv u.zt n).isSome=true from hf];rw [hf,if_pos rfl] at ef;rw [ef];apply xz;apply yb;refine zx K_ ?_;refine zl f0 K_ (w:=.int .i64 x.last) rfl ?_;exact ⟨rfl,zb.refl _ _,b⟩
 | false =>
  rw [show (xv u.zt n).isSome=false from hf];rw [hf,if_neg S_] at ef;apply yZ;refine sm (ky ..) ?_;apply yb;refine zx K_ ?_;refine zl f0 K_ (w:=.y8 (some (⟨r,.row 50,[]⟩,0)) x.us.length) rfl ?_;refine ze (wa K_) ?_;exact ⟨x.us.length+1,z7.of (Qh hn b x.us [] _ h rfl O_ (zb.refl _ _) b (λu hu=>by cases hu) ef)⟩
end
theorem GK {h:AH} {k s d p:Nat} {c:Ck} (a:oG h k s d p c) {i:Nat} (hi:i<c.n) (b:Bool):∃ h',z0q 156 [gx k,.int .i64 i,.bool b] h (zO (.yX []) h')/\zb TB h h'/\oG h' k s d p { c with vQ:=c.vQ.set i b }:=by
 have hc:=a.ok.vQ;have fk:=a.fk;have u:=ot h d (.cells true (.row 4) (.agg (uv (c.vQ.set i b))));refine ⟨h.put d (.cells true (.row 4) (.agg (uv (c.vQ.set i b)))),?_,zb.vP u a.fd rfl rfl,a.zde u (by simp;exact hc)⟩;refine C156 _ _ _ _ _ ?_;refine yf (fh a hi) (xz ?_);apply yb;refine zx K_ ?_;refine zl fk K_ (w:=.y8 (some (⟨d,.row 4,[]⟩,0)) c.n) rfl ?_;refine z6 (xW _ K_ O_ O_) ?_;refine ze (ru a.fd K_ (sK O_) K_ (nB O_ b)) ?_;exact ⟨rfl,rfl⟩
section
variable {h:AH} {p:Nat} {n:ZD} {lv:V} {c:Ca}
theorem Fw (k:pT h p n lv c) (i:vd) (b:Bool):∃ h',z0q 136 [j4 p,pV i,.bool b] h (zO (.yX []) h')/\zb TB h h'/\pT h' p n lv (c.vQ i b):=by
 have u1:=vJ h (.cells true (.one 43) (pV i));have e1:=pH (P:=Pg) (h:=h) (fJ i);generalize h.make (.cells true (.one 43) (pV i))=h1 at u1 e1;have q1:zb TB h h1:=zb.new u1;have k1:=k.zA (T:=[]) (zb.new u1) rfl;have f1:=u1.at_;unfold Ca.vQ;cases hk:xI c.at_ i with
 | none =>
  refine ⟨h1,?_,q1,k1⟩;refine zbv _ _ _ _ _ ?_;refine ze e1 ?_;refine zl f1 K_ (w:=pV i) rfl ?_;refine yf (jk k1 i) ?_;rw [hk];apply wj;apply wl;refine z6 (show zi Pg .neq 129 (.ptr none) (.ptr none) true=some (.bool false) from K_) ?_;apply yZ;exact ⟨rfl,rfl⟩
 | some j =>
  obtain ⟨r,f,a⟩:=k1.at hk;obtain ⟨h2,c2,q2,k2⟩:=GK k1.ck a.jn b;refine ⟨h2,?_,q1.trans q2,k1.clock q2 rfl k2 rfl⟩;refine zbv _ _ _ _ _ ?_;refine ze e1 ?_;refine zl f1 K_ (w:=pV i) rfl ?_;refine yf (jk k1 i) ?_;rw [hk,a.find];apply wj;apply wl;refine z6 (show zi Pg .neq 129 (.ptr (some _)) (.ptr none) true=some (.bool true) from K_) ?_;apply xz;apply yb;refine zx K_ ?_;refine zl k1.cache K_ (w:=gx n.k) rfl ?_;refine c2.mono λe h' g=>?_;cases e with
  | ret v=>obtain ⟨rfl,rfl⟩:=g;exact ⟨rfl,rfl⟩
  | panic v=>exact g.elim
end
abbrev TNo:xr:=[(1,50,0),(1,4,0)]
section
variable {h:AH} {p r:Nat} {n:cp} {f:ZO} {c:Ca} {x:Ro}
theorem z1Q (k:BsA h p n f c) (kr:jy h n.pr r x) {no:Nat} (vk:no<65536) {s:List UInt8} (hs:s.length=224) :
 z0q 93 [fD p,vM true no,.agg (zd s)] h (xj TNo h (.yX []) λh'=>BsA h' p n f (c.vQ (true,no) (decide (wi (ZC (ua no s)).1.zt=0)))/\jy h' n.pr r (x.note no (ZC (ua no s)).1)):=by
 refine C93 _ _ _ _ _ ?_;refine zq (yl (je true no)) λh1 u1=>?_;have n1:=u1.next;have q1:zb [] h h1:=zb.new u1;refine zq (yl (xf hs)) λh2 u2=>?_;have n2:=u2.next;have q2:zb [] h1 h2:=zb.new u2;have f1:=q2.at u1.at_ O_ rfl;have f2:=u2.at_;have w1:yF (vM true no) ([]++[0])=some (.bool true):=rfl;have w2:yF (vM true no) ([]++[1])=some (.int .u16 no):=rfl;refine zx K_ ?_;refine zl f1 K_ w1 ?_;apply xz;refine zx K_ ?_;refine zl f1 K_ w2 ?_;refine zl f2 K_ (w:=.agg (zd s)) rfl ?_;refine YP (RL hs vk) λw h3 q3 b3=>?_;have n3:=q3.next;generalize ua no s=gu at *;apply wj;apply wl;refine zq (yA UK uE) λh4 u4=>?_;have n4:=u4.next;have q4:zb [] h3 h4:=zb.new u4;refine zq (zM (p:=[]) u4.at_ K_ rfl b3.sh rfl) λh5 u5=>?_;have n5:=u5.next;have q35:zb [] h3 h5:=q4.ya u5 (Nat.le_refl _);have q25:=q3.trans q35;have dm:=(q1.trans q2).trans q25;have g1:=q25.at f1 O_ rfl;have g5:=u5.at_;have b5:=b3.zA q35 rfl;have k5:=k.zA dm rfl;have r5:=kr.zA dm rfl;have f0:=k5.base;apply xy;refine ym K_ ?_;refine zY f0 K_ (w:=OY n.pr) rfl ?_;refine ym K_ ?_;refine zY g1 K_ w2 ?_;refine pk E_ O_ O_ ?_;refine zY g5 K_ (w:=w) rfl ?_;refine xN (z1P r5 no O_ b5) λh6 q6 r6=>?_;have n6:=q6.next;have f06:=q6.at f0 k5.o rfl;have g16:=q6.at g1 O_ rfl;have g56:=q6.at g5 O_ rfl;have b6:=b5.zA q6 rfl;have k6:=k5.zA q6 rfl;apply xy;refine ym K_ ?_;refine zY f06 K_ (w:=j4 n.pc) rfl ?_;refine zY g16 K_ (w:=vM true no) rfl ?_;refine zY g56 K_ (w:=w) rfl ?_;obtain ⟨lv,ka⟩:=k6.ca;refine ⟨_,h6,z00 b6,zR g16 K_ (w:=vM true no) rfl,zR f06 K_ (w:=j4 n.pc) rfl,?_⟩;have he:zi Pg .eql 3 (.int .i64 (wi (ZC gu).1.zt:Nat)) (.int .i64 0) true=some (.bool (decide (wi (ZC gu).1.zt=0))):=by
  rw [qe];congr 2;by_cases q:wi (ZC gu).1.zt=0
  ·rw [q];rfl
  ·rw [decide_eq_false q,beq_eq_false_iff_ne];omega
 refine zg he ?_;obtain ⟨h7,c7,q7,k7⟩:=Fw ka (true,no) (decide (wi (ZC gu).1.zt=0));refine ⟨_,h7,c7,?_⟩;have n7:=q7.next;exact ⟨rfl,(dm.sub rfl).trans ((q6.sub rfl).trans (q7.sub rfl)),⟨q7.at f06 (by have:=k6.o;omega) rfl,⟨lv,k7⟩,by have:=k6.o;omega⟩,r6.zA q7 rfl⟩
end
theorem FF {no:Nat} {s:List UInt8} (hs:s.length=224) (vk:no<65536) (h:AH):z0q 60 [vM true no,.agg (zd s)] h (zO (.bool (ua no s).isSome) h):=by
 refine yN rfl ?_;show z0q 60 _ h (vC _ h);refine C60 _ _ _ _ ?_;refine zq (yl (je true no)) λh1 u1=>?_;have n1:=u1.next;have q1:zb [] h h1:=zb.new u1;refine zq (yl (xf hs)) λh2 u2=>?_;have n2:=u2.next;have q2:zb [] h1 h2:=zb.new u2;have f1:=q2.at u1.at_ O_ rfl;have f2:=u2.at_;have w1:yF (vM true no) ([]++[0])=some (.bool true):=rfl;have w2:yF (vM true no) ([]++[1])=some (.int .u16 no):=rfl;refine zx K_ ?_;refine zl f1 K_ w1 ?_;apply xz;refine zx K_ ?_;refine zl f1 K_ w2 ?_;refine zl f2 K_ (w:=.agg (zd s)) rfl ?_;refine YP (RL hs vk) λw h3 q3 b3=>?_;have n3:=q3.next;generalize ua no s=gu at *;apply wj;apply wl;refine zq (yA UK uE) λh4 u4=>?_;have n4:=u4.next;have q4:zb [] h3 h4:=zb.new u4;refine zq (zM (p:=[]) u4.at_ K_ rfl b3.sh rfl) λh5 u5=>?_;have dm:zb [] h h5:=((q1.trans q2).trans q3).trans (q4.ya u5 (Nat.le_refl _));cases gu with
 | none =>
  rw [show (ZC none).2=2 from rfl];refine yB O_ ?_;exact ⟨rfl,dm.all⟩
 | some u =>
  rw [show (ZC (some u)).2=0 from rfl];refine xn O_ ?_;exact ⟨rfl,dm.all⟩
def qr (i:Bool × Nat) (s:List UInt8):Bool:=open Classical in if i.1 then (ua i.2 s).isSome else decide (ur i.2 s)
theorem WA {i:Bool × Nat} {s:List UInt8} (hs:s.length=224) (hi:i.2<65536) (h:AH):z0q 60 [vM i.1 i.2,.agg (zd s)] h (zO (.bool (qr i s)) h):=by
 obtain ⟨b,no⟩:=i;cases b with
 | true=>exact FF hs hi h
 | false =>
  have:=Bp hs hi h;unfold qr;rw [if_neg S_];exact this
theorem sU {l:List Ol}:wZ l=true↔l.length<=15/\(∀ o,l.getLast?=some o->o.live=true)/\(∀ o∈l,o.wG=true)/\yG l<=224:=by
 unfold wZ;simp only [Bool.and_eq_true,decide_eq_true_eq,List.all_eq_true];constructor
 ·rintro ⟨⟨⟨h1,h2⟩,h3⟩,h4⟩;refine ⟨h1,λo ho=>?_,h3,h4⟩;rw [ho] at h2;exact h2
 ·rintro ⟨h1,h2,h3,h4⟩;refine ⟨⟨⟨h1,?_⟩,h3⟩,h4⟩;cases hl:l.getLast? with
  | none=>rfl
  | some o=>exact h2 o hl
theorem sH (o:Ol) (l:List Ol):yG (o :: l)=yG l+o.sz:=by unfold yG;simp;omega
theorem lS:∀ {l:List Ol} {i:Nat} {a o:Ol},l[i]?=some a->yG (l.set i o)+a.sz=yG l+o.sz
 | [],i,a,o,h=>by cases h
 | x :: l,0,a,o,h=>by
  cases h;rw [List.set_cons_zero,sH,sH];omega
 | x :: l,i+1,a,o,h=>by
  have:=lS (l:=l) (i:=i) (a:=a) (o:=o) h;rw [List.set_cons_succ,sH,sH];omega
theorem aV:∀ (l:List Ol) (k:Nat),yG (l.take k)<=yG l
 | [],k=>by simp
 | x :: l,0=>by rw [List.take_zero];rw [sH];show 16+_<=_;unfold yG;simp;omega
 | x :: l,k+1=>by
  have:=aV l k;rw [List.take_succ_cons,sH,sH];omega
theorem VA {l:List Ol} {i:Nat} {o x:Ol} (hl:(l.set i o).getLast?=some x):x=o\/l.getLast?=some x:=by
 rw [List.getLast?_eq_getElem?,List.length_set] at hl;rw [List.getLast?_eq_getElem?];by_cases e:i=l.length-1
 ·subst e;by_cases g:l.length-1<l.length
  ·rw [List.getElem?_set_self g] at hl;cases hl;exact .inl rfl
  ·rw [List.set_eq_of_length_le O_] at hl;exact .inr hl
 ·rw [List.getElem?_set_ne e] at hl;exact .inr hl
theorem U5 {l:List Ol} {i:Nat} {o:Ol} (ho:o.live=true) (h:xv l o.dl.length=some i):wZ (yS l i o)=true:=by
 obtain ⟨h1,h2,h3,h4,h5,h6,h7⟩:=wz h;obtain ⟨m1,m2,m3,m4⟩:=sU.1 h2;have fo:o.wG=true:=by unfold Ol.wG;rw [ho,decide_eq_true h1];rfl
 have so:o.sz=11+o.dl.length:=by unfold Ol.sz;rw [if_pos ho];omega
 unfold yS;by_cases e:i=l.length
 ·rw [if_pos e];refine sU.2 ⟨by simp;omega,λx hx=>?_,λx hx=>?_,?_⟩
  ·rw [List.getLast?_append] at hx;cases hx;exact ho
  ·rcases List.mem_append.1 hx with hx | hx
   ·exact m3 x hx
   ·rw [List.mem_singleton] at hx;subst hx;exact fo
  ·rw [kE];simp;have:=h6 e;omega
 ·rw [if_neg e];have il:i<l.length:=O_;have hl:=h7 il;rw [List.getElem?_eq_getElem il] at hl;have hs:=lS (o:=o) (List.getElem?_eq_getElem il);have hz:(l[i]).sz=1:=by unfold Ol.sz;rw [if_neg (by rw [show (l[i]).live=false by simpa using hl];simp)]
  refine sU.2 ⟨by simpa using m1,λx hx=>?_,λx hx=>?_,O_⟩
  ·rcases VA hx with rfl | hx
   ·exact ho
   ·exact m2 x hx
  ·rcases List.mem_or_eq_of_mem_set hx with hx | rfl
   ·exact m3 x hx
   ·exact fo
theorem cV (l:List Ol):∀ (k j:Nat),k<=l.length->uX l k=j+1->∃ o,l[j]?=some o/\o.live=true
 | 0,j,_,h=>by cases h
 | k+1,j,hk,h=>by
  unfold uX at h;rw [List.getElem?_eq_getElem O_] at h;split at h
  ·rename_i g;cases h;exact ⟨_,List.getElem?_eq_getElem O_,g⟩
  ·exact cV l k j O_ h
theorem YG {u v:Un} {i:Nat} (h:uN u i=some v):wZ v.zt=true/\v.zZ=u.zZ:=by
 unfold uN at h;split at h
 ·rename_i g;cases h;obtain ⟨m1,m2,m3,m4⟩:=sU.1 g.2;have il:=py g.1;have hs:=lS (o:=Ol.z) (List.getElem?_eq_getElem il);have h1:1<=(u.zt[i]).sz:=by unfold Ol.sz;omega
  have hz:Ol.z.sz=1:=rfl;have ht:=aV (u.zt.set i Ol.z) (uX (u.zt.set i Ol.z) u.zt.length);refine ⟨sU.2 ⟨by show (List.take _ _).length<=15;rw [List.length_take,List.length_set];omega,λx hx=>?_,λx hx=>?_,by show yG (List.take _ _)<=224;omega⟩,rfl⟩
  ·have hx:((u.zt.set i Ol.z).take (uX (u.zt.set i Ol.z) u.zt.length)).getLast?=some x:=hx;have tl:=bA (u.zt.set i Ol.z) u.zt.length;rw [List.getLast?_eq_getElem?,List.length_take,List.length_set,Nat.min_eq_left tl] at hx;cases ht:uX (u.zt.set i Ol.z) u.zt.length with
   | zero=>rw [ht] at hx;simp at hx
   | succ j =>
    rw [ht] at hx;obtain ⟨o,o1,o2⟩:=cV _ _ _ (by rw [List.length_set];exact Nat.le_refl _) ht;rw [List.getElem?_take_of_lt O_,show j+1-1=j by omega,o1] at hx;cases hx;exact o2
  ·rcases List.mem_or_eq_of_mem_set (List.mem_of_mem_take hx) with hx | rfl
   ·exact m3 x hx
   ·rfl
 ·cases h
theorem Lw {u v:Un} {i:Nat} (h:jV u i=some v):wZ v.zt=true/\v.zZ=u.zZ:=by
 unfold jV at h;split at h
 ·rename_i g;cases h;obtain ⟨m1,m2,m3,m4⟩:=sU.1 g.2;have il:=py g.1;have hg:=List.getElem?_eq_getElem il;have hlv:(u.zt[i]).live=true:=by
   have:=g.1;unfold w5 at this;rw [hg] at this;by_cases q:(u.zt[i]).live=true
   ·exact q
   ·simp [q] at this
  have hs:=lS (o:=(u.zt[i]).cut) hg;have hz:(u.zt[i]).cut.sz=(u.zt[i]).sz:=rfl;have hf:=m3 _ (List.getElem_mem il);refine ⟨sU.2 ?_,rfl⟩;show (u.zt.set i ((u.zt[i]?.getD Ol.z).cut)).length<=15/\_;rw [hg];refine ⟨by simpa using m1,λx hx=>?_,λx hx=>?_,by show yG (u.zt.set i (u.zt[i]).cut)<=224;omega⟩
  ·have hx:(u.zt.set i (u.zt[i]).cut).getLast?=some x:=hx;rcases VA hx with rfl | hx
   ·exact hlv
   ·exact m2 x hx
  ·have hx:x∈u.zt.set i (u.zt[i]).cut:=hx;rcases List.mem_or_eq_of_mem_set hx with hx | rfl
   ·exact m3 x hx
   ·unfold Ol.wG at hf ⊢;simp only [Bool.and_eq_true,decide_eq_true_eq] at hf ⊢;exact ⟨by show ((u.zt[i]).live||_)=true;rw [hlv];rfl,hf.2⟩
 ·cases h
theorem av {no:Nat} {s:List UInt8} {u:Un} (h:ua no s=some u):wZ u.zt=true:=by
 unfold ua at h;split at h
 ·unfold eF at h;split at h
  ·cases h
  ·split at h
   ·rename_i g;cases h;exact g.2
   ·cases h
 ·cases h
theorem te {s:List UInt8} {a i:Nat}:(s.drop a).getD i 0=s.getD (a+i) 0:=by
 rw [List.getD_eq_getElem?_getD,List.getD_eq_getElem?_getD,List.getElem?_drop]
theorem gP {s:List UInt8} {a k n:Nat}:xB s (a+k) n=cn (((s.drop a).drop k).take n):=by
 unfold xB;rw [List.drop_drop]
theorem OS {s rest:List UInt8} {a:Nat} {o:Ol} (ha:a<=s.length) (hd:s.drop a=o.enc++rest) (ho:o.ok) (hf:o.wG=true):ry s a=some (o,a+o.sz):=by
 have hl:s.length-a=o.sz+rest.length:=by
  have:=congrArg List.length hd;rw [List.length_drop,List.length_append,nN] at this;exact this
 have hsz:1<=o.sz:=by unfold Ol.sz;omega
 have h0:s.getD a 0=(o.enc++rest).getD 0 0:=by rw [<- hd,te,Nat.add_zero]
 unfold Ol.wG at hf;simp only [Bool.and_eq_true,Bool.or_eq_true,decide_eq_true_eq] at hf;cases hv:o.live with
 | false =>
  have oz:o=Ol.z:=by
   rcases hf.1 with q | q
   ·rw [hv] at q;cases q
   ·exact q
  subst oz;have h0:s.getD a 0=0:=h0;have e1:¬ (s.length<=a\/1<(s.getD a 0).toNat):=by
   rintro (q | q)
   ·omega
   ·rw [h0] at q;exact absurd q D_
  unfold ry;rw [if_neg e1,if_neg (by rw [h0];decide)];rfl
 | true =>
  obtain ⟨b1,b2,b3,b4⟩:=ho;have NY:=hf.2;have e:o.enc++rest=1 :: (xd o.xu 2++(xd o.ts 4++(xd o.np 2++(o.ns :: UInt8.ofNat o.dl.length :: (o.dl++rest))))):=by
   unfold Ol.enc;rw [if_pos hv];simp [List.append_assoc]
  rw [e] at hd h0;have h0:s.getD a 0=1:=h0;have zs:o.sz=11+o.dl.length:=by unfold Ol.sz;rw [if_pos hv];omega
  have p1:(xd o.xu 2).length=2:=xL _ _;have p2:(xd o.ts 4).length=4:=xL _ _;have p3:(xd o.np 2).length=2:=xL _ _;have d1:(s.drop a).drop 1=xd o.xu 2++(xd o.ts 4++(xd o.np 2++(o.ns :: UInt8.ofNat o.dl.length :: (o.dl++rest)))):=by rw [hd];rfl
  have d3:(s.drop a).drop 3=xd o.ts 4++(xd o.np 2++(o.ns :: UInt8.ofNat o.dl.length :: (o.dl++rest))):=by
   rw [show (3:Nat)=1+2 from rfl,<- List.drop_drop,d1,List.drop_left' p1]
  have d7:(s.drop a).drop 7=xd o.np 2++(o.ns :: UInt8.ofNat o.dl.length :: (o.dl++rest)):=by
   rw [show (7:Nat)=3+4 from rfl,<- List.drop_drop,d3,List.drop_left' p2]
  have d9:(s.drop a).drop 9=o.ns :: UInt8.ofNat o.dl.length :: (o.dl++rest):=by
   rw [show (9:Nat)=7+2 from rfl,<- List.drop_drop,d7,List.drop_left' p3]
  have d11:(s.drop a).drop 11=o.dl++rest:=by
   rw [show (11:Nat)=9+2 from rfl,<- List.drop_drop,d9];rfl
  have w1:xB s (a+1) 2=o.xu:=by
   rw [gP,d1,List.take_left' p1,ig,Nat.mod_eq_of_lt (by exact b1)]
  have w3:xB s (a+3) 4=o.ts:=by
   rw [gP,d3,List.take_left' p2,ig,Nat.mod_eq_of_lt (by exact b2)]
  have w7:xB s (a+7) 2=o.np:=by
   rw [gP,d7,List.take_left' p3,ig,Nat.mod_eq_of_lt (by exact b3)]
  have g9:s.getD (a+9) 0=o.ns:=by
   have:=te (s:=s.drop a) (a:=9) (i:=0);rw [d9,te] at this;exact this.symm
  have g10:s.getD (a+10) 0=UInt8.ofNat o.dl.length:=by
   have:=te (s:=s.drop a) (a:=9) (i:=1);rw [d9,te] at this;exact this.symm
  have n10:(s.getD (a+10) 0).toNat=o.dl.length:=by
   rw [g10,UInt8.toNat_ofNat_of_lt' (by simp [UInt8.size];omega)]
  have ht:(s.drop (a+11)).take o.dl.length=o.dl:=by
   rw [<- List.drop_drop,d11,List.take_left]
  unfold ry;rw [if_neg (by rw [h0];rintro (q | q);omega;exact absurd q D_),if_pos (by rw [h0];rfl),n10,if_neg O_,w1,w3,w7,g9,ht];have:(⟨true,o.xu,o.ts,o.np,o.ns,o.dl⟩:Ol)=o:=by rw [<- hv]
  rw [this,zs,Nat.add_assoc]
theorem eI {s:List UInt8}:∀ (l:List Ol) (a:Nat) (rest:List UInt8),a<=s.length->s.drop a=pX l++rest->(∀ o∈l,o.ok/\o.wG=true)->rh s l.length a=some (l,a+(pX l).length)
 | [],a,rest,ha,hd,h=>rfl
 | o :: l,a,rest,ha,hd,h=>by
  have e:pX (o :: l)=o.enc++pX l:=rfl;obtain ⟨h1,h2⟩:=h o List.mem_cons_self;rw [e,List.append_assoc] at hd;have ho:=OS ha hd h1 h2;have hl:s.length-a=o.sz+(pX l++rest).length:=by
   have:=congrArg List.length hd;rw [List.length_drop,List.length_append,nN] at this;exact this
  have hd2:s.drop (a+o.sz)=pX l++rest:=by
   rw [<- List.drop_drop,hd,List.drop_left' (nN o)]
  have hz:o.sz<=s.length-a:=O_;have ih:=eI l (a+o.sz) rest O_ hd2 λo' rD=>h o' (List.mem_cons_of_mem _ rD);show (match ry s a with | none=>none | some (o,b)=>match rh s l.length b with | none=>none | some (l,e)=>some (o :: l,e))=_;rw [ho];show (match rh s l.length (a+o.sz) with | none=>none | some (l,e)=>some (o :: l,e))=_;rw [ih];show some (o :: l,a+o.sz+(pX l).length)=_;rw [e,List.length_append,nN,Nat.add_assoc]
theorem lz {no:Nat} {u:Un} (vk:no<65536) (ok:u.ok) (hm:wZ u.zt=true):ua no (tg no u)=some u:=by
 obtain ⟨m1,m2,m3,m4⟩:=sU.1 hm;have hb:(OL u.zt).length=224:=it m4;have hlen:=pK (no:=no) hm;have dg:∀ i,15<=i->(tg no u).getD i 0=(OL u.zt).getD i 0:=λi hi=>gG hb hi;have zdu:(tg no u).drop 15=(UInt8.ofNat u.zt.length) :: (pX u.zt++xM (224-yG u.zt)):=by
  have e1:(OL u.zt).drop 15=(UInt8.ofNat u.zt.length) :: (pX u.zt++xM (224-yG u.zt)):=by
   unfold OL kQ;rw [List.append_assoc,List.append_assoc,List.drop_left' (zI 15)];rfl
  rw [<- e1];refine MX (by rw [List.length_drop,List.length_drop,hlen,hb]) λi hi=>?_;rw [te,te];exact dg _ O_
 have h15:(tg no u).getD 15 0=UInt8.ofNat u.zt.length:=by
  have:=te (s:=tg no u) (a:=15) (i:=0);rw [zdu] at this;exact this.symm
 have n15:((tg no u).getD 15 0).toNat=u.zt.length:=by
  rw [h15,UInt8.toNat_ofNat_of_lt' (by simp [UInt8.size];omega)]
 have zdv:(tg no u).drop 16=pX u.zt++xM (224-yG u.zt):=by
  rw [show (16:Nat)=15+1 from rfl,<- List.drop_drop,zdu];rfl
 have ho:=eI u.zt 16 _ (by rw [hlen];omega) zdv λo ho=>⟨ok.zt o ho,m3 o ho⟩
 have qU:oF 2 no (tg no u):=Z4 hb vk;have hlsn:xB (tg no u) 7 8=u.zZ:=Uk hb ok.zZ;have zdw:∀ x∈(tg no u).drop (16+(pX u.zt).length),x=0:=by
  rw [<- List.drop_drop,zdv,List.drop_left];intro x hx;exact List.eq_of_mem_replicate hx
 unfold ua;rw [if_pos qU,n15,ho,hlsn];show (if _/\wZ ([]++u.zt)=true then some _ else none)=_;rw [List.nil_append,if_pos ⟨zdw,hm⟩]
def Rc.kJ (r:Rc):Ol:=⟨r.live,r.op.toNat,r.du.toNat,r.dv.toNat,c1 r.Xa,r.od⟩
def t9 (u:Un) (r:Rc):Option Un :=
 if r.k=3 then (if (uw u (Rc.kJ r)).2.2=0/\((uw u (Rc.kJ r)).2.1:Int)=r.sl then some (uw u (Rc.kJ r)).1 else none)
 else if r.k=4 then uN u r.sl.toNat else if r.k=5 then jV u r.sl.toNat else some u
def tT (no:Nat) (p:List UInt8) (zZ:Nat) (r:Rc):Option (List UInt8):=match ua no p with
 | none=>none
 | some u=>(t9 u r).map λv=>tg no ⟨zZ,v.zt⟩
theorem z6d {r:Rc} (o:r.ok):(Rc.kJ r).v=uD r.live r.op r.du r.dv r.Xa r.od:=by
 obtain ⟨a1,a2⟩:=o.op;obtain ⟨b1,b2⟩:=o.du;obtain ⟨d1,d2⟩:=o.dv;obtain ⟨e1,e2⟩:=o.Xa;show V.agg [.bool r.live,.int .u16 (r.op.toNat:Nat),.int .u32 (r.du.toNat:Nat),.agg [.int .u16 (r.dv.toNat:Nat),.int .u8 ((UInt8.ofNat r.Xa.toNat).toNat:Nat)],.str r.od]=_;rw [show ((r.op.toNat:Nat):Int)=r.op by omega,show ((r.du.toNat:Nat):Int)=r.du by omega,show ((r.dv.toNat:Nat):Int)=r.dv by omega,UInt8.toNat_ofNat_of_lt' (by simp [UInt8.size];omega),show ((r.Xa.toNat:Nat):Int)=r.Xa by omega];rfl
theorem La {r:Rc} (o:r.ok) (hd:r.od.length<1000000):(Rc.kJ r).ok:=by
 obtain ⟨a1,a2⟩:=o.op;obtain ⟨b1,b2⟩:=o.du;obtain ⟨d1,d2⟩:=o.dv;exact ⟨by show r.op.toNat<_;omega,by show r.du.toNat<_;omega,by show r.dv.toNat<_;omega,hd⟩
theorem Kg {u:Un} {o:Ol} (h:(uw u o).2.2=0):wZ (uw u o).1.zt=true/\(uw u o).1.zZ=u.zZ/\xv u.zt o.dl.length=some (uw u o).2.1/\(uw u o).1.zt=yS u.zt (uw u o).2.1 o/\o.live=true:=by
 unfold uw at h ⊢;split at h
 ·cases h
 ·rename_i g;rw [if_neg g];cases hp:xv u.zt o.dl.length with
  | none=>rw [hp] at h;cases h
  | some i =>
   have hl:o.live=true:=by
    cases q:o.live with
    | true=>rfl
    | false=>exact absurd (.inr (.inl q)) g
   exact ⟨U5 hl hp,rfl,rfl,rfl,hl⟩
theorem Hn (u:Un) (o:Ol):(uw u o).2.1<15:=by
 unfold uw;split
 ·decide
 ·cases hp:xv u.zt o.dl.length with
  | none=>show 0<15;omega
  | some i=>exact (wz hp).2.2.2.1
theorem kq {u v:Un} {r:Rc} (hu:wZ u.zt=true) (h:t9 u r=some v):wZ v.zt=true:=by
 unfold t9 at h;split at h
 ·split at h
  ·rename_i g;cases h;exact (Kg g.1).1
  ·cases h
 ·split at h
  ·exact (YG h).1
  ·split at h
   ·exact (Lw h).1
   ·cases h;exact hu
section
variable {h0:AH} {n4 n5 n6 n8:Nat} {no zZ:Nat} {r:Rc} {res:Option (List UInt8)}
abbrev UQ (h0:AH) (res:Option (List UInt8)):yO->AH->Prop:=vC (oe res) h0
theorem PU {h:AH} {w:V} (q:zb [] h0 h) (l6:h0.next<=n6) (f6:h.m n6=some (.cells true (.one 33) w)) (hr:res=none) :
 z0 (zh Pg h 33 (VC n6) (.agg (zd (xM 224)))) λ_ h1=>yq (zX Pg [(6,VC n6),(7,.int .i64 2)] h1 dE) λv=>UQ h0 res (.ret v) h1:=by
 refine zq (zM (p:=[]) f6 K_ rfl (xf (zI 224)) rfl) λh1 u1=>?_;have e1:=zR (P:=Pg) (t:=33) (p:=[]) u1.at_ K_ (w:=.agg (zd (xM 224))) rfl;simp only [z9] at e1;have e2:=(zK e1).1;refine yr (show zX Pg _ _ dE=some [.agg (zd (xM 224)),.int .i64 2] by simp [dE,zX,zJ.get,e2]) ?_;subst hr;exact ⟨rfl,(q.ya u1 l6).all⟩
theorem K2 {h:AH} {w w6 we:V} {v:Un} (vk:no<65536) (hl:zZ<18446744073709551616) (q:zb [] h0 h) (l6:h0.next<=n6) (l8:h0.next<=n8) (f6:h.m n6=some (.cells true (.one 33) w6)) (f8:h.m n8=some (.cells true (.one 50) w)) (f5:h.m n5=some (.cells true (.one 97) (.agg [.int .u64 zZ,we]))) (b:sZ h w v) (hm:wZ v.zt=true) (hr:res=some (tg no ⟨zZ,v.zt⟩)) :
 z6y (UQ h0 res) (.int .u16 no) (.ptr (some ⟨n5,.one 97,[]⟩)) (VC n6) (.ptr (some ⟨n8,.one 50,[]⟩)) h:=by
 obtain ⟨⟨sv,rfl,rb⟩,ok⟩:=b;rw [Bw];refine zx K_ ?_;refine zl f5 K_ (w:=.int .u64 zZ) rfl ?_;refine zx K_ ?_;refine zq (zM f8 K_ (w:=.int .u64 v.zZ) rfl K_ (v':=vE zZ sv) rfl) λh1 u1=>?_;have n1:=u1.next;have q1:zb [(0,50,0)] h h1:=zb.vP u1 f8 rfl rfl;have dw:=q.ya u1 l8;refine zl u1.at_ K_ (w:=vE zZ sv) rfl ?_;have b1:sZ h1 (vE zZ sv) ⟨zZ,v.zt⟩:=⟨⟨sv,rfl,rb.zA q1 rfl⟩,hl,ok.zt,ok.len⟩
 refine yf (AM b1 vk) ?_;rw [show mM no ⟨zZ,v.zt⟩=.yX [.agg (zd (tg no ⟨zZ,v.zt⟩)),.int .i64 0] by unfold mM;rw [if_pos hm]];apply wj;apply wl;have f61:h1.m n6=some (.cells true (.one 33) w6):=(u1.other n6 (uQ f6 f8 (by simp [AO.tag]))).trans f6;have hlen:(tg no ⟨zZ,v.zt⟩).length=224:=pK hm;refine zq (zM (p:=[]) f61 K_ rfl (xf hlen) rfl) λh2 u2=>?_;have e1:=zR (P:=Pg) (t:=33) (p:=[]) u2.at_ K_ (w:=.agg (zd (tg no ⟨zZ,v.zt⟩))) rfl;simp only [z9] at e1;have e2:=(zK e1).1;refine yr (show zX Pg _ _ dE=some [.agg (zd (tg no ⟨zZ,v.zt⟩)),.int .i64 0] by simp [dE,zX,zJ.get,e2]) ?_;subst hr;exact ⟨rfl,(dw.ya u2 l6).all⟩
end
theorem U8 (m:Nat->Bool) (x:Option (List UInt8)):tK m (oe x)=true:=by
 cases x with
 | none=>show (tK m (.agg (zd (xM 224)))&&_)=true;rw [rE];rfl
 | some y=>show (tK m (.agg (zd y))&&_)=true;rw [rE];rfl
theorem z9C {h:AH} {no zZ:Nat} {p:List UInt8} {r:Rc} (hp:p.length=224) (vk:no<65536) (hl:zZ<18446744073709551616) (o:r.ok) (hod:r.od.length<1000000):z0q 134 [.int .u16 no,.agg (zd p),dI zZ r] h (zO (oe (tT no p zZ r)) h):=by
 refine yN (U8 _ _) ?_;show z0q 134 _ h (UQ h (tT no p zZ r));have sr:=qO r o.im;refine C134 _ _ _ _ _ ?_;refine zq (yl (xf hp)) λh1 u1=>?_;have n1:=u1.next;have q1:zb [] h h1:=zb.new u1;refine zq (yl (MJ zZ o.im)) λh2 u2=>?_;have n2:=u2.next;have q2:zb [] h1 h2:=zb.new u2;refine zq (yA na (xf (zI 224))) λh3 u3=>?_;have n3:=u3.next;have q3:zb [] h2 h3:=zb.new u3;have ez:=(q1.trans q2).trans q3;have f1:=(q2.trans q3).at u1.at_ O_ rfl;have f5:=q3.at u2.at_ O_ rfl;have f6:=u3.at_;clear u1 u2 u3 q1 q2 q3;refine zl f1 K_ (w:=.agg (zd p)) rfl ?_;refine YP (RL hp vk) λw h4 q4 b4=>?_;have n4:=q4.next;apply wj;apply wl;refine zq (yA UK uE) λh5 u5=>?_;have n5:=u5.next;have q5:zb [] h4 h5:=zb.new u5;refine zq (zM (p:=[]) u5.at_ K_ rfl b4.sh rfl) λh6 u6=>?_;have n6:=u6.next;have Vf:zb [] h4 h6:=q5.ya u6 (Nat.le_refl _);have q36:=q4.trans Vf;have Tj:=ez.trans q36;have g5:=q36.at f5 O_ rfl;have g6:=q36.at f6 O_ rfl;have g8:=u6.at_;have b6:=b4.zA Vf rfl;clear f1 f5 f6 u5 u6;cases hg:ua no p with
 | none =>
  rw [hg] at b6;rw [show (ZC none).2=2 from rfl];refine xe O_ ?_;apply xz;refine z6 Oq ?_;exact PU Tj O_ g6 (by unfold tT;rw [hg])
 | some u =>
  rw [hg] at b6;have um:=av hg;have b6:sZ h6 w u:=b6;have eu:tT no p zZ r=(t9 u r).map λv=>tg no ⟨zZ,v.zt⟩:=by unfold tT;rw [hg]
  rw [show (ZC (some u)).2=0 from rfl];refine yx O_ ?_;apply yZ;refine sm (F4 ..) ?_;refine zx K_ ?_;refine zl g5 K_ (w:=r.v) rfl ?_;refine zq (yA SQ (wT.V9 0)) λh7 u7=>?_;have n7:=u7.next;have q7:zb [] h6 h7:=zb.new u7;refine zq (zM (p:=[]) u7.at_ K_ rfl sr rfl) λh8 u8=>?_;have n8:=u8.next;have q68:zb [] h6 h8:=q7.ya u8 (Nat.le_refl _);have Jm:=Tj.trans q68;have k5:=q68.at g5 O_ rfl;have k6:=q68.at g6 O_ rfl;have k8:=q68.at g8 O_ rfl;have V6:=u8.at_;have b8:=b6.zA q68 rfl;clear g5 g6 g8 u7 u8 b6;have gk:yF r.v ([]++[0])=some (.int .u8 r.k):=rfl;have gs:yF r.v ([]++[6])=some (.int .u8 r.sl):=rfl;have go:yF r.v ([]++[7])=some (Rc.kJ r).v:=by rw [z6d o];rfl
  obtain ⟨s1,s2⟩:=o.sl;have hs:r.sl=((r.sl.toNat:Nat):Int):=O_;by_cases c3:r.k=3
  ·refine zx K_ ?_;refine zl V6 K_ gk ?_;refine xn O_ ?_;apply xz;refine zl k8 K_ rfl ?_;refine zx K_ ?_;refine zl V6 K_ go ?_;refine YP (addP b8 (La o hod)) λw2 h9 q9 b9=>?_;have n9:=q9.next;have al:=Hn u (Rc.kJ r);refine z6 (show zm (.yX [w2,.int .u8 (uw u (Rc.kJ r)).2.1,.int .i64 (uw u (Rc.kJ r)).2.2]) 0=some w2 from rfl) ?_;refine z6 (show zm (.yX [w2,.int .u8 (uw u (Rc.kJ r)).2.1,.int .i64 (uw u (Rc.kJ r)).2.2]) 1=some (.int .u8 (uw u (Rc.kJ r)).2.1) from rfl) ?_;refine z6 (show zm (.yX [w2,.int .u8 (uw u (Rc.kJ r)).2.1,.int .i64 (uw u (Rc.kJ r)).2.2]) 2=some (.int .i64 (uw u (Rc.kJ r)).2.2) from rfl) ?_;refine zq (yA UK uE) λh10 Tk=>?_;have n10:=Tk.next;have A5:zb [] h9 h10:=zb.new Tk;refine zq (zM (p:=[]) Tk.at_ K_ rfl b9.sh rfl) λJT Oe=>?_;have n11:=Oe.next;have T6:zb [] h9 JT:=A5.ya Oe (Nat.le_refl _);have q8:=q9.trans T6;have Vb:=Jm.trans q8;have m5:=q8.at k5 O_ rfl;have m6:=q8.at k6 O_ rfl;have m8:=q8.at k8 O_ rfl;have m10:=q8.at V6 O_ rfl;have m11:=Oe.at_;have b11:=b9.zA T6 rfl;by_cases c4:(uw u (Rc.kJ r)).2.2=0
   ·by_cases c5:((uw u (Rc.kJ r)).2.1:Int)=r.sl
    ·have es:t9 u r=some (uw u (Rc.kJ r)).1:=by unfold t9;rw [if_pos c3,if_pos ⟨c4,c5⟩]
     refine yx O_ ?_;apply xc;refine zx K_ ?_;refine zl m10 K_ gs ?_;refine yx O_ ?_;refine sm (TT ..) ?_;apply yi;refine sm (Bv ..) ?_;apply yZ;refine sm (CR ..) ?_;refine zl m11 K_ (w:=w2) rfl ?_;refine zq (zM (p:=[]) m8 K_ rfl b11.sh rfl) λNH NM=>?_;have n12:=NM.next;have cL:zb [(0,50,0)] JT NH:=zb.vP NM m8 rfl rfl;refine z7.of (K2 vk hl (Vb.ya NM O_) O_ O_ (cL.at m6 O_ rfl) NM.at_ (cL.at m5 O_ rfl) (b11.zA cL rfl) (kq um es) (by rw [eu,es];rfl))
    ·have es:t9 u r=none:=by unfold t9;rw [if_pos c3,if_neg (λg=>c5 g.2)]
     refine yx O_ ?_;apply xc;refine zx K_ ?_;refine zl m10 K_ gs ?_;refine xe O_ ?_;refine sm (TT ..) ?_;apply yi;refine sm (Bv ..) ?_;apply xz;refine z6 Oq ?_;exact PU Vb O_ m6 (by rw [eu,es];rfl)
   ·have es:t9 u r=none:=by unfold t9;rw [if_pos c3,if_neg (λg=>c4 g.1)]
    refine xe O_ ?_;apply tA;refine sm (TT ..) ?_;apply wc;refine sm (Bv ..) ?_;apply xz;refine z6 Oq ?_;exact PU Vb O_ m6 (by rw [eu,es];rfl)
  ·have fr : ∀ (x : Option Un) (f : Nat), (∀ h, sZ h w u -> z0q f [w, .int .u8 (r.sl.toNat : Nat)] h (oH h (λw=> .yX [w, .int .i64 (NT x).2]) (NT x).1)) -> vZ Pg f = true -> t9 u r = x ->
    z8q (UQ h (tT no p zZ r)) (.int .u16 no) (.ptr (some ⟨h1.next,.one 97,[]⟩)) (VC h2.next) (.ptr (some ⟨h4.next,.one 50,[]⟩)) (.ptr (some ⟨h6.next,.one 95,[]⟩)) (.fn (.func f) [] []) h8:=by
    intro x f cf ef es;rw [DM];refine zl k8 K_ (w:=w) rfl ?_;refine zx K_ ?_;refine zl V6 K_ gs ?_;refine (show ∀ A B:Prop,B->(rp (vZ Pg f) B A) from λA B hB=>by rw [ef];exact hB) _ _ ?_;rw [hs];refine YP (cf _ b8) λw2 h9 q9 b9=>?_;have n9:=q9.next;apply wj;apply wl;refine zq (yA UK uE) λh10 Tk=>?_;have n10:=Tk.next;have A5:zb [] h9 h10:=zb.new Tk;refine zq (zM (p:=[]) Tk.at_ K_ rfl b9.sh rfl) λJT Oe=>?_;have n11:=Oe.next;have T6:zb [] h9 JT:=A5.ya Oe (Nat.le_refl _);have q8:=q9.trans T6;have Vb:=Jm.trans q8;have m5:=q8.at k5 O_ rfl;have m6:=q8.at k6 O_ rfl;have m8:=q8.at k8 O_ rfl;have m11:=Oe.at_;have b11:=b9.zA T6 rfl;cases x with
    | none =>
     rw [show (NT none).2=1 from rfl];refine xe O_ ?_;apply xz;refine z6 Oq ?_;exact PU Vb O_ m6 (by rw [eu,es];rfl)
    | some v =>
     rw [show (NT (some v)).2=0 from rfl];refine yx O_ ?_;apply yZ;refine sm (Eo ..) ?_;refine zl m11 K_ (w:=w2) rfl ?_;refine zq (zM (p:=[]) m8 K_ rfl b11.sh rfl) λNH NM=>?_;have n12:=NM.next;have cL:zb [(0,50,0)] JT NH:=zb.vP NM m8 rfl rfl;refine z7.of (K2 vk hl (Vb.ya NM O_) O_ O_ (cL.at m6 O_ rfl) NM.at_ (cL.at m5 O_ rfl) (b11.zA cL rfl) (kq um es) (by rw [eu,es];rfl))
   by_cases c4:r.k=4
   ·refine zx K_ ?_;refine zl V6 K_ gk ?_;refine yB O_ ?_;apply yZ;refine xn O_ ?_;apply xz;refine sm (Dw ..) ?_;apply xz;refine zx K_ ?_;refine zl V6 K_ gk ?_;refine yB O_ ?_;apply yZ;exact z7.of (fr (uN u r.sl.toNat) _ (λh b=>z1g b O_) K_ (by unfold t9;rw [if_neg c3,if_pos c4]))
   ·by_cases c5:r.k=5
    ·refine zx K_ ?_;refine zl V6 K_ gk ?_;refine yB O_ ?_;apply yZ;refine yB O_ ?_;apply yZ;refine xn O_ ?_;refine sm (Dw ..) ?_;apply xz;refine zx K_ ?_;refine zl V6 K_ gk ?_;refine xn O_ ?_;apply xz;exact z7.of (fr (jV u r.sl.toNat) _ (λh b=>z9a b O_) K_ (by unfold t9;rw [if_neg c3,if_neg c4,if_pos c5]))
    ·have es:t9 u r=some u:=by unfold t9;rw [if_neg c3,if_neg c4,if_neg c5]
     refine zx K_ ?_;refine zl V6 K_ gk ?_;refine yB O_ ?_;apply yZ;refine yB O_ ?_;apply yZ;refine yB O_ ?_;refine sm (Dw ..) ?_;apply yZ;refine z7.of (K2 vk hl Jm O_ O_ k6 k8 k5 b8 um (by rw [eu,es];rfl))
end Go.Proofs.YtdbgifdfdhhjcaaGreat.Sh
end
