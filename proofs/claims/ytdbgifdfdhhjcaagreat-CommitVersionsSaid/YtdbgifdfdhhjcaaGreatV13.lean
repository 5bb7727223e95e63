import Derived.Test.YtdbgifdfdhhjcaaGreatV12
import Derived.Test.YtdbgifdfdhhjcaaGreatProg
import Derived.Test.YtdbgifdfdhhjcaaGreatV05
import Derived.Test.YtdbgifdfdhhjcaaGreatV07
import Derived.Test.YtdbgifdfdhhjcaaGreatV06
import Derived.Test.YtdbgifdfdhhjcaaGreatV08
set_option linter.unusedVariables false
set_option linter.unusedSimpArgs false
set_option linter.unusedSectionVars false
noncomputable section
namespace Go.Proofs.YtdbgifdfdhhjcaaGreat.Ru
open Go Go.Ab Go.RowKit
abbrev Pg:Program:=Tryz.prog
set_option maxRecDepth 100000
theorem zam:((List.range Pg.types.size).all λt=>ir Pg t&&Tx Pg t)=true:=K_
theorem yL:Ok Pg:=zcr Pg λt ht=>List.all_eq_true.1 zam t (List.mem_range.2 ht)
def F2:FD:=⟨1,Tryz.f2.results.toList,(Tryz.f2.body).getD .skip,false,false⟩
def F3:FD:=⟨130,Tryz.f3.results.toList,(Tryz.f3.body).getD .skip,false,false⟩
theorem ok3:FdOk Pg 3 F3:=⟨Tryz.f3,Tryz.func3,K_,K_,rfl,K_⟩
def PT:T8 Unit:=(.node none (.node none (.node none .nil (.node (some ()) .nil .nil .nil .nil .nil .nil .nil .nil) .nil .nil .nil .nil .nil .nil) .nil (.node (some ()) .nil .nil .nil .nil .nil .nil .nil .nil) .nil (.node (some ()) .nil .nil (.node (some ()) .nil .nil .nil .nil .nil .nil .nil .nil) .nil .nil .nil .nil .nil) .nil (.node none .nil (.node (some ()) .nil .nil .nil .nil .nil .nil .nil .nil) .nil .nil .nil .nil .nil .nil) (.node none .nil (.node (some ()) .nil .nil .nil .nil .nil .nil .nil .nil) .nil .nil .nil .nil .nil .nil)) (.node none (.node none .nil (.node (some ()) .nil .nil .nil .nil .nil .nil .nil .nil) (.node (some ()) .nil .nil .nil .nil .nil .nil .nil .nil) .nil .nil .nil .nil .nil) (.node none .nil .nil (.node (some ()) .nil .nil .nil .nil .nil .nil .nil .nil) .nil .nil .nil .nil .nil) .nil (.node none .nil (.node (some ()) .nil .nil .nil .nil .nil .nil .nil .nil) .nil .nil .nil .nil .nil .nil) (.node none .nil (.node (some ()) .nil .nil .nil .nil .nil .nil .nil .nil) .nil .nil .nil .nil .nil .nil) .nil (.node none .nil (.node (some ()) .nil .nil .nil .nil .nil .nil .nil .nil) .nil .nil .nil .nil .nil .nil) (.node none .nil (.node (some ()) .nil .nil .nil .nil .nil .nil .nil .nil) .nil .nil .nil .nil .nil .nil)) (.node none (.node none .nil (.node (some ()) .nil .nil .nil .nil .nil .nil .nil .nil) (.node (some ()) .nil .nil .nil .nil .nil .nil .nil .nil) .nil .nil .nil .nil .nil) (.node none .nil .nil (.node (some ()) .nil .nil .nil .nil .nil .nil .nil .nil) .nil .nil .nil .nil .nil) .nil .nil (.node none .nil .nil (.node (some ()) .nil .nil .nil .nil .nil .nil .nil .nil) .nil .nil .nil .nil .nil) .nil .nil (.node (some ()) .nil .nil .nil .nil .nil .nil .nil .nil)) (.node none (.node none .nil .nil (.node (some ()) .nil .nil .nil .nil .nil .nil .nil .nil) .nil .nil .nil .nil .nil) .nil .nil (.node none .nil (.node (some ()) .nil .nil .nil .nil .nil .nil .nil .nil) .nil .nil .nil .nil .nil .nil) .nil (.node (some ()) .nil .nil .nil .nil .nil .nil .nil .nil) (.node (some ()) .nil .nil .nil .nil .nil .nil .nil .nil) (.node (some ()) .nil (.node (some ()) .nil .nil .nil .nil .nil .nil .nil .nil) .nil .nil .nil .nil .nil .nil)) (.node none (.node none .nil .nil (.node (some ()) .nil .nil .nil .nil .nil .nil .nil .nil) .nil .nil .nil .nil .nil) .nil (.node (some ()) .nil .nil .nil .nil .nil .nil .nil .nil) .nil (.node (some ()) .nil .nil .nil .nil .nil .nil .nil .nil) (.node (some ()) .nil .nil .nil .nil .nil .nil .nil .nil) (.node (some ()) .nil .nil .nil .nil .nil .nil .nil .nil) (.node (some ()) .nil .nil .nil .nil .nil .nil .nil .nil)) (.node none (.node none .nil (.node (some ()) .nil .nil .nil .nil .nil .nil .nil .nil) (.node (some ()) .nil .nil .nil .nil .nil .nil .nil .nil) .nil .nil .nil .nil .nil) .nil (.node none .nil .nil (.node (some ()) .nil .nil .nil .nil .nil .nil .nil .nil) .nil .nil .nil .nil .nil) .nil .nil (.node none .nil (.node (some ()) .nil .nil .nil .nil .nil .nil .nil .nil) .nil .nil .nil .nil .nil .nil) .nil .nil) (.node none .nil (.node (some ()) .nil .nil .nil .nil .nil .nil .nil .nil) (.node none .nil .nil (.node (some ()) .nil .nil .nil .nil .nil .nil .nil .nil) .nil .nil .nil .nil .nil) .nil .nil .nil .nil (.node (some ()) .nil .nil .nil .nil .nil .nil .nil .nil)) (.node none (.node none .nil (.node (some ()) .nil .nil .nil .nil .nil .nil .nil .nil) .nil .nil .nil .nil .nil .nil) .nil (.node none .nil (.node (some ()) .nil .nil .nil .nil .nil .nil .nil .nil) .nil .nil .nil .nil .nil .nil) (.node (some ()) .nil (.node (some ()) .nil .nil .nil .nil .nil .nil .nil .nil) .nil .nil .nil .nil .nil .nil) .nil (.node (some ()) .nil .nil .nil .nil .nil .nil .nil .nil) .nil .nil))
def pu:FuncId->Bool:=λf=>(T8.get (path f) PT).isSome
def qR (r:Nat):Nat:=Nat.xor (Nat.shiftRight r 1) (Nat.mul 3988292384 (Nat.land r 1))
def XA:Nat->Nat->Nat
 | 0,r=>r
 | n+1,r=>XA n (qR r)
def nz:List UInt8->Nat->Nat
 | [],r=>r
 | b :: s,r=>Ks (XA 8 (Nat.xor r b.toNat)) λr=>nz s r
def og (sum:Nat) (s:List UInt8):Nat:=Nat.xor (nz s (Nat.xor sum 4294967295)) 4294967295
def hd:HdF:=λf a=>match Nat.beq f 160 with
 | true=>(match a with
  | [.int .u32 (.ofNat n),.str s]=>bif Nat.blt n 4294967296&&Nat.blt s.length 1000000 then some (.int .u32 (.ofNat (og n s))) else none
  | _=>none)
 | false=>none
end Go.Proofs.YtdbgifdfdhhjcaaGreat.Ru
namespace Go.Proofs.YtdbgifdfdhhjcaaGreat.Sh
open Go Go.Ab
abbrev z0o:=z9 Ru.Pg
abbrev z0s:=zi Ru.Pg
abbrev z0q:=za Ru.Pg
abbrev z0e:=z5 Ru.Pg
abbrev z0t:=zh Ru.Pg
abbrev z0D:=zV Ru.Pg
abbrev z0G:=xR Ru.Pg
abbrev z0w:=zy Ru.Pg
abbrev z0F:=y9 Ru.Pg
abbrev z0y:=zD Ru.Pg
abbrev z0u:=zr Ru.Pg
def bd (f:Func):Code:=f.body.getD .skip
theorem mkC {f:FuncId} {fn:Func} (hf:Ru.Pg.funcs[f]?=some fn) (c:Code) (N:Nat) (k:KT) (R:List ResultVar) {args:List V} {h:AH} {Q:yO->AH->Prop} {t:Prop} (ct:t) (hb:fn.body=some c:=by first | kernel_rfl) (hN:args.length+(fn.ntmps-args.length)=N:=by first | kernel_rfl) (hR:fn.results.toList=R:=by first | kernel_rfl) (e:t=vc Ru.Pg N c k (zn Ru.Pg R Q) (zC 0 args) h:=by first | kernel_rfl):za Ru.Pg f args h Q:=by
 subst hN;subst hR;exact zk Ru.yL hf hb k (z8 e.symm ct)
abbrev lF:KT:=.leaf
abbrev sQ:=@KT.seq
abbrev jN:=@KT.join
end Go.Proofs.YtdbgifdfdhhjcaaGreat.Sh
namespace Go.Ab
open Go
def ZK (h0 h:AH) (r:Option (AO × (Nat->V))) (K:V->AH->Prop):Prop :=
 match r with
 | some (ob,mk)=>me h0 h/\K (mk h.next) (h.make ob)
 | none=>False
theorem WY {P:Program} {h0 h:AH} {t:TypeId} {z:V} {K:V->AH->Prop} (hz:xk P t=some z) (hs:zf P z t=true) (ho:tK (λ_=>false) z=true) (ux:∀ n o,h.m n=some o->o.w8=true)
 (k:K (.ptr (some ⟨h.next,.one t,[]⟩)) (h.make (.cells true (.one t) z))):ZK h0 h (tt P (λ_=>.xF) (.alloc t)) K:=by
 simp only [ZK,tt,hz,hs,ho,Bool.and_self,if_true];exact ⟨λn o hm=>.inl (ux n o hm),k⟩
def ii (P:Program) (t:TypeId) (l c:V):Option (AO × (Nat->V)) :=
 match wU P xD t l c with
 | some (.y8 (some (⟨_,.row e,[]⟩,0)) m,h)=>match h.m 0 with
  | some o=>if Wv o then some (o,λn=>.y8 (some (⟨n,.row e,[]⟩,0)) m) else none
  | none=>none
 | _=>none
theorem Wz {P:Program} {h0 h:AH} {o:AO} {e m:Nat} {t:TypeId} {l c:V} {K:V->AH->Prop} (hf:ii P t l c=some (o,λn=>.y8 (some (⟨n,.row e,[]⟩,0)) m)) (ux:me h0 h)
 (k:K (.y8 (some (⟨h.next,.row e,[]⟩,0)) m) (h.make o)):ZK h0 h (ii P t l c) K:=by
 rw [hf];exact ⟨ux,k⟩
end Go.Ab
namespace Go.Proofs.YtdbgifdfdhhjcaaGreat.Sh
section
open Go Go.Ab Go.RowKit
open Go.Proofs.YtdbgifdfdhhjcaaGreat.Ru (Pg yL)
set_option maxRecDepth 100000
noncomputable section
variable (Q:yO->AH->Prop) (ds:List AD) (n n1 n2:Nat) (x0 x1 x2 x3 x4 x5 x6 x7 x8 x9 x12 x13 x15 x17 x19 x20 x21 x22 x23 x24 x25 x26 x27 x29 x30 x31 x33 x35 x37 x39 x41 x48 x49 x145 x149:V) (a0 a1 a2 a3 a4:V) (h:AH)
def B15:=bd Tryz.f15
def NQ:List ResultVar:=[.cell 4 33,.tmp 5]
abbrev N15:=189
def K15:KT:=(sQ lF (jN (sQ lF (.two (sQ lF lF [4,5]) lF) [0,3,4,21]) (jN (sQ lF (sQ lF (.two (sQ lF (sQ lF (sQ lF lF [4,5]) [4,6]) [0,4,6,7]) lF) [0,3,4,6,7,30]) [0,3,4,6,7]) (sQ lF (jN (sQ lF (.two (sQ lF (jN (sQ lF (.two (sQ lF lF [4,5]) lF) [0,3,4,9,67]) (sQ lF (sQ lF (.two (sQ lF (sQ lF (.two (sQ lF lF [4,5]) lF) [0,3,4,8,11,87]) [0,3,4,8,11]) lF) [0,3,4,8,77]) [0,3,4,8]) [0,3,4,9]) [0,3,4,9,10]) lF) [0,3,4,8,57]) (sQ (.NG [10,14,15] [14] 15 10) (jN (sQ lF (.two (sQ lF lF [4,5]) lF) [0,3,4,8,12,13,105]) (jN (sQ lF (.two lF (.nG [12])) [0,3,4,8,12,114]) (sQ lF (jN (.rm [[0,3,4,8,15,145,149]]) (jN (sQ lF (.two lF lF) [0,3,4,8,15,17,151]) (sQ (.nG [10]) (sQ (.nG [6]) (sQ lF (sQ lF (sQ lF (sQ lF lF [4,5]) [4,15]) [0,4,8,15]) [0,4,8,15]) [0,4,8,15]) [0,3,4,8,15]) [0,3,4,8,15,17]) [0,3,4,8,15,17]) [0,3,4,8,15,16]) [0,3,4,8,12]) [0,3,4,8,12]) [0,3,4,8,12,13]) [0,3,4,8]) [0,3,4,8]) [0,3,4]) [0,3,4]) [0,3,4])
def om (p l:List Nat) (e:zJ):Prop:=xG Pg N15 B15 K15 p l (zn Pg NQ Q) e h
def z7t:Prop:=om Q h [1,1,1,1,1,1,1,1,1,1,1] [] [(0,x0),(3,x3),(4,x4),(8,x8),(15,x15),(17,x17)]
def z7Z:Prop:=om Q h [1,1,1,1,1,1,1,1,1,1] [] [(0,x0),(3,x3),(4,x4),(8,x8),(15,x15),(17,x17)]
def Gzn:Prop:=yu Pg N15 B15 K15 [1,1,1,1,1,1,1,1,1,0] 2 1 [] (zn Pg NQ Q) [(0,x0),(3,x3),(4,x4),(8,x8),(15,x15),(145,x145),(149,x149)] h
def z7Q:Prop:=om Q h [1,1,1,1,1,1,1,1] [] [(0,x0),(3,x3),(4,x4),(8,x8),(12,x12)]
def zac:Prop:=om Q h [1,1,1,1,1,1,1] [] [(0,x0),(3,x3),(4,x4),(8,x8),(12,x12)]
def z39:Prop:=om Q h [1,1,1,1,1] [] [(0,x0),(3,x3),(4,x4),(8,x8)]
def zbx:Prop:=om Q h [1,1,1,1,0,1,0,1,1] [] [(0,x0),(3,x3),(4,x4),(9,x9)]
def zc9:Prop:=om Q h [1,1,1] [] [(0,x0),(3,x3),(4,x4)]
def zbR:Prop:=om Q h [1,1] [] [(0,x0),(3,x3),(4,x4)]
theorem DP:z7t Q x0 x3 x4 x8 x15 x17 h=(
 zc (zj (y7 x0 h)) λb =>
 zc (zj (z03 (z0e 138 b 5) h)) λc =>
 zc (zj (z0o h 135 c)) λd =>
 (
 zc (zj (z0o h 43 x3)) λe =>
 (
 zc (zj (z0o h 33 x15)) λf =>
 (
 zc (zj (z03 (z0y 141 [(0,e),(1,f),(4,x17)]) h)) λg =>
 zc (zj (z03 (z0w 135 d x8) h)) λi =>
 z0 (z0t h 141 i g) λ_ j=>(
 zc (zj (y7 x0 j)) λk =>
 zc (zj (z03 (z0e 138 k 7) j)) λl =>
 zc (zj (z0o j 136 l)) λm =>
 (
 zc (zj (z0o j 43 x3)) λo =>
 (
 z0 (tq (sX Pg j 136 m o x8)) λ_ p=>(
 z0 (y7 x0 p) λq r =>
 z0 (z03 (z0e 138 q 2) r) λs t =>
 z0 (z0o t 134 s) λu w =>
 z0q 61 [u,x8] w (zS (λy z =>
 z0 (y7 x0 z) λA B =>
 z0 (z03 (z0e 138 A 2) B) λC D =>
 z0 (z0o D 134 C) λE F =>
 z0q 53 [E,x8] F (zS (λG H =>
 z0 (y7 x0 H) λI J =>
 z0 (z03 (z0e 138 I 2) J) λK L =>
 z0 (z0o L 134 K) λM O =>
 z0q 54 [M,x8] O (zS (λP R =>
 z0 (z0o R 33 x15) λS T =>
 z0 (z0t T 33 x4 S) λ_ U =>
 yq (zX Pg [(4,x4),(5,(V.int .i64 0))] U NQ) λv=>Q (.ret v) U) λv h=>Q (.panic v) h)) λv h=>Q (.panic v) h)) λv h=>Q (.panic v) h))))))))):=K_
theorem Gp:z7Z Q x0 x3 x4 x8 x15 x17 h=(
 zP x17 (
 z0 (z0o h 43 x3) λb c =>
 z0q 44 [b] c (zS (λd e =>
 z0 (z0t e 33 x15 d) λ_ f =>
 z7 (z7t Q x0 x3 x4 x8 x15 x17 f)) λv h=>Q (.panic v) h)) (
 z7 (z7t Q x0 x3 x4 x8 x15 x17 h))):=K_
theorem SL:Gzn Q x0 x3 x4 x8 x15 x145 x149 h=(
 z0 (yc x145 (V.bool true) x149 h) λb c =>
 z7 (z7Z Q x0 x3 x4 x8 x15 b c)):=K_
theorem z4n:z7Q Q x0 x3 x4 x8 x12 h=(
 z0 (z0o h 111 x12) λb c =>
 z0q 59 [b] c (zS (λd e =>
 z0 (z03 (zm d 0) e) λf g =>
 z0 (z03 (zm d 1) g) λi j =>
 z0 (z03 (zm d 2) j) λk l =>
 z0 (z0D l 33) λm o =>
 z0 (z0t o 33 m i) λ_ p =>
 z0 (z03 (qd .not k) p) λq r =>
 vp q false (
 z0 (z0o r 43 x3) λs t =>
 z0 (z0o t 33 m) λu w =>
 z0q 60 [s,u] w (zS (λy z =>
 z0 (z03 (qd .not y) z) λA B =>
 z7 (Gzn Q x0 x3 x4 x8 m q A B)) λv h=>Q (.panic v) h)) (z7 (Gzn Q x0 x3 x4 x8 m q yw r))) λv h=>Q (.panic v) h)):=K_
theorem W8:zac Q x0 x3 x4 x8 x12 h=(
 z0 (y7 x0 h) λb c =>
 z0 (z03 (z0e 138 b 5) c) λd e =>
 z0 (z0o e 135 d) λf g =>
 z0 (z0u g .len [135] [f]) λi j =>
 z0 (z03 (z0s .eql 3 x8 i false) j) λk l =>
 zP k (
 z0 (y7 x0 l) λm o =>
 z0 (z03 (z0e 138 m 5) o) λp q =>
 z0 (z0o q 135 p) λr s =>
 z0 (z03 (z0y 141 []) s) λt u =>
 z0 (yp Pg u 135 1 [(0,t)]) λw y =>
 z0 (z0u y .append [135,135] [r,w]) λz A =>
 z0 (y7 x0 A) λB C =>
 z0 (z03 (z0e 138 B 5) C) λD E =>
 z0 (z0t E 135 D z) λ_ F =>
 z7 (z7Q Q x0 x3 x4 x8 x12 F)) (
 zc (zj (y7 x0 l)) λG =>
 zc (zj (z03 (z0e 138 G 7) l)) λH =>
 zc (zj (z0o l 136 H)) λI =>
 (
 zc (zj (y7 x0 l)) λJ =>
 zc (zj (z03 (z0e 138 J 5) l)) λK =>
 zc (zj (z0o l 135 K)) λL =>
 (
 zc (zj (z03 (z0w 135 L x8) l)) λM =>
 zc (zj (z03 (z0e 141 M 0) l)) λO =>
 zc (zj (z0o l 43 O)) λP =>
 (
 z0 (z0u l .delete [136,43] [I,P]) λ_ R=>(
 z7 (z7Q Q x0 x3 x4 x8 x12 R))))))):=K_
theorem IX:z39 Q x0 x3 x4 x8 h=(
 zc (zj (y7 x0 h)) λb =>
 zc (zj (z03 (z0e 138 b 0) h)) λc =>
 zc (zj (z0o h 23 c)) λd =>
 (
 zc (zj (y7 x0 h)) λe =>
 zc (zj (z03 (z0e 138 e 3) h)) λf =>
 zc (zj (z0o h 3 f)) λg =>
 (
 zc (zj (z0o h 43 x3)) λi =>
 (
 ∃ j,z0q 58 [g,i] h (zO j h)/\(
 (
 z0q 57 [d,j] h (zS (λk l=>(
 zc (zj (z03 (zm k 0) l)) λm =>
 zc (zj (z03 (zm k 1) l)) λo =>
 ZK h l (tt Pg (λ_=>.xF) (.alloc 111)) λp q=>(
 z0 (z0t q 111 p m) λ_ r=>(
 z0 (z03 (z0s .neq 36 o (V.int .i64 0) true) r) λs t =>
 zP s (
 z0 (z03 (z0y 33 []) t) λu w =>
 z0 (z0t w 33 x4 u) λ_ y =>
 yq (zX Pg [(4,x4),(5,o)] y NQ) λv=>Q (.ret v) y) (
 z7 (zac Q x0 x3 x4 x8 p t)))))) λ_ _=>False))))))):=K_
theorem Ew:zbx Q x0 x3 x4 x9 h=(
 z0 (y7 x0 h) λb c =>
 z0 (z03 (z0e 138 b 5) c) λd e =>
 z0 (z0o e 135 d) λf g =>
 z0 (z03 (z0w 135 f x9) g) λi j =>
 z0 (z03 (z0e 141 i 2) j) λk l =>
 z0 (z0o l 4 k) λm o =>
 zP m (
 z0 (y7 x0 o) λp q =>
 z0 (z03 (z0e 138 p 5) q) λr s =>
 z0 (z0o s 135 r) λt u =>
 z0 (z03 (z0w 135 t x9) u) λw y =>
 z0q 56 [x0,w] y (zS (λz A =>
 z0 (z03 (z0s .neq 36 z (V.int .i64 0) true) A) λB C =>
 zP B (
 z0 (z03 (z0y 33 []) C) λD E =>
 z0 (z0t E 33 x4 D) λ_ F =>
 yq (zX Pg [(4,x4),(5,z)] F NQ) λv=>Q (.ret v) F) (
 z7 (z39 Q x0 x3 x4 x9 C))) λv h=>Q (.panic v) h)) (
 z7 (z39 Q x0 x3 x4 x9 o))):=K_
theorem XK:zc9 Q x0 x3 x4 h=(
 z0 (y7 x0 h) λb c =>
 z0 (z03 (z0e 138 b 5) c) λd e =>
 z0 (z0o e 135 d) λf g =>
 z0 (z0u g .len [135] [f]) λi j =>
 z0 (y7 x0 j) λk l =>
 z0 (z03 (z0e 138 k 6) l) λm o =>
 z0 (z0o o 3 m) λp q =>
 z0 (z03 (z0s .eql 3 i p false) q) λr s =>
 zP r (
 z0 (y7 x0 s) λt u =>
 z0 (z03 (z0e 138 t 2) u) λw y =>
 z0 (z0o y 134 w) λz A =>
 z0q 55 [z] A (zS (λB C =>
 z0 (z03 (zm B 0) C) λD E =>
 z0 (z03 (zm B 1) E) λF G =>
 z0 (z03 (qd .not F) G) λH I =>
 zP H (
 z0 (z03 (z0y 33 []) I) λJ K =>
 z0 (z0t K 33 x4 J) λ_ L =>
 yq (zX Pg [(4,x4),(5,(V.int .i64 6))] L NQ) λv=>Q (.ret v) L) (
 z7 (zbx Q x0 x3 x4 D I))) λv h=>Q (.panic v) h)) (
 z7 (z39 Q x0 x3 x4 i s))):=K_
theorem IV:zbR Q x0 x3 x4 h=(
 z0 (z0o h 43 x3) λb c =>
 z0q 52 [x0,b] c (zS (λd e =>
 z0 (z03 (zm d 0) e) λf g =>
 z0 (z03 (zm d 1) g) λi j =>
 z0 (z03 (z0s .neq 129 f (V.ptr none) true) j) λk l =>
 zP k (
 z0 (y7 x0 l) λm o =>
 z0 (z03 (z0e 138 m 2) o) λp q =>
 z0 (z0o q 134 p) λr s =>
 z0q 53 [r,i] s (zS (λt u =>
 z0 (y7 x0 u) λw y =>
 z0 (z03 (z0e 138 w 2) y) λz A =>
 z0 (z0o A 134 z) λB C =>
 z0q 54 [B,i] C (zS (λD E =>
 z0 (y7 f E) λF G =>
 z0 (z03 (z0e 141 F 1) G) λH I =>
 z0 (z0o I 33 H) λJ K =>
 z0 (z0t K 33 x4 J) λ_ L =>
 yq (zX Pg [(4,x4),(5,(V.int .i64 0))] L NQ) λv=>Q (.ret v) L) λv h=>Q (.panic v) h)) λv h=>Q (.panic v) h)) (
 z7 (zc9 Q x0 x3 x4 l))) λv h=>Q (.panic v) h)):=K_
theorem C15 (c :
 z0 (z0G h 43 a1) λb c =>
 z0 (z0D c 33) λd e =>
 z0 (z0o e 43 b) λf g =>
 z0q 51 [a0,f] g (zS (λi j =>
 z0 (z03 (qd .not i) j) λk l =>
 zP k (
 z0 (z03 (z0y 33 []) l) λm o =>
 z0 (z0t o 33 d m) λ_ p =>
 yq (zX Pg [(4,d),(5,(V.int .i64 1))] p NQ) λv=>Q (.ret v) p) (
 z7 (zbR Q a0 b d l))) λv h=>Q (.panic v) h)):z0q 15 [a0,a1] h Q :=
 mkC Tryz.func15 B15 N15 K15 NQ c
def B18:=bd Tryz.f18
def R18:List ResultVar:=[.tmp 4]
abbrev N18:=24
def K18:KT:=(sQ lF (sQ lF (jN (jN (.rm [[15,22]]) (.two (sQ lF lF [4]) lF) [23]) (sQ lF lF [4]) []) [0,5,6]) [0,3])
def W18 (p l:List Nat) (e:zJ):Prop:=xG Pg N18 B18 K18 p l (zn Pg R18 Q) e h
def z7a:Prop:=W18 Q h [1,1,1] [] []
def GZ:Prop:=W18 Q h [1,1,0,1] [] [(23,x23)]
def Gzo:Prop:=yu Pg N18 B18 K18 [1,1,0,0] 2 1 [] (zn Pg R18 Q) [(15,x15),(22,x22)] h
theorem Eg:z7a Q h=(
 Q (.ret (V.int .i64 0)) h):=K_
theorem HM:GZ Q x23 h=(
 zP x23 (
 Q (.ret (V.int .i64 1)) h) (
 z7 (z7a Q h))):=K_
theorem Mn:Gzo Q x15 x22 h=(
 z0 (yc x15 (V.bool true) x22 h) λb c =>
 z7 (GZ Q b c)):=K_
theorem C18 (c :
 z0 (z0G h 43 a1) λb c =>
 z0 (z0o c 43 b) λd e =>
 z0q 52 [a0,d] e (zS (λf g =>
 z0 (z03 (zm f 0) g) λi j =>
 z0 (z03 (zm f 1) j) λk l =>
 z0 (z03 (z0s .eql 129 i (V.ptr none) true) l) λm o =>
 vp m false (
 z0 (y7 a0 o) λp q =>
 z0 (z03 (z0e 138 p 2) q) λr s =>
 z0 (z0o s 134 r) λt u =>
 z0q 63 [t,k] u (zS (λw y =>
 z0 (z03 (qd .not w) y) λz A =>
 z7 (Gzo Q m z A)) λv h=>Q (.panic v) h)) (z7 (Gzo Q m yw o))) λv h=>Q (.panic v) h)):z0q 18 [a0,a1] h Q :=
 mkC Tryz.func18 B18 N18 K18 R18 c
theorem D18 (c :
 z0 (z0G h 43 a1) λb c =>
 z0 (z0o c 43 b) λd e =>
 z0q 52 [a0,d] e (zS (λf g =>
 z0 (z03 (zm f 0) g) λi j =>
 z0 (z03 (zm f 1) j) λk l =>
 z0 (z03 (z0s .eql 129 i (V.ptr none) true) l) λm o =>
 vp m false (
 z0 (y7 a0 o) λp q =>
 z0 (z03 (z0e 138 p 2) q) λr s =>
 z0 (z0o s 134 r) λt u =>
 z0q 63 [t,k] u (zS (λw y =>
 z0 (z03 (qd .not w) y) λz A =>
 z7 (Gzo Q m z A)) λv h=>Q (.panic v) h)) (z7 (Gzo Q m yw o))) λv h=>Q (.panic v) h)):ku Pg 18 [a0,a1] h Q :=
 ZP yL Tryz.func18 (show Tryz.f18.body=some B18 from K_) K18 (show vc Pg N18 B18 K18 (zn Pg R18 Q) (zC 0 [a0,a1]) h from z8 K_ c)
def B51:=bd Tryz.f51
def R51:List ResultVar:=[.tmp 4]
abbrev N51:=25
def K51:KT:=(sQ lF (jN (sQ lF (.two (sQ lF lF [4]) lF) [0,3,6]) (jN (sQ lF (.two (sQ lF lF [4]) lF) [0,3,8]) (sQ lF lF [4]) [0,3]) [0,3]) [0,3])
def W51 (p l:List Nat) (e:zJ):Prop:=xG Pg N51 B51 K51 p l (zn Pg R51 Q) e h
def zbw:Prop:=W51 Q h [1,1,1] [] [(0,x0),(3,x3)]
def z8g:Prop:=W51 Q h [1,1] [] [(0,x0),(3,x3)]
theorem Fv:zbw Q x0 x3 h=(
 zc (zj (z03 (z0e 43 x3 1) h)) λb =>
 zc (zj (z0o h 41 b)) λc =>
 zc (zj (z03 (z0F h 41 3 c) h)) λd =>
 zc (zj (y7 x0 h)) λe =>
 zc (zj (z03 (z0e 138 e 3) h)) λf =>
 zc (zj (z0o h 3 f)) λg =>
 zc (zj (z03 (z0s .lss 3 d g false) h)) λi =>
 Q (.ret i) h):=K_
theorem GF:z8g Q x0 x3 h=(
 z0 (z03 (z0e 43 x3 0) h) λb c =>
 z0 (z0o c 4 b) λd e =>
 zP d (
 zc (zj (z03 (z0e 43 x3 1) e)) λf =>
 zc (zj (z0o e 41 f)) λg =>
 zc (zj (z03 (z0F e 41 3 g) e)) λi =>
 zc (zj (y7 x0 e)) λj =>
 zc (zj (z03 (z0e 138 j 4) e)) λk =>
 zc (zj (z0o e 3 k)) λl =>
 zc (zj (z03 (z0s .lss 3 i l false) e)) λm =>
 Q (.ret m) e) (
 z7 (zbw Q x0 x3 e))):=K_
theorem C51 (c :
 z0 (z0G h 43 a1) λb c =>
 z0 (z03 (z0s .eql 38 a0 (V.ptr none) true) c) λd e =>
 zP d (
 Q (.ret (V.bool false)) e) (
 z7 (z8g Q a0 b e))):z0q 51 [a0,a1] h Q :=
 mkC Tryz.func51 B51 N51 K51 R51 c
def B52:=bd Tryz.f52
def R52:List ResultVar:=[.tmp 4,.tmp 5]
abbrev N52:=28
def K52:KT:=(sQ lF (jN (sQ lF (.two (sQ lF lF [4,5]) lF) [0,3,9]) (sQ lF (jN (sQ lF (.two (sQ lF lF [4,5]) lF) [0,6,20]) (sQ lF lF [4,5]) [0,6]) [0,6,7]) [0,3]) [0,3])
def W52 (p l:List Nat) (e:zJ):Prop:=xG Pg N52 B52 K52 p l (zn Pg R52 Q) e h
def z3H:Prop:=W52 Q h [1,1,1,1] [] [(0,x0),(6,x6)]
def z6X:Prop:=W52 Q h [1,1] [] [(0,x0),(3,x3)]
theorem Et:z3H Q x0 x6 h=(
 z0 (y7 x0 h) λb c =>
 z0 (z03 (z0e 138 b 5) c) λd e =>
 z0 (z0o e 135 d) λf g =>
 z0 (z03 (z0w 135 f x6) g) λi j =>
 Q (.ret (V.yX [i,x6])) j):=K_
theorem CG:z6X Q x0 x3 h=(
 zc (zj (y7 x0 h)) λb =>
 zc (zj (z03 (z0e 138 b 7) h)) λc =>
 zc (zj (z0o h 136 c)) λd =>
 zc (zj (z0o h 43 x3)) λe =>
 zc (zj (z03 (sB Pg h 136 d e true) h)) λf =>
 zc (zj (z03 (zm f 0) h)) λg =>
 zc (zj (z03 (zm f 1) h)) λi =>
 z0 (z03 (qd .not i) h) λj k =>
 zP j (
 Q (.ret (V.yX [(V.ptr none),(V.int .i64 0)])) k) (
 z7 (z3H Q x0 g k))):=K_
theorem C52 (c :
 z0 (z0G h 43 a1) λb c =>
 z0 (z03 (z0s .eql 38 a0 (V.ptr none) true) c) λd e =>
 zP d (
 Q (.ret (V.yX [(V.ptr none),(V.int .i64 0)])) e) (
 z7 (z6X Q a0 b e))):z0q 52 [a0,a1] h Q :=
 mkC Tryz.func52 B52 N52 K52 R52 c
def B56:=bd Tryz.f56
def R56:List ResultVar:=[.tmp 4]
abbrev N56:=66
def K56:KT:=(sQ lF (sQ lF (jN (sQ lF (.two (sQ lF (sQ lF (.two (sQ lF lF [4]) lF) [0,1,5,6,27]) [0,1,5,6]) lF) [0,1,5,20]) (jN (sQ (.NG [19] [] 0 19) (sQ lF (.two (sQ lF lF [4]) lF) [0,1,7,50]) [0,1,7]) (jN (sQ lF (sQ lF (.two (sQ lF lF [4]) lF) [1,8,58]) [1,8]) (sQ lF (sQ lF lF [4]) []) [1]) [0,1]) [0,1,5]) [0,1,5]) [0,1])
def W56 (p l:List Nat) (e:zJ):Prop:=xG Pg N56 B56 K56 p l (zn Pg R56 Q) e h
def zbD:Prop:=W56 Q h [1,1,1,1,1] [] [(1,x1)]
def z9h:Prop:=W56 Q h [1,1,1,1] [] [(0,x0),(1,x1)]
def z7S:Prop:=W56 Q h [1,1,1] [] [(0,x0),(1,x1),(5,x5)]
theorem Ba:zbD Q x1 h=(
 z0 (y7 x1 h) λb c =>
 z0 (z03 (z0e 141 b 2) c) λd e =>
 z0 (z0t e 4 d (V.bool false)) λ_ f =>
 z0 (y7 x1 f) λg i =>
 z0 (z03 (z0e 141 g 3) i) λj k =>
 z0 (z0t k 47 j (V.int .u64 0)) λ_ l =>
 Q (.ret (V.int .i64 0)) l):=K_
theorem D4:z9h Q x0 x1 h=(
 z0 (y7 x0 h) λb c =>
 z0 (z03 (z0e 138 b 0) c) λd e =>
 z0 (z0o e 23 d) λf g =>
 z0q 45 [f] g (zS (λi j =>
 z0 (z03 (z0s .neq 36 i (V.int .i64 0) true) j) λk l =>
 zP k (
 Q (.ret i) l) (
 z7 (zbD Q x1 l))) λv h=>Q (.panic v) h)):=K_
theorem FU:z7S Q x0 x1 x5 h=(
 zc (zj (y7 x0 h)) λb =>
 zc (zj (z03 (z0e 138 b 0) h)) λc =>
 zc (zj (z0o h 23 c)) λd =>
 (
 zc (zj (y7 x0 h)) λe =>
 zc (zj (z03 (z0e 138 e 3) h)) λf =>
 zc (zj (z0o h 3 f)) λg =>
 (
 zc (zj (y7 x1 h)) λi =>
 zc (zj (z03 (z0e 141 i 0) h)) λj =>
 zc (zj (z0o h 43 j)) λk =>
 (
 ∃ l,z0q 58 [g,k] h (zO l h)/\(
 (
 zc (zj (y7 x1 h)) λm =>
 zc (zj (z03 (z0e 141 m 1) h)) λo =>
 zc (zj (z0o h 33 o)) λp =>
 (
 ∃ q,z0q 43 [x5,p] h (zO q h)/\(
 (
 z0q 42 [d,l,q] h (zS (λr s=>(
 z0 (z03 (z0s .neq 36 r (V.int .i64 0) true) s) λt u =>
 zP t (
 Q (.ret r) u) (
 z7 (z9h Q x0 x1 u)))) λ_ _=>False)))))))))):=K_
theorem C56 (c :
 z0 (y7 a1 h) λb c =>
 z0 (z03 (z0e 141 b 1) c) λd e =>
 z0 (z0o e 33 d) λf g =>
 z0q 65 [f] g (zS (λi j =>
 z0 (y7 a0 j) λk l =>
 z0 (z03 (z0e 138 k 1) l) λm o =>
 z0 (z0o o 133 m) λp q =>
 tD Pg p "Durable" [] q (zS (λr s =>
 z0 (z03 (z0s .leq 47 r i false) s) λt u =>
 zP t (
 z0 (y7 a0 u) λw y =>
 z0 (z03 (z0e 138 w 1) y) λz A =>
 z0 (z0o A 133 z) λB C =>
 tD Pg B "Flush" [] C (zS (λD E =>
 z0 (z03 (z0s .neq 36 D (V.int .i64 0) true) E) λF G =>
 zP F (
 Q (.ret D) G) (
 z7 (z7S Q a0 a1 i G))) λv h=>Q (.panic v) h)) (
 z7 (z7S Q a0 a1 i u))) λv h=>Q (.panic v) h)) λv h=>Q (.panic v) h)):z0q 56 [a0,a1] h Q :=
 mkC Tryz.func56 B56 N56 K56 R56 c
def B58:=bd Tryz.f58
def R58:List ResultVar:=[.tmp 4]
abbrev N58:=17
def K58:KT:=(sQ lF (jN (sQ lF (.two (sQ lF lF [4]) lF) [0,3,6]) (sQ lF lF [4]) [3]) [0,3])
def z4h:Prop:=xG Pg N58 B58 K58 [1,1] [] (zn Pg R58 Q) [(3,x3)] h
theorem PW:z4h Q x3 h=(
 z0 (z03 (z0e 43 x3 1) h) λb c =>
 z0 (z0o c 41 b) λd e =>
 z0 (z03 (z0F e 41 3 d) e) λf g =>
 z0 (z03 (z0s .add 3 (V.int .i64 2) f true) g) λi j =>
 Q (.ret i) j):=K_
theorem C58 (c :
 z0 (z0G h 43 a1) λb c =>
 z0 (z03 (z0e 43 b 0) c) λd e =>
 z0 (z0o e 4 d) λf g =>
 zP f (
 z0 (z03 (z0s .add 3 (V.int .i64 2) a0 true) g) λi j =>
 z0 (z03 (z0e 43 b 1) j) λk l =>
 z0 (z0o l 41 k) λm o =>
 z0 (z03 (z0F o 41 3 m) o) λp q =>
 z0 (z03 (z0s .add 3 i p false) q) λr s =>
 Q (.ret r) s) (
 z7 (z4h Q b g))):z0q 58 [a0,a1] h Q :=
 mkC Tryz.func58 B58 N58 K58 R58 c
def B91:=bd Tryz.f91
def R91:List ResultVar:=[.tmp 4]
abbrev N91:=22
def K91:KT:=(sQ lF (sQ lF (jN (.rm [[15,20]]) lF [4]) [5]) [0,3])
def z3t:Prop:=xG Pg N91 B91 K91 [1,1,1] [] (zn Pg R91 Q) [(4,x4)] h
def z1E:Prop:=yu Pg N91 B91 K91 [1,1,0] 2 1 [] (zn Pg R91 Q) [(15,x15),(20,x20)] h
theorem RP:z3t Q x4 h=(
 Q (.ret x4) h):=K_
theorem CH:z1E Q x15 x20 h=(
 z0 (yc x15 (V.bool true) x20 h) λb c =>
 z7 (z3t Q b c)):=K_
theorem C91 (c :
 z0 (z0G h 43 a1) λb c =>
 z0 (z0o c 43 b) λd e =>
 z0q 52 [a0,d] e (zS (λf g =>
 z0 (z03 (zm f 0) g) λi j =>
 z0 (z03 (zm f 1) j) λk l =>
 z0 (z03 (z0s .eql 129 i (V.ptr none) true) l) λm o =>
 vp m false (
 z0 (y7 i o) λp q =>
 z0 (z03 (z0e 141 p 2) q) λr s =>
 z0 (z0o s 4 r) λt u =>
 z0 (z03 (qd .not t) u) λw y =>
 z7 (z1E Q m w y)) (z7 (z1E Q m yw o))) λv h=>Q (.panic v) h)):z0q 91 [a0,a1] h Q :=
 mkC Tryz.func91 B91 N91 K91 R91 c
def B92:=bd Tryz.f92
def R92:List ResultVar:=[.tmp 6]
abbrev N92:=52
def K92:KT:=(sQ lF (sQ lF (jN (jN (.rm [[4,5,7,17,24],[5,7,26,30]]) (.two (sQ lF lF [6]) lF) [5,7,31]) (jN (sQ lF (.two lF lF) [5,7,36]) (sQ lF (sQ lF lF [6]) []) [5,7]) [5,7]) [0,4,5,7,8]) [0,4,5])
def W92 (p l:List Nat) (e:zJ):Prop:=xG Pg N92 B92 K92 p l (zn Pg R92 Q) e h
def z7P:Prop:=W92 Q h [1,1,1,1] [] [(5,x5),(7,x7)]
def z6P:Prop:=W92 Q h [1,1,1] [] [(5,x5),(7,x7)]
def zb5:Prop:=W92 Q h [1,1,0,1] [] [(5,x5),(7,x7),(31,x31)]
def z1B:Prop:=yu Pg N92 B92 K92 [1,1,0,0] 4 2 [] (zn Pg R92 Q) [(5,x5),(7,x7),(26,x26),(30,x30)] h
def z1l:Prop:=yu Pg N92 B92 K92 [1,1,0,0] 2 1 [] (zn Pg R92 Q) [(4,x4),(5,x5),(7,x7),(17,x17),(24,x24)] h
theorem Il:z7P Q x5 x7 h=(
 z0 (z0o h 33 x5) λb c =>
 z0 (y7 x7 c) λd e =>
 z0 (z03 (z0e 141 d 1) e) λf g =>
 z0 (z0t g 33 f b) λ_ i =>
 z0 (y7 x7 i) λj k =>
 z0 (z03 (z0e 141 j 4) k) λl m =>
 z0 (z0t m 4 l (V.bool false)) λ_ o =>
 Q (.ret (V.int .i64 0)) o):=K_
theorem FE:z6P Q x5 x7 h=(
 z0 (y7 x7 h) λb c =>
 z0 (z03 (z0e 141 b 2) c) λd e =>
 z0 (z0o e 4 d) λf g =>
 z0 (z03 (qd .not f) g) λi j =>
 zP i (
 z0 (z0o j 33 x5) λk l =>
 z0q 65 [k] l (zS (λm o =>
 z0 (y7 x7 o) λp q =>
 z0 (z03 (z0e 141 p 2) q) λr s =>
 z0 (z0t s 4 r (V.bool true)) λ_ t =>
 z0 (y7 x7 t) λu w =>
 z0 (z03 (z0e 141 u 3) w) λy z =>
 z0 (z0t z 47 y m) λ_ A =>
 z7 (z7P Q x5 x7 A)) λv h=>Q (.panic v) h)) (
 z7 (z7P Q x5 x7 j))):=K_
theorem Dz:zb5 Q x5 x7 x31 h=(
 zP x31 (
 Q (.ret (V.int .i64 1)) h) (
 z7 (z6P Q x5 x7 h))):=K_
theorem F8:z1B Q x5 x7 x26 x30 h=(
 z0 (yc x26 (V.bool true) x30 h) λb c =>
 z7 (zb5 Q x5 x7 b c)):=K_
theorem DH:z1l Q x4 x5 x7 x17 x24 h=(
 z0 (yc x17 (V.bool true) x24 h) λb c =>
 vp b false (
 z0 (z0o c 43 x4) λd e =>
 z0 (z0o e 33 x5) λf g =>
 z0q 60 [d,f] g (zS (λi j =>
 z0 (z03 (qd .not i) j) λk l =>
 z7 (z1B Q x5 x7 b k l)) λv h=>Q (.panic v) h)) (z7 (z1B Q x5 x7 b yw c))):=K_
theorem C92 (c :
 z0 (z0G h 43 a1) λb c =>
 z0 (z0G c 33 a2) λd e =>
 z0 (z0o e 43 b) λf g =>
 z0q 52 [a0,f] g (zS (λi j =>
 z0 (z03 (zm i 0) j) λk l =>
 z0 (z03 (zm i 1) l) λm o =>
 z0 (z03 (z0s .eql 129 k (V.ptr none) true) o) λp q =>
 vp p false (
 z0 (y7 a0 q) λr s =>
 z0 (z03 (z0e 138 r 2) s) λt u =>
 z0 (z0o u 134 t) λw y =>
 z0q 62 [w,m] y (zS (λz A =>
 z0 (z03 (z0s .eql 3 z (V.int .i64 0) true) A) λB C =>
 z7 (z1l Q b d k p B C)) λv h=>Q (.panic v) h)) (z7 (z1l Q b d k p yw q))) λv h=>Q (.panic v) h)):z0q 92 [a0,a1,a2] h Q :=
 mkC Tryz.func92 B92 N92 K92 R92 c
def B99:=bd Tryz.f99
def R99:List ResultVar:=[.tmp 10]
abbrev N99:=61
def K99:KT:=(sQ lF (jN (jN (.rm [[0,1,2,3,4,13,15],[0,1,2,3,4,17,19],[0,1,2,3,4,21,23],[0,1,2,3,4,25,27],[0,1,2,3,4,29,31],[0,1,2,3,4,33,35],[0,1,2,3,4,37,39],[0,1,2,3,4,41,48]]) (.two (sQ lF lF [10]) lF) [0,1,2,3,4,49]) (sQ lF lF [10]) [0,1,2,3,4]) [0,1,2,3,4])
def X99 (p:List Nat) (i g:Nat) (l:List Nat) (e:zJ):Prop:=yu Pg N99 B99 K99 p i g l (zn Pg R99 Q) e h
def W99 (p l:List Nat) (e:zJ):Prop:=xG Pg N99 B99 K99 p l (zn Pg R99 Q) e h
def zed:Prop:=W99 Q h [1,1] [] [(0,x0),(1,x1),(2,x2),(3,x3),(4,x4)]
def zet:Prop:=W99 Q h [1,0,1] [] [(0,x0),(1,x1),(2,x2),(3,x3),(4,x4),(49,x49)]
def z1y:Prop:=X99 Q h [1,0,0] 16 8 [] [(0,x0),(1,x1),(2,x2),(3,x3),(4,x4),(41,x41),(48,x48)]
def z3z:Prop:=X99 Q h [1,0,0] 14 7 [] [(0,x0),(1,x1),(2,x2),(3,x3),(4,x4),(37,x37),(39,x39)]
def z2l:Prop:=X99 Q h [1,0,0] 12 6 [] [(0,x0),(1,x1),(2,x2),(3,x3),(4,x4),(33,x33),(35,x35)]
def z3m:Prop:=X99 Q h [1,0,0] 10 5 [] [(0,x0),(1,x1),(2,x2),(3,x3),(4,x4),(29,x29),(31,x31)]
def z2r:Prop:=X99 Q h [1,0,0] 8 4 [] [(0,x0),(1,x1),(2,x2),(3,x3),(4,x4),(25,x25),(27,x27)]
def z3k:Prop:=X99 Q h [1,0,0] 6 3 [] [(0,x0),(1,x1),(2,x2),(3,x3),(4,x4),(21,x21),(23,x23)]
def z31:Prop:=X99 Q h [1,0,0] 4 2 [] [(0,x0),(1,x1),(2,x2),(3,x3),(4,x4),(17,x17),(19,x19)]
def z38:Prop:=X99 Q h [1,0,0] 2 1 [] [(0,x0),(1,x1),(2,x2),(3,x3),(4,x4),(13,x13),(15,x15)]
theorem z4D:zed Q x0 x1 x2 x3 x4 h=(
 z0 (z03 (bQ Pg 83 x1) h) λb c =>
 z0q 139 [x2] c (zS (λd e =>
 z0 (qy Pg e 136) λf g =>
 z0 (z03 (z0y 138 [(0,x0),(1,b),(2,d),(3,x3),(4,x4),(6,x2),(7,f)]) g) λi j =>
 z0 (z0G j 138 i) λk l =>
 Q (.ret k) l) λv h=>Q (.panic v) h)):=K_
theorem z4s:zet Q x0 x1 x2 x3 x4 x49 h=(
 zP x49 (
 Q (.ret (V.ptr none)) h) (
 z7 (zed Q x0 x1 x2 x3 x4 h))):=K_
theorem CD:z1y Q x0 x1 x2 x3 x4 x41 x48 h=(
 z0 (yc x41 (V.bool true) x48 h) λb c =>
 z7 (zet Q x0 x1 x2 x3 x4 b c)):=K_
theorem Dm:z3z Q x0 x1 x2 x3 x4 x37 x39 h=(
 z0 (yc x37 (V.bool true) x39 h) λb c =>
 vp b false (
 z0 (z03 (z0s .add 3 (V.int .i64 2) x3 true) c) λd e =>
 z0 (z03 (z0s .add 3 d x4 false) e) λf g =>
 z0q 138 [x0] g (zS (λi j =>
 z0 (z03 (z0s .gtr 3 f i false) j) λk l =>
 z7 (z1y Q x0 x1 x2 x3 x4 b k l)) λv h=>Q (.panic v) h)) (z7 (z1y Q x0 x1 x2 x3 x4 b yw c))):=K_
theorem Hj:z2l Q x0 x1 x2 x3 x4 x33 x35 h=(
 z0 (yc x33 (V.bool true) x35 h) λb c =>
 vp b false (
 z0 (z03 (z0s .gtr 3 x4 (V.int .i64 32) true) c) λd e =>
 z7 (z3z Q x0 x1 x2 x3 x4 b d e)) (z7 (z3z Q x0 x1 x2 x3 x4 b yw c))):=K_
theorem Hz:z3m Q x0 x1 x2 x3 x4 x29 x31 h=(
 z0 (yc x29 (V.bool true) x31 h) λb c =>
 vp b false (
 z0 (z03 (z0s .lss 3 x4 (V.int .i64 1) true) c) λd e =>
 z7 (z2l Q x0 x1 x2 x3 x4 b d e)) (z7 (z2l Q x0 x1 x2 x3 x4 b yw c))):=K_
theorem Q2:z2r Q x0 x1 x2 x3 x4 x25 x27 h=(
 z0 (yc x25 (V.bool true) x27 h) λb c =>
 vp b false (
 z0 (z03 (z0s .gtr 3 x3 (V.int .i64 16) true) c) λd e =>
 z7 (z3m Q x0 x1 x2 x3 x4 b d e)) (z7 (z3m Q x0 x1 x2 x3 x4 b yw c))):=K_
theorem Br:z3k Q x0 x1 x2 x3 x4 x21 x23 h=(
 z0 (yc x21 (V.bool true) x23 h) λb c =>
 vp b false (
 z0 (z03 (z0s .lss 3 x3 (V.int .i64 1) true) c) λd e =>
 z7 (z2r Q x0 x1 x2 x3 x4 b d e)) (z7 (z2r Q x0 x1 x2 x3 x4 b yw c))):=K_
theorem Fq:z31 Q x0 x1 x2 x3 x4 x17 x19 h=(
 z0 (yc x17 (V.bool true) x19 h) λb c =>
 vp b false (
 z0 (z03 (z0s .gtr 3 x2 (V.int .i64 32) true) c) λd e =>
 z7 (z3k Q x0 x1 x2 x3 x4 b d e)) (z7 (z3k Q x0 x1 x2 x3 x4 b yw c))):=K_
theorem Pb:z38 Q x0 x1 x2 x3 x4 x13 x15 h=(
 z0 (yc x13 (V.bool true) x15 h) λb c =>
 vp b false (
 z0 (z03 (z0s .lss 3 x2 (V.int .i64 4) true) c) λd e =>
 z7 (z31 Q x0 x1 x2 x3 x4 b d e)) (z7 (z31 Q x0 x1 x2 x3 x4 b yw c))):=K_
theorem C99 (c :
 z0 (z03 (z0s .eql 23 a0 (V.ptr none) true) h) λb c =>
 vp b false (
 z0 (z03 (z0s .eql 83 a1 (V.ptr none) true) c) λd e =>
 z7 (z38 Q a0 a1 a2 a3 a4 b d e)) (z7 (z38 Q a0 a1 a2 a3 a4 b yw c))):z0q 99 [a0,a1,a2,a3,a4] h Q :=
 mkC Tryz.func99 B99 N99 K99 R99 c
def B136:=bd Tryz.f136
def R136:List ResultVar:=[]
abbrev N136:=23
def K136:KT:=(sQ lF (sQ lF (sQ lF (.two lF lF) [0,2,7,15]) [0,2,6,7]) [0,2,4])
theorem zbv (c :
 z0 (z0G h 43 a1) λb c =>
 z0 (z0o c 43 b) λd e =>
 z0q 52 [a0,d] e (zS (λf g =>
 z0 (z03 (zm f 0) g) λi j =>
 z0 (z03 (zm f 1) j) λk l =>
 z0 (z03 (z0s .neq 129 i (V.ptr none) true) l) λm o =>
 zP m (
 z0 (y7 a0 o) λp q =>
 z0 (z03 (z0e 138 p 2) q) λr s =>
 z0 (z0o s 134 r) λt u =>
 z0q 156 [t,k,a2] u (zS (λw y =>
 Q (.ret (V.yX [])) y) λv h=>Q (.panic v) h)) (
 Q (.ret (V.yX [])) o)) λv h=>Q (.panic v) h)):z0q 136 [a0,a1,a2] h Q :=
 mkC Tryz.func136 B136 N136 K136 R136 c
end
end
end Go.Proofs.YtdbgifdfdhhjcaaGreat.Sh
namespace Go.Ab
section
open Go Go.RowKit
variable {P:Program}
def gI (P:Program) (t xt e:TypeId):Bool :=
 (match ul P t with
 | some (.slice e')=>e' == e
 | _=>false)&&ji P xt&&(ul P e).isSome&&decide (1<=P.bytesOf e)&&(xk P e).isSome
theorem fS {t xt e:TypeId} (h:gI P t xt e=true):ul P t=some (.slice e)/\(ji P xt&&(ul P e).isSome)=true/\1<=P.bytesOf e/\(xk P e).isSome=true:=by
 simp only [gI,Bool.and_eq_true,decide_eq_true_eq] at h;obtain ⟨⟨⟨⟨h1,h2⟩,h3⟩,h4⟩,h5⟩:=h;split at h1
 ·rename_i e' hu;simp only [beq_iff_eq] at h1;subst h1;exact ⟨hu,by rw [h2,h3];rfl,h4,h5⟩
 ·cases h1
theorem appN {h:AH} {t xt e:TypeId} {x:V} {ws:List V} {n:Nat} (hc:gI P t xt e=true) (he:xY P h e x=some ws) (hw:ws≠[]) (hl:ws.length*P.bytesOf e<=140737488355328) :
 zr P h .append [t,xt] [.y8 none n,x]=some (.y8 (some (⟨h.next,.row e,[]⟩,0)) ws.length,h.make (.cells true (.row e) (.agg ws))):=by
 obtain ⟨h1,h2,h3,h4⟩:=fS hc;simp only [zr,h1];rw [if_pos h2];unfold oa;rw [he];cases ws with
 | nil=>exact absurd rfl hw
 | cons w ws =>
  simp only [kC,List.length_nil,Nat.zero_add];rw [if_pos ⟨h3,hl,h4⟩];rfl
theorem appR {h:AH} {t xt e:TypeId} {x:V} {ws l:List V} {a i n:Nat} (hc:gI P t xt e=true) (he:xY P h e x=some ws) (hw:ws≠[]) (hm:h.m a=some (.cells true (.row e) (.agg l))) (hn:i+n<=l.length)
 (hl:(n+ws.length)*P.bytesOf e<=140737488355328) :
 zr P h .append [t,xt] [.y8 (some (⟨a,.row e,[]⟩,i)) n,x]=some (.y8 (some (⟨h.next,.row e,[]⟩,0)) (n+ws.length),(h.kill a).make (.cells true (.row e) (.agg ((l.drop i).take n++ws)))):=by
 obtain ⟨h1,h2,h3,h4⟩:=fS hc;simp only [zr,h1];rw [if_pos h2];unfold oa;rw [he];cases ws with
 | nil=>exact absurd rfl hw
 | cons w ws =>
  have hlen:((l.drop i).take n).length=n:=by simp;omega
  simp only [kC,hm,true_and];rw [if_pos hn];simp only [hlen];rw [if_pos ⟨h3,hl,h4⟩];rfl
def Mp (P:Program) (t e:TypeId) (len:Nat):Bool :=
 (match ul P t with
 | some (.slice e')=>e' == e
 | _=>false)&&decide (P.cellsOf e≠0/\len*P.cellsOf e<=16777216)
theorem z75 {h:AH} {t e:TypeId} {len:Nat} {ps:List (Nat × V)} {l:List V} {z:V} (hc:Mp P t e len=true) (hz:xk P e=some z) (hp:xK P (λ_=>some e) (List.replicate len z) ps=some l) :
 yp P h t len ps=some (.y8 (some (⟨h.next,.row e,[]⟩,0)) len,h.make (.cells true (.row e) (.agg l))):=by
 simp only [Mp,Bool.and_eq_true,decide_eq_true_eq] at hc;obtain ⟨h1,h2⟩:=hc;split at h1
 ·rename_i e' hu;simp only [beq_iff_eq] at h1;subst h1;unfold yp;rw [hu];simp only [hz];rw [if_pos h2,hp]
 ·cases h1
theorem SV (h:AH) (k n:Nat):(h.kill k).m n=if n=k then none else h.m n:=rfl
theorem lR (h:AH) (k:Nat):(h.kill k).next=h.next:=rfl
end
section
open Go Go.RowKit
variable {P:Program}
structure lD (h h':AH) (n:Nat) (o:AO):Prop where
 next:h'.next=h.next
 at_:h'.m n=some o
 other:∀ k,k≠n->h'.m k=h.m k
structure Td (h h':AH) (o:AO):Prop where
 next:h'.next=h.next+1
 at_:h'.m h.next=some o
 other:∀ k,k<h.next->h'.m k=h.m k
 Zu:∀ k,h.next<k->h'.m k=h.m k
structure Ag (h h':AH) (n:Nat) (o:AO):Prop where
 next:h'.next=h.next+1
 at_:h'.m h.next=some o
 gone:h'.m n=none
 other:∀ k,k<h.next->k≠n->h'.m k=h.m k
 Zu:∀ k,h.next<k->h'.m k=none\/h'.m k=h.m k
theorem ot (h:AH) (n:Nat) (o:AO):lD h (h.put n o) n o:=⟨rfl,by rw [Au,if_pos rfl],λk hk=>by rw [Au,if_neg hk]⟩
theorem vJ (h:AH) (o:AO):Td h (h.make o) o:=⟨rfl,by rw [qG,if_pos rfl],λk hk=>by rw [qG,if_neg O_],λk hk=>by rw [qG,if_neg O_]⟩
theorem M7 (h:AH) (n:Nat) (o:AO) (hn:n<h.next):Ag h ((h.kill n).make o) n o :=
 ⟨rfl,by rw [qG,if_pos (by rw [lR])],by rw [qG,if_neg (by rw [lR];omega),SV,if_pos rfl],λk hk wO=>by rw [qG,if_neg (by rw [lR];omega),SV,if_neg wO],λk hk=>by
  rw [qG,if_neg (by rw [lR];omega),SV];split
  ·exact .inl rfl
  ·exact .inr rfl⟩
theorem yl {h:AH} {t:TypeId} {v:V} (hs:zf P v t=true):∃ h',xR P h t v=some (.ptr (some ⟨h.next,.one t,[]⟩),h')/\Td h h' (.cells true (.one t) v) :=
 ⟨_,pH hs,vJ _ _⟩
theorem yA {h:AH} {t:TypeId} {z:V} (hz:xk P t=some z) (hs:zf P z t=true):∃ h',zV P h t=some (.ptr (some ⟨h.next,.one t,[]⟩),h')/\Td h h' (.cells true (.one t) z) :=
 ⟨_,jd hz hs,vJ _ _⟩
theorem zM {h:AH} {n:Nat} {ty:nC} {p:List Nat} {v v' w x:V} {t:TypeId} (hm:h.m n=some (.cells true ty v)) (hc:my P ty p t=true) (hg:yF v p=some w) (hs:zf P x t=true) (hv:tX v p x=some v') :
 ∃ h',zh P h t (.ptr (some ⟨n,ty,p⟩)) x=some (yw,h')/\lD h h' n (.cells true ty v'):=⟨_,ru hm hc hg hs hv,ot _ _ _⟩
theorem Ax {h:AH} {t e:TypeId} {len:Nat} {ps:List (Nat × V)} {l:List V} {z:V} (hc:Mp P t e len=true) (hz:xk P e=some z) (hp:xK P (λ_=>some e) (List.replicate len z) ps=some l) :
 ∃ h',yp P h t len ps=some (.y8 (some (⟨h.next,.row e,[]⟩,0)) len,h')/\Td h h' (.cells true (.row e) (.agg l)):=⟨_,z75 hc hz hp,vJ _ _⟩
theorem Wi {h:AH} {t xt e:TypeId} {x:V} {ws:List V} {n:Nat} (hc:gI P t xt e=true) (he:xY P h e x=some ws) (hw:ws≠[]) (hl:ws.length*P.bytesOf e<=140737488355328) :
 ∃ h',zr P h .append [t,xt] [.y8 none n,x]=some (.y8 (some (⟨h.next,.row e,[]⟩,0)) ws.length,h')/\Td h h' (.cells true (.row e) (.agg ws)):=⟨_,appN hc he hw hl,vJ _ _⟩
theorem To {h:AH} {t xt e:TypeId} {x:V} {ws l:List V} {a i n:Nat} (hc:gI P t xt e=true) (ha:a<h.next) (hm:h.m a=some (.cells true (.row e) (.agg l))) (hn:i+n<=l.length) (he:xY P h e x=some ws) (hw:ws≠[])
 (hl:(n+ws.length)*P.bytesOf e<=140737488355328) :
 ∃ h',zr P h .append [t,xt] [.y8 (some (⟨a,.row e,[]⟩,i)) n,x]=some (.y8 (some (⟨h.next,.row e,[]⟩,0)) (n+ws.length),h')/\Ag h h' a (.cells true (.row e) (.agg ((l.drop i).take n++ws))):=⟨_,appR hc he hw hm hn hl,M7 _ _ _ ha⟩
theorem z3X (l:List UInt8):tM (zd l)=some l:=by
 induction l with
 | nil=>rfl
 | cons b l ih =>
  have e:zd (b :: l)=.int .u8 b.toNat :: zd l:=rfl;rw [e];simp only [tM,ih];simp
theorem z4c {t d e:TypeId} {h:AH} {x:V} {l:List UInt8} (ht:bsT P t d e=true) (he:xY P h e x=some (zd l)) (hx:(∃ n,x=.y8 none n)\/∃ a n,x=.y8 (some a) n):y9 P h t d x=some (.str l):=by
 unfold bsT at ht;simp only [Bool.and_eq_true] at ht;obtain ⟨⟨h1,h2⟩,h3⟩:=ht;have hu:ul P t=some (.slice e):=by
  split at h1
  ·rename_i e' hu;simp only [beq_iff_eq] at h1;subst h1;exact hu
  ·cases h1
 have hd:ul P d=some .string:=by
  split at h2
  ·assumption
  ·cases h2
 have J6:ul P e=some (.int .u8):=by
  split at h3
  ·assumption
  ·cases h3
 rcases hx with ⟨n,rfl⟩ | ⟨a,n,rfl⟩ <;> simp [y9,ph,hu,hd,J6,he,z3X]
section
variable {t:TypeId} {k k':IntKind} {a b:Int} {c:Bool}
theorem vu (h:k.wrap (a+b)=a+b):zi P .add t (.int k a) (.int k b) c=some (.int k (a+b)):=by rw [d6,h]
theorem j8 (h:k.wrap (a-b)=a-b):zi P .sub t (.int k a) (.int k b) c=some (.int k (a-b)):=by rw [iF,h]
theorem ij (h:k.wrap (a*b)=a*b):zi P .mul t (.int k a) (.int k b) c=some (.int k (a*b)):=by rw [Z3,h]
theorem zcv (hb:0<b) (ha:0<=a) (h:k.wrap (a/b)=a/b):zi P .quo t (.int k a) (.int k b) c=some (.int k (a/b)):=by rw [Qz O_,Int.tdiv_eq_ediv_of_nonneg ha,h]
end
theorem AA {x:Int} (h1:0<=x) (h2:x<256):IntKind.u8.wrap x=x:=Int.emod_eq_of_lt h1 h2
theorem jq {x:Int} (h1:0<=x) (h2:x<65536):IntKind.u16.wrap x=x:=Int.emod_eq_of_lt h1 h2
theorem XN {x:Int} (h1:0<=x) (h2:x<4294967296):IntKind.u32.wrap x=x:=Int.emod_eq_of_lt h1 h2
theorem rL {x:Int} (h1:0<=x) (h2:x<18446744073709551616):IntKind.u64.wrap x=x:=Int.emod_eq_of_lt h1 h2
theorem t8 {h:AH} {s d:TypeId} {k0 k:IntKind} {n:Int} (hc:gV P s d k=true) (hw:k.wrap n=n):y9 P h s d (.int k0 n)=some (.int k n):=by rw [xV k hc,hw]
theorem wa {h:AH} {t:TypeId} {a:Option (PA × Nat)} {n:Nat} (hc:(match ul P t with | some (.slice _)=>true | _=>false)=true):zr P h .len [t] [.y8 a n]=some (.int .i64 n,h):=by
 split at hc
 ·rename_i e hu;simp only [zr,hu,Kw,bK]
 ·cases hc
theorem ixS {t:TypeId} {k:IntKind} {s:List UInt8} {i:Int} {b:UInt8} (hc:(match ul P t with | some .string=>true | _=>false)=true) (hi:0<=i) (hb:s[i.toNat]?=some b):vN P t (.str s) (.int k i)=some (.int .u8 b.toNat):=by
 split at hc
 ·rename_i hu;simp only [vN,hu,hi,if_true,hb]
 ·cases hc
theorem Z8 {h:AH} {t:TypeId} {s:List UInt8} {lo hi:Option V} {l k:Nat} (hc:(match ul P t with | some .string=>true | _=>false)=true) (hl:gJ lo 0=some l) (hk:gJ hi s.length=some k) (h1:l<=k) (h2:k<=s.length) :
 yC P h t (.str s) lo hi=some (.str ((s.drop l).take (k-l))):=by
 split at hc
 ·rename_i hu;simp only [yC,hu,hl,hk];rw [if_pos ⟨h1,h2⟩]
 ·cases hc
theorem tU {k:IntKind} {i:Int} {d:Nat} (h:0<=i):gJ (some (.int k i)) d=some i.toNat:=by simp only [gJ,if_pos h]
def z8B (P:Program) (t:TypeId) (ty:nC) (p:List Nat) (n e:Nat):Bool :=
 (match ul P t with | some (.array n' e')=>n' == n&&e' == e | _=>false)&&(match Go.Ab.rowAt P ty p with | some (_,e')=>e' == e | none=>false)&&(ul P e).isSome
theorem pF {t:TypeId} {m:Nat} {ty:nC} {p:List Nat} {k:IntKind} {i:Int} (n e:Nat) (hc:z8B P t ty p n e=true) (h0:0<=i) (h1:i<(n:Int)) :
 zy P t (.ptr (some ⟨m,ty,p⟩)) (.int k i)=some (.ptr (some ⟨m,ty,p++[i.toNat]⟩)):=by
 simp only [z8B,Bool.and_eq_true] at hc;obtain ⟨⟨h2,h3⟩,h4⟩:=hc;split at h2
 ·rename_i n' e' hu;simp only [Bool.and_eq_true,beq_iff_eq] at h2;obtain ⟨rfl,rfl⟩:=h2;split at h3
  ·rename_i o e2 hr;simp only [beq_iff_eq] at h3;subst h3;simp only [zy,hu,hr];rw [if_pos (by simp [h4,h0,h1])]
  ·cases h3
 ·cases h2
def S8 (P:Program) (t:TypeId) (e:Nat):Bool:=(match ul P t with | some (.slice e')=>e' == e | _=>false)&&(ul P e).isSome
theorem xW {t:TypeId} {m s len:Nat} {k:IntKind} {i:Int} (e:Nat) (hc:S8 P t e=true) (h0:0<=i) (h1:i<(len:Int)) :
 zy P t (.y8 (some (⟨m,.row e,[]⟩,s)) len) (.int k i)=some (.ptr (some ⟨m,.row e,[s+i.toNat]⟩)):=by
 simp only [S8,Bool.and_eq_true] at hc;obtain ⟨h2,h4⟩:=hc;split at h2
 ·rename_i e' hu;simp only [beq_iff_eq] at h2;subst h2;have hr:Go.Ab.rowAt P (.row e') []=some (0,e'):=rfl;simp only [zy,hu,hr];rw [if_pos (by simp [h4,h0,h1])];rfl
 ·cases h2
theorem v7 {l:List V} {i:Nat} {w:V} (h:l[i]?=some w):yF (.agg l) [i]=some w:=by simp only [yF,h]
theorem yf {f:FuncId} {args:List V} {h:AH} {v:V} {K X:V->AH->Prop} (c:za P f args h (zO v h)) (k:K v h):za P f args h (zS K X):=vL c k
theorem zq {r:Option (V × AH)} {v:V} {K:V->AH->Prop} {R:AH->Prop} (e:∃ h',r=some (v,h')/\R h') (k:∀ h',R h'->K v h'):z0 r K:=by
 obtain ⟨h',rfl,hr⟩:=e;exact k h' hr
theorem mV {h:AH} {t e:TypeId} {a z:V} (hc:Mp P t e 1=true) (hz:xk P e=some z) (h1:zf P a e=true) :
 ∃ h',yp P h t 1 [(0,a)]=some (.y8 (some (⟨h.next,.row e,[]⟩,0)) 1,h')/\Td h h' (.cells true (.row e) (.agg [a])) :=
 Ax hc hz (by simp [xK,List.replicate,h1])
theorem K3 {h:AH} {t e:TypeId} {a b z:V} (hc:Mp P t e 2=true) (hz:xk P e=some z) (h1:zf P a e=true) (h2:zf P b e=true) :
 ∃ h',yp P h t 2 [(0,a),(1,b)]=some (.y8 (some (⟨h.next,.row e,[]⟩,0)) 2,h')/\Td h h' (.cells true (.row e) (.agg [a,b])) :=
 Ax hc hz (by simp [xK,List.replicate,h1,h2])
def dK (e:TypeId) (h:AH) (x:V) (l:List UInt8):Prop :=
 (x=.y8 none 0/\l=[])\/∃ n,n<h.next/\x=.y8 (some (⟨n,.row e,[]⟩,0)) l.length/\h.m n=some (.cells true (.row e) (.agg (zd l)))
theorem yV (l:List UInt8):(zd l).length=l.length:=by simp [zd]
theorem SI (a b:List UInt8):zd (a++b)=zd a++zd b:=by simp [zd]
theorem dK.elems {e:TypeId} {h:AH} {x:V} {l:List UInt8} (b:dK e h x l):xY P h e x=some (zd l):=by
 rcases b with ⟨rfl,rfl⟩ | ⟨n,h1,rfl,h3⟩
 ·rfl
 ·rw [<- yV l];exact wV h3
theorem dK.shape {e:TypeId} {h:AH} {x:V} {l:List UInt8} (b:dK e h x l):(∃ n,x=.y8 none n)\/∃ a n,x=.y8 (some a) n:=by
 rcases b with ⟨rfl,rfl⟩ | ⟨n,h1,rfl,h3⟩
 ·exact .inl ⟨_,rfl⟩
 ·exact .inr ⟨_,_,rfl⟩
theorem dK.zA {e:TypeId} {h h':AH} {x:V} {l:List UInt8} (b:dK e h x l) (hn:h.next<=h'.next) (hk:∀ k,k<h.next->h'.m k=h.m k):dK e h' x l:=by
 rcases b with ⟨rfl,rfl⟩ | ⟨n,h1,rfl,h3⟩
 ·exact .inl ⟨rfl,rfl⟩
 ·exact .inr ⟨n,O_,rfl,(hk n h1).trans h3⟩
theorem dK.app {t xt e:TypeId} {h:AH} {x y:V} {l w:List UInt8} (b:dK e h x l) (hc:gI P t xt e=true) (hb:P.bytesOf e=1) (hy:xY P h e y=some (zd w)) (hw:w≠[]) (hl:l.length+w.length<=140737488355328) :
 ∃ v h',zr P h .append [t,xt] [x,y]=some (v,h')/\dK e h' v (l++w)/\h.next<=h'.next/\∀ k,k<h.next->(∀ len,x≠.y8 (some (⟨k,.row e,[]⟩,0)) len)->h'.m k=h.m k:=by
 have hw':zd w≠[]:=by cases w <;> simp_all [zd]
 rcases b with ⟨rfl,rfl⟩ | ⟨n,h1,rfl,h3⟩
 ·obtain ⟨h',e1,u⟩:=Wi (n:=0) hc hy hw' (by rw [hb,yV];simp at hl;omega);refine ⟨_,h',e1,.inr ⟨h.next,by rw [u.next];omega,by rw [yV];rfl,by rw [u.at_];rfl⟩,by rw [u.next];omega,λk hk _=>u.other k hk⟩
 ·obtain ⟨h',e1,u⟩:=To (i:=0) (n:=l.length) hc h1 h3 (by rw [yV];omega) hy hw' (by rw [hb,yV];omega);refine ⟨_,h',e1,.inr ⟨h.next,by rw [u.next];omega,by rw [yV,List.length_append],?_⟩,by rw [u.next];omega,λk hk wO=>u.other k hk (λe=>by subst e;exact wO _ rfl)⟩;rw [u.at_,SI,List.drop_zero,List.take_of_length_le (by rw [yV];omega)]
theorem dK.str {t d e:TypeId} {h:AH} {x:V} {l:List UInt8} (b:dK e h x l) (ht:bsT P t d e=true):y9 P h t d x=some (.str l):=z4c ht b.elems b.shape
def z4d (P:Program) (t:TypeId) (ty:nC) (p:List Nat) (n e:Nat):Bool :=
 (match ul P t with | some (.array n' e')=>n' == n&&e' == e | _=>false)&&(match tN P ty p with | some (_,u)=>Ur P u n e | none=>false)&&(ul P e).isSome
theorem SN {h:AH} {m:Nat} {ty:nC} {p:List Nat} {own:Bool} {v:V} {l:List V} {t:TypeId} {lo hi:Option V} {a b:Nat} (n e:Nat) (hm:h.m m=some (.cells own ty v)) (hc:z4d P t ty p n e=true) (hg:yF v p=some (.agg l))
 (hl:gJ lo 0=some a) (hk:gJ hi n=some b) (h1:a<=b) (h2:b<=n):yC P h t (.ptr (some ⟨m,ty,p⟩)) lo hi=some (.y8 (some (⟨m,ty,p⟩,a)) (b-a)):=by
 simp only [z4d,Bool.and_eq_true] at hc;obtain ⟨⟨g1,g2⟩,g3⟩:=hc;split at g1
 ·rename_i n' e' hu;simp only [Bool.and_eq_true,beq_iff_eq] at g1;obtain ⟨rfl,rfl⟩:=g1;split at g2
  ·rename_i o u oK;simp only [yC,hm,hu,oK,hg,hl,hk];rw [if_pos ⟨trivial,h1,h2,g3,g2⟩]
  ·cases g2
 ·cases g1
def Vw (P:Program) (ty:nC) (p:List Nat) (e:Nat):Bool:=match Go.Ab.rowAt P ty p with | some (_,e')=>e' == e | none=>false
theorem Yk {h:AH} {m:Nat} {ty:nC} {p:List Nat} {own:Bool} {v:V} {l:List V} {e a k:Nat} (hm:h.m m=some (.cells own ty v)) (hc:Vw P ty p e=true) (hg:yF v p=some (.agg l)) (hk:a+k<=l.length) :
 xY P h e (.y8 (some (⟨m,ty,p⟩,a)) k)=some ((l.drop a).take k):=by
 unfold Vw at hc;split at hc
 ·rename_i o e' hr;simp only [beq_iff_eq] at hc;subst hc;simp only [xY,hm,if_true,hr,hg];rw [if_pos ⟨trivial,hk⟩]
 ·cases hc
theorem Xl {h:AH} {t xt e:TypeId} {m:Nat} {ty:nC} {p:List Nat} {v v' x:V} {l ws:List V} {s n:Nat} (ht:(match ul P t with | some (.slice e')=>e' == e | _=>false)=true) (he:(ul P e).isSome=true) (hc:Vw P ty p e=true)
 (hm:h.m m=some (.cells true ty v)) (hg:yF v p=some (.agg l)) (hx:xY P h e x=some ws) (hn:s+n<=l.length) (hs:tX v p (.agg (l.take s++ws.take (min ws.length n)++l.drop (s+min ws.length n)))=some v') :
 ∃ h',zr P h .copy [t,xt] [.y8 (some (⟨m,ty,p⟩,s)) n,x]=some (.int .i64 (min ws.length n:Nat),h')/\lD h h' m (.cells true ty v'):=by
 refine ⟨_,?_,ot _ _ _⟩;split at ht
 ·rename_i e' hu;simp only [beq_iff_eq] at ht;subst ht;unfold Vw at hc;split at hc
  ·rename_i o e2 hr;simp only [beq_iff_eq] at hc;subst hc;simp only [zr,hu];rw [if_pos he];unfold Py;simp only [hx,hm,hr,hg];rw [if_pos ⟨trivial,trivial,hn⟩];simp only [hs]
  ·cases hc
 ·cases ht
theorem eR (l:List UInt8) (n:Nat):(zd l).take n=zd (l.take n):=by simp [zd,List.map_take]
theorem Ud (l:List UInt8) (n:Nat):(zd l).drop n=zd (l.drop n):=by simp [zd,List.map_drop]
theorem oO {α:Type} [BEq α] [LawfulBEq α] {a b:α} (h:(a != b)=true):a≠b:=bne_iff_ne.1 h
theorem uY {α:Type} [BEq α] [LawfulBEq α] {a b:α} (h:(a != b)=false):a=b:=by simpa using h
theorem yW:∀ l:List UInt8,xU (zd l)=true
 | []=>rfl
 | b :: l=>by
  have e:zd (b :: l)=.int .u8 b.toNat :: zd l:=rfl;rw [e];simp only [xU,xS,yW l,Bool.and_self]
theorem kG:∀ (a b:List UInt8),a.length=b.length->v9 (zd a) (zd b)=some (a == b)
 | [],[],_=>rfl
 | [],_ :: _,h=>by simp at h
 | _ :: _,[],h=>by simp at h
 | x :: a,y :: b,h=>by
  have e1:zd (x :: a)=.int .u8 x.toNat :: zd a:=rfl;have e2:zd (y :: b)=.int .u8 y.toNat :: zd b:=rfl;rw [e1,e2];simp only [v9,wW,if_true];have ih:=kG a b (by simpa using h);by_cases hxy:x=y
  ·subst hxy;simp [ih]
  ·have:((x.toNat:Int) == (y.toNat:Int))=false:=by
    rw [beq_eq_false_iff_ne];intro e;exact hxy (UInt8.toNat_inj.1 O_)
   rw [this];have h2:((x :: a) == (y :: b))=false:=by rw [beq_eq_false_iff_ne];intro e;cases e;exact hxy rfl
   rw [h2]
end
section
open Go Go.RowKit
variable {P:Program}
def AO.tag:AO->Nat × Nat × Nat
 | .cells _ (.one t) _=>(0,t,0)
 | .cells _ (.row e) _=>(1,e,0)
 | .mp kt et _=>(2,kt,et)
 | .BB kt et _ _ _=>(3,kt,et)
 | .BC _ _=>(4,0,0)
 | .PZ _ _ _ _=>(5,0,0)
abbrev xr:=List (Nat × Nat × Nat)
def vx (h:AH):Prop:=∀ n o,h.m n=some o->o.w8=true
structure zb (T:xr) (h h':AH):Prop where
 next:h.next<=h'.next
 zA:∀ n o,n<h.next->h.m n=some o->o.tag ∉ T->h'.m n=some o
 none_:∀ n,n<h.next->h.m n=none->h'.m n=none
 tag:∀ n o,n<h.next->h.m n=some o->(∃ o',h'.m n=some o'/\o'.tag=o.tag)\/h'.m n=none
 own:vx h->vx h'
theorem zb.refl (T:xr) (h:AH):zb T h h:=⟨Nat.le_refl _,λn o _ k _=>k,λn _ k=>k,λn o _ k=>.inl ⟨o,k,rfl⟩,λq=>q⟩
theorem zb.trans {T:xr} {h h1 h2:AH} (a:zb T h h1) (b:zb T h1 h2):zb T h h2:=by
 refine ⟨Nat.le_trans a.next b.next,λn o hn hm ht=>b.zA n o (Nat.lt_of_lt_of_le hn a.next) (a.zA n o hn hm ht) ht,λn hn hm=>b.none_ n (Nat.lt_of_lt_of_le hn a.next) (a.none_ n hn hm),λn o hn hm=>?_,λq=>b.own (a.own q)⟩;rcases a.tag n o hn hm with ⟨o1,m1,t1⟩ | m1
 ·rcases b.tag n o1 (Nat.lt_of_lt_of_le hn a.next) m1 with ⟨o2,m2,t2⟩ | m2
  ·exact .inl ⟨o2,m2,t2.trans t1⟩
  ·exact .inr m2
 ·exact .inr (b.none_ n (Nat.lt_of_lt_of_le hn a.next) m1)
theorem zb.mono {T T':xr} {h h':AH} (a:zb T h h') (hT:∀ t∈T,t∈T'):zb T' h h':=⟨a.next,λn o hn hm ht=>a.zA n o hn hm λq=>ht (hT _ q),a.none_,a.tag,a.own⟩
theorem zb.sub {T T':xr} {h h':AH} (a:zb T h h') (hT:(T.all λt=>T'.contains t)=true):zb T' h h':=a.mono λt ht=>by
 have:=List.all_eq_true.1 hT t ht;simpa using this
theorem Td.mem {h h':AH} {o:AO} (u:Td h h' o) {n:Nat} {o':AO} (hm:h'.m n=some o'):h.m n=some o'\/o'=o:=by
 by_cases e:n=h.next
 ·subst e;rw [u.at_] at hm;cases hm;exact .inr rfl
 ·rcases Nat.lt_or_ge n h.next with k | k
  ·exact .inl ((u.other n k).symm.trans hm)
  ·exact .inl ((u.Zu n O_).symm.trans hm)
theorem zb.new {T:xr} {h h':AH} {o:AO} (u:Td h h' o) (ho:o.w8=true:=by rfl):zb T h h':=by
 refine ⟨by have:=u.next;omega,λn o hn hm _=>(u.other n hn).trans hm,λn hn hm=>(u.other n hn).trans hm,λn o hn hm=>.inl ⟨o,(u.other n hn).trans hm,rfl⟩,λq n o' hm=>?_⟩;rcases u.mem hm with k | rfl
 ·exact q n o' k
 ·exact ho
theorem zb.vP {T:xr} {h h':AH} {n:Nat} {o o0:AO} (u:lD h h' n o) (hm:h.m n=some o0) (ht:o.tag=o0.tag) (hT:T.contains o0.tag=true) (ho:o.w8=true:=by rfl):zb T h h':=by
 replace hT:o0.tag∈T:=by simpa using hT
 refine ⟨by have:=u.next;omega,λk o1 hk cK ht1=>?_,λk hk cK=>?_,λk o1 hk cK=>?_,λq k o' hk=>?_⟩
 ·have wO:k≠n:=λe=>by subst e;rw [hm] at cK;cases cK;exact ht1 hT
  exact (u.other k wO).trans cK
 ·have wO:k≠n:=λe=>by subst e;rw [hm] at cK;cases cK
  exact (u.other k wO).trans cK
 ·by_cases e:k=n
  ·subst e;rw [hm] at cK;cases cK;exact .inl ⟨o,u.at_,ht⟩
  ·exact .inl ⟨o1,(u.other k e).trans cK,rfl⟩
 ·by_cases e:k=n
  ·subst e;rw [u.at_] at hk;cases hk;exact ho
  ·rw [u.other k e] at hk;exact q k o' hk
theorem zb.rep {T:xr} {h h':AH} {n:Nat} {o o0:AO} (u:Ag h h' n o) (hm:h.m n=some o0) (hT:T.contains o0.tag=true) (ho:o.w8=true:=by rfl):zb T h h':=by
 replace hT:o0.tag∈T:=by simpa using hT
 refine ⟨by have:=u.next;omega,λk o1 hk cK ht1=>?_,λk hk cK=>?_,λk o1 hk cK=>?_,λq k o' hk=>?_⟩
 ·have wO:k≠n:=λe=>by subst e;rw [hm] at cK;cases cK;exact ht1 hT
  exact (u.other k hk wO).trans cK
 ·have wO:k≠n:=λe=>by subst e;rw [hm] at cK;cases cK
  exact (u.other k hk wO).trans cK
 ·by_cases e:k=n
  ·subst e;exact .inr u.gone
  ·exact .inl ⟨o1,(u.other k hk e).trans cK,rfl⟩
 ·rcases Nat.lt_trichotomy k h.next with c | c | c
  ·by_cases e:k=n
   ·subst e;rw [u.gone] at hk;cases hk
   ·rw [u.other k c e] at hk;exact q k o' hk
  ·subst c;rw [u.at_] at hk;cases hk;exact ho
  ·rcases u.Zu k c with e | e
   ·rw [e] at hk;cases hk
   ·rw [e] at hk;exact q k o' hk
theorem zb.ya {T:xr} {h h1 h2:AH} {n:Nat} {o:AO} (a:zb T h h1) (u:lD h1 h2 n o) (hn:h.next<=n) (ho:o.w8=true:=by rfl):zb T h h2:=by
 refine ⟨by have:=a.next;have:=u.next;omega,λk o1 hk hm ht=>(u.other k O_).trans (a.zA k o1 hk hm ht),λk hk hm=>(u.other k O_).trans (a.none_ k hk hm),λk o1 hk hm=>?_,λq k o' hk=>?_⟩
 rotate_left
 ·by_cases e:k=n
  ·subst e;rw [u.at_] at hk;cases hk;exact ho
  ·rw [u.other k e] at hk;exact a.own q k o' hk
 rcases a.tag k o1 hk hm with ⟨o',m',t'⟩ | m'
 ·exact .inl ⟨o',(u.other k O_).trans m',t'⟩
 ·exact .inr ((u.other k O_).trans m')
theorem zb.all {h h':AH} (a:zb [] h h'):∀ n,n<h.next->h'.m n=h.m n:=λn hn=>by
 cases hm:h.m n with
 | none=>exact a.none_ n hn hm
 | some o=>exact a.zA n o hn hm S_
theorem zb.at {T:xr} {h h':AH} (a:zb T h h') {n:Nat} {o:AO} (hm:h.m n=some o) (hn:n<h.next) (ht:T.contains o.tag=false):h'.m n=some o :=
 a.zA n o hn hm λq=>by simp [q] at ht
theorem uQ {h:AH} {a b:Nat} {x y:AO} (hx:h.m a=some x) (hy:h.m b=some y) (ht:x.tag≠y.tag):a≠b:=λe=>by
 subst e;rw [hx] at hy;cases hy;exact ht rfl
theorem z2I {f:FuncId} {args:List V} {h:AH} {R:yO->AH->Prop} {K X:V->AH->Prop} (c:za P f args h R) (k:∀ e h',R e h'->∃ v,e=.ret v/\K v h'):za P f args h (zS K X) :=
 c.mono λe h' q=>by obtain ⟨v,rfl,q2⟩:=k e h' q;exact q2
def xj (T:xr) (h0:AH) (v:V) (R:AH->Prop):yO->AH->Prop:=λe h'=>e=.ret v/\zb T h0 h'/\R h'
theorem xN {f:FuncId} {args:List V} {h:AH} {T:xr} {v:V} {R:AH->Prop} {K X:V->AH->Prop} (c:za P f args h (xj T h v R)) (k:∀ h',zb T h h'->R h'->K v h'):za P f args h (zS K X) :=
 c.mono λe h' q=>by obtain ⟨rfl,q1,q2⟩:=q;exact k h' q1 q2
theorem xj.mono {T T':xr} {h h0:AH} {v:V} {R R':AH->Prop} (k:zb T' h0 h) (hT:(T.all λt=>T'.contains t)=true) (hR:∀ h',R h'->R' h') {e:yO} {h':AH} (g:xj T h v R e h'):xj T' h0 v R' e h' :=
 ⟨g.1,k.trans (g.2.1.sub hT),hR _ g.2.2⟩
structure qE (p:Nat) (h h':AH):Prop where
 next:h.next<=h'.next
 same:∀ n,n<h.next->n≠p->h'.m n=h.m n
theorem qE.refl (p:Nat) (h:AH):qE p h h:=⟨Nat.le_refl _,λ_ _ _=>rfl⟩
theorem qE.trans {p:Nat} {h h1 h2:AH} (a:qE p h h1) (b:qE p h1 h2):qE p h h2 :=
 ⟨Nat.le_trans a.next b.next,λn hn hp=>(b.same n (Nat.lt_of_lt_of_le hn a.next) hp).trans (a.same n hn hp)⟩
theorem qE.vP {p:Nat} {h h':AH} {o:AO} (u:lD h h' p o):qE p h h':=⟨by have:=u.next;omega,λn _ hp=>u.other n hp⟩
theorem qE.new {p:Nat} {h h':AH} {o:AO} (u:Td h h' o):qE p h h':=⟨by have:=u.next;omega,λn hn _=>u.other n hn⟩
theorem qE.ya {p n:Nat} {h h1 h2:AH} {o:AO} (a:qE p h h1) (u:lD h1 h2 n o) (hn:h.next<=n):qE p h h2 :=
 ⟨by have:=a.next;have:=u.next;omega,λk hk hp=>(u.other k O_).trans (a.same k hk hp)⟩
def RS (P:Program) (t:TypeId) (ts:List Nat):Bool:=match ul P t with
 | some (.struct fs)=>fs.toList.map (λf:Field=>f.type) == ts
 | _=>false
theorem uR {t:TypeId} {zs l:List V} {ps:List (Nat × V)} (ts:List Nat) (hz:xk P t=some (.agg zs)) (hf:RS P t ts=true) (hp:xK P (λi=>ts[i]?) zs ps=some l):zD P t ps=some (.agg l):=by
 unfold RS at hf;split at hf
 ·rename_i fs hu;have hf:=beq_iff_eq.1 hf;unfold zD;rw [hz];simp only [hu];have e:(λi:Nat=>(fs[i]?).map λf:Field=>f.type)=λi=>ts[i]?:=by
   funext i;rw [<- hf];simp
  rw [e,hp]
 ·cases hf
end
open Go Go.RowKit
theorem XB {P:Program} {f:FuncId} {args:List V} {h:AH} {Q Q':yO->AH->Prop} (c:ku P f args h Q) (m:∀ e h',Q e h'->Q' e h'):ku P f args h Q' :=
 λB ι W vs u F r=>(c B ι W vs u F r).mono λ_ _ _ ⟨a,ι',h',ae,a1,a2,a3,a4⟩=>⟨a,ι',h',ae,a1,a2,a3,m _ _ a4⟩
section
variable {κ α:Type} [DecidableEq κ]
def vB:List (κ × α)->κ->Option (Nat × α)
 | [],_=>none
 | (k',s) :: l,k=>if k'=k then some (0,s) else (vB l k).map λx=>(x.1+1,x.2)
def xI (l:List (κ × α)) (k:κ):Option α:=(vB l k).map (·.2)
def qS:List (κ × α)->κ->α->List (κ × α)
 | [],k,s=>[(k,s)]
 | (k',s') :: l,k,s=>if k'=k then (k,s) :: l else (k',s') :: qS l k s
def nr:List (κ × α)->κ->List (κ × α)
 | [],_=>[]
 | (k',s') :: l,k=>if k'=k then l else (k',s') :: nr l k
def XW (kV:κ->V) (vV:α->V) (l:List (κ × α)):List (V × V):=l.map λx=>(kV x.1,vV x.2)
variable {kV:κ->V} {vV:α->V}
theorem cH (hk:∀ a b,wW (kV a) (kV b)=some (decide (b=a))) (k:κ):∀ l:List (κ × α),rk (kV k) (XW kV vV l)=some ((vB l k).map λx=>(x.1,vV x.2))
 | []=>rfl
 | (k',s) :: l=>by
  have e:XW kV vV ((k',s) :: l)=(kV k',vV s) :: XW kV vV l:=rfl;rw [e,rk,hk];by_cases h:k'=k
  ·rw [decide_eq_true h,vB,if_pos h];rfl
  ·rw [decide_eq_false h,vB,if_neg h];simp only [cH hk k l];cases vB l k with
   | none=>rfl
   | some x=>rfl
theorem Ym {k:κ} {s s0:α}:∀ {l:List (κ × α)} {j:Nat},vB l k=some (j,s0)->(XW kV vV l).set j (kV k,vV s)=XW kV vV (qS l k s)
 | [],j,h=>by cases h
 | (k',s') :: l,j,h=>by
  unfold vB at h;by_cases q:k'=k
  ·rw [if_pos q] at h;simp only [Option.some.injEq,Prod.mk.injEq] at h;obtain ⟨rfl,rfl⟩:=h;rw [qS,if_pos q];rfl
  ·rw [if_neg q] at h;cases hf:vB l k with
   | none=>rw [hf] at h;cases h
   | some x =>
    rw [hf] at h;simp only [Option.map_some,Option.some.injEq,Prod.mk.injEq] at h;obtain ⟨rfl,rfl⟩:=h;rw [qS,if_neg q];have:=Ym (s:=s) hf;show (kV k',vV s') :: (XW kV vV l).set x.1 _=_;rw [this];rfl
theorem YN {k:κ} {s:α}:∀ {l:List (κ × α)},vB l k=none->XW kV vV l++[(kV k,vV s)]=XW kV vV (qS l k s)
 | [],h=>rfl
 | (k',s') :: l,h=>by
  unfold vB at h;by_cases q:k'=k
  ·rw [if_pos q] at h;cases h
  ·rw [if_neg q] at h;have h2:vB l k=none:=by
    cases hf:vB l k with
    | none=>rfl
    | some x=>rw [hf] at h;cases h
   rw [qS,if_neg q];have:=YN (s:=s) h2;show (kV k',vV s') :: (XW kV vV l++_)=_;rw [this];rfl
theorem YK {k:κ} {s0:α}:∀ {l:List (κ × α)} {j:Nat},vB l k=some (j,s0)->(XW kV vV l).eraseIdx j=XW kV vV (nr l k)
 | [],j,h=>by cases h
 | (k',s') :: l,j,h=>by
  unfold vB at h;by_cases q:k'=k
  ·rw [if_pos q] at h;simp only [Option.some.injEq,Prod.mk.injEq] at h;obtain ⟨rfl,rfl⟩:=h;rw [nr,if_pos q];rfl
  ·rw [if_neg q] at h;cases hf:vB l k with
   | none=>rw [hf] at h;cases h
   | some x =>
    rw [hf] at h;simp only [Option.map_some,Option.some.injEq,Prod.mk.injEq] at h;obtain ⟨rfl,rfl⟩:=h;rw [nr,if_neg q];have:=YK hf;show (kV k',vV s') :: (XW kV vV l).eraseIdx x.1=_;rw [this];rfl
theorem YQ {k:κ}:∀ {l:List (κ × α)},vB l k=none->nr l k=l
 | [],h=>rfl
 | (k',s') :: l,h=>by
  unfold vB at h;by_cases q:k'=k
  ·rw [if_pos q] at h;cases h
  ·rw [if_neg q] at h;have h2:vB l k=none:=by
    cases hf:vB l k with
    | none=>rfl
    | some x=>rw [hf] at h;cases h
   rw [nr,if_neg q,YQ h2]
theorem ri (k k2:κ) (s:α):∀ l:List (κ × α),xI (qS l k s) k2=if k=k2 then some s else xI l k2
 | []=>by
  unfold qS xI vB;split <;> simp [vB]
 | (k',s') :: l=>by
  have ih:=ri k k2 s l;unfold xI at ih ⊢;unfold qS;by_cases q:k'=k
  ·rw [if_pos q,vB,vB];subst q;split <;> simp
  ·rw [if_neg q,vB,vB];by_cases r:k'=k2
   ·rw [if_pos r,if_pos r,if_neg (λe=>q (r.trans e.symm))]
   ·rw [if_neg r,if_neg r];simp only [Option.map_map];have e2:((λx:Nat × α=>x.2) ∘ λx:Nat × α=>(x.1+1,x.2))=λx=>x.2:=rfl;rw [e2,ih]
theorem fq (k':κ) (s:α) (l:List (κ × α)) (k:κ):xI ((k',s) :: l) k=if k'=k then some s else xI l k:=by
 unfold xI;rw [vB];split
 ·rfl
 ·rw [Option.map_map];rfl
def jR:List (κ × α)->Prop
 | []=>True
 | (k,_) :: l=>xI l k=none/\jR l
theorem iG {l:List (κ × α)} (hu:jR l) (k k2:κ):xI (nr l k) k2=if k=k2 then none else xI l k2:=by
 induction l with
 | nil=>simp [nr,xI,vB]
 | cons x l ih =>
  obtain ⟨k',s'⟩:=x;obtain ⟨u1,u2⟩:=hu;rw [nr];by_cases q:k'=k
  ·subst q;rw [if_pos rfl,fq];by_cases r:k'=k2
   ·subst r;rw [if_pos rfl];exact u1
   ·rw [if_neg r,if_neg r]
  ·rw [if_neg q,fq,fq,ih u2];by_cases r:k'=k2
   ·rw [if_pos r,if_pos r,if_neg (λe=>q (r.trans e.symm))]
   ·rw [if_neg r,if_neg r]
theorem YE {l:List (κ × α)} (hu:jR l) (k:κ) (s:α):jR (qS l k s):=by
 induction l with
 | nil=>exact ⟨rfl,trivial⟩
 | cons x l ih =>
  obtain ⟨k',s'⟩:=x;obtain ⟨u1,u2⟩:=hu;rw [qS];by_cases q:k'=k
  ·rw [if_pos q];subst q;exact ⟨u1,u2⟩
  ·rw [if_neg q];refine ⟨?_,ih u2⟩;rw [ri,if_neg (λe=>q e.symm)];exact u1
theorem YD {l:List (κ × α)} (hu:jR l) (k:κ):jR (nr l k):=by
 induction l with
 | nil=>exact trivial
 | cons x l ih =>
  obtain ⟨k',s'⟩:=x;obtain ⟨u1,u2⟩:=hu;rw [nr];by_cases q:k'=k
  ·rw [if_pos q];exact u2
  ·rw [if_neg q];refine ⟨?_,ih u2⟩;rw [iG u2];split
   ·rfl
   ·exact u1
variable {P:Program} {h:AH} {t kt et:TypeId} {n:Nat} {l:List (κ × α)}
def W3 (P:Program) (t kt et:TypeId):Bool:=(match ul P t with | some (.map a b)=>a == kt&&b == et | _=>false)&&yz P 20 kt
theorem Xv (hc:W3 P t kt et=true):ul P t=some (.map kt et)/\yz P 20 kt=true:=by
 unfold W3 at hc;split at hc
 ·rename_i a b e;simp only [Bool.and_eq_true,beq_iff_eq] at hc;obtain ⟨⟨rfl,rfl⟩,h2⟩:=hc;exact ⟨e,h2⟩
 ·simp at hc
theorem z2U (hk:∀ a b,wW (kV a) (kV b)=some (decide (b=a))) (hc:W3 P t kt et=true) (hm:h.m n=some (.mp kt et (XW kV vV l))) {k:κ} (hs:zf P (kV k) kt=true) {z:V} (hz:xk P et=some z) :
 sB P h t (.map (some n)) (kV k) true=some (.yX [((xI l k).map vV).getD z,.bool (xI l k).isSome]):=by
 obtain ⟨hu,hp⟩:=Xv hc;unfold sB;rw [hu];simp only [hp,hs,Bool.and_self,if_true,hm,and_self];rw [cH hk];unfold xI;cases vB l k with
 | none=>simp only [Option.map_none,hz];rfl
 | some x=>rfl
theorem kSet (hk:∀ a b,wW (kV a) (kV b)=some (decide (b=a))) (hc:W3 P t kt et=true) (hm:h.m n=some (.mp kt et (XW kV vV l))) {k:κ} {s:α} (hs:zf P (kV k) kt=true) (hv:zf P (vV s) et=true) :
 ∃ h',tq (sX P h t (.map (some n)) (kV k) (vV s))=some (yw,h')/\lD h h' n (.mp kt et (XW kV vV (qS l k s))):=by
 obtain ⟨hu,hp⟩:=Xv hc;unfold sX;rw [hu];simp only [hp,hs,hv,Bool.and_self,if_true,hm,and_self];rw [cH hk];cases hf:vB l k with
 | none =>
  simp only [Option.map_none];rw [YN hf];exact ⟨_,rfl,ot _ _ _⟩
 | some x =>
  simp only [Option.map_some];rw [Ym hf];exact ⟨_,rfl,ot _ _ _⟩
theorem lD.self {h:AH} {n:Nat} {o:AO} (hm:h.m n=some o):lD h h n o:=⟨rfl,hm,λ_ _=>rfl⟩
theorem kDel {xt:TypeId} (hk:∀ a b,wW (kV a) (kV b)=some (decide (b=a))) (hc:W3 P t kt et=true) (hm:h.m n=some (.mp kt et (XW kV vV l))) {k:κ} (hs:zf P (kV k) kt=true) :
 ∃ h',zr P h .delete [t,xt] [.map (some n),kV k]=some (yw,h')/\lD h h' n (.mp kt et (XW kV vV (nr l k))):=by
 obtain ⟨hu,hp⟩:=Xv hc;show ∃ h',tq (i9 P h t (.map (some n)) (kV k))=some (yw,h')/\_;unfold i9;rw [hu];simp only [hp,hs,Bool.and_self,if_true,hm];rw [cH hk];cases hf:vB l k with
 | none =>
  simp only [Option.map_none];rw [YQ hf];exact ⟨_,rfl,lD.self hm⟩
 | some x =>
  simp only [Option.map_some];rw [YK hf];exact ⟨_,rfl,ot _ _ _⟩
end
end Go.Ab
namespace Go.Proofs.YtdbgifdfdhhjcaaGreat.Sh
section
open Go Go.Ab Go.RowKit
open Go.Proofs.YtdbgifdfdhhjcaaGreat.Ru (Pg yL)
set_option maxRecDepth 100000
noncomputable section
variable (Q:yO->AH->Prop) (ds:List AD) (n n1 n2:Nat) (x0 x1 x2 x3 x4 x5 x6 x7 x8 x9 x10 x14 x19 x20 x21 x22 x23 x24 x25 x26 x27 x28 x29 x30 x31 x33 x36 x37 x38 x40 x41 x42 x46 x47 x57 x68 x69:V) (a0 a1 a2 a3:V) (h:AH)
def B19:=bd Tryz.f19
def Tf:List ResultVar:=[.cell 4 50,.tmp 5]
abbrev N19:=146
def K19:KT:=(sQ lF (jN (sQ lF (.two (sQ lF lF [4,5]) lF) [3,4,20]) (sQ lF (sQ lF (sQ lF (jN (sQ lF (.one (.loop (sQ lF (jN (.two lF lF) (jN (.one (sQ lF (jN (jN (.rm [[4,6,7,8,9,29,30,36,40]]) (.two (sQ lF lF [4,5]) lF) [4,6,7,8,9,29,30,41]) (sQ lF (sQ lF (jN (sQ lF (.two (jN (jN (.rm [[4,6,7,8,9,29,30,57,68]]) (.two (sQ lF lF [4,5]) lF) [4,6,7,8,9,29,30,69]) (sQ lF (sQ lF (sQ lF (sQ (.nG [12,14,16]) (sQ lF (sQ lF lF [4,6,7,8,9,16,29,30]) [4,6,7,8,9,16,29,30]) [4,6,7,8,9,29,30]) [4,6,7,8,9,10,12,14,29,30]) [4,6,7,8,9,10,12,29,30]) [4,6,7,8,9,10,29,30]) [4,6,7,8,9,29,30]) lF) [4,6,7,8,9,29,30,51]) lF [4,6,7,8,9,29,30]) [4,6,7,8,9,29,30]) [4,6,7,8,9,29,30]) [4,6,7,8,9,29,30]) [4,6,7,8,9,29,30])) lF [4,6,7,8,29,30]) [4,6,7,8,29,30]) [4,6,7,8,29,30,31]) [4,6,7,8,29,30])) [4,6,7,8,29,30]) (jN (.one (.loop (jN (sQ lF (.two lF lF) [4,6,7,8,133]) (jN (.one (sQ lF (.two (sQ lF lF [4,5]) lF) [4,6,7,8,139])) lF [4,6,7,8]) [4,6,7,8]) [4,6,7,8])) (jN (sQ lF (.two (sQ lF lF [4,5]) lF) [4,7,143]) (sQ lF lF [4,5]) [4,7]) [4,7]) [4,6,7,8]) [3,4,6,7,8]) [3,4,6,7]) [3,4,6]) [3,4]) [0,3,4])
def OA (p l:List Nat) (e:zJ):Prop:=xG Pg N19 B19 K19 p l (zn Pg Tf Q) e h
def z99:Prop:=OA Q h [1,1,1,1,1,0,1,0,0,1,1,1] [n] [(4,x4),(6,x6),(7,x7),(8,x8),(29,x29),(30,x30)]
def zbo:Prop:=OA Q h [1,1,1,1,1,0,1,0,0,1,1,0,0,1,1,1,1,1] [n] [(4,x4),(6,x6),(7,x7),(8,x8),(9,x9),(29,x29),(30,x30)]
def z7R:Prop:=OA Q h [1,1,1,1,1,0,1,0,0,1,1,0,0,1,1,1,1,0,1,0,1] [n] [(4,x4),(6,x6),(7,x7),(8,x8),(9,x9),(29,x29),(30,x30)]
def z8v:Prop:=OA Q h [1,1,1,1,1,0,1,0,0,1,1,0,0,1,1,1,1,0,1,0,0,1] [n] [(4,x4),(6,x6),(7,x7),(8,x8),(9,x9),(29,x29),(30,x30),(69,x69)]
def Gzq:Prop:=yu Pg N19 B19 K19 [1,1,1,1,1,0,1,0,0,1,1,0,0,1,1,1,1,0,1,0,0,0] 2 1 [n] (zn Pg Tf Q) [(4,x4),(6,x6),(7,x7),(8,x8),(9,x9),(29,x29),(30,x30),(57,x57),(68,x68)] h
def z7H:Prop:=OA Q h [1,1,1,1,1,0,1,0,0,1,1,0,0,1,1] [n] [(4,x4),(6,x6),(7,x7),(8,x8),(9,x9),(29,x29),(30,x30)]
def z2P:Prop:=OA Q h [1,1,1,1,1,0,1,0,0,1,1,0,0,1,0,1] [n] [(4,x4),(6,x6),(7,x7),(8,x8),(9,x9),(29,x29),(30,x30),(41,x41)]
def Gzp:Prop:=yu Pg N19 B19 K19 [1,1,1,1,1,0,1,0,0,1,1,0,0,1,0,0] 2 1 [n] (zn Pg Tf Q) [(4,x4),(6,x6),(7,x7),(8,x8),(9,x9),(29,x29),(30,x30),(36,x36),(40,x40)] h
def z8T:Prop:=OA Q h [1,1,1,1,1,0,1,0,0,1,1] [n] [(4,x4),(6,x6),(7,x7),(8,x8),(29,x29),(30,x30)]
def z9F:Prop:=OA Q h [1,1,1,1,1,1,0,0,0,1,1] [n] [(4,x4),(6,x6),(7,x7),(8,x8)]
def zad:Prop:=OA Q h [1,1,1,1,1,1,0,0,0,1] [n] [(4,x4),(6,x6),(7,x7),(8,x8)]
def I6:Prop:=OA Q h [1,1,1,1,1,1,1,1] [] [(4,x4),(7,x7)]
def z6I:Prop:=OA Q h [1,1,1,1,1,1,1] [] [(4,x4),(7,x7)]
def EJ:Prop:=xX Pg N19 B19 K19 [1,1,1,1,1,1,0,0] [] n (zn Pg Tf Q) [(4,x4),(6,x6),(7,x7),(8,x8)] h
def zbq:Prop:=OA Q h [1,1,1,1,1,1] [] [(4,x4),(6,x6),(7,x7),(8,x8)]
def E7:Prop:=xX Pg N19 B19 K19 [1,1,1,1,1,0,1,0] [] n (zn Pg Tf Q) [(4,x4),(6,x6),(7,x7),(8,x8),(29,x29),(30,x30)] h
def z7i:Prop:=OA Q h [1,1] [] [(3,x3),(4,x4)]
theorem EB:z99 Q n x4 x6 x7 x8 x29 x30 h=(
 z0 (z03 (z0s .add 3 x30 (V.int .i64 1) true) h) λb c =>
 z7 (E7 Q n x4 x6 x7 x8 x29 b c)):=K_
theorem Gb:zbo Q n x4 x6 x7 x8 x9 x29 x30 h=(
 z0 (z03 (z0e 50 x7 1) h) λb c =>
 z0 (z0o c 48 b) λd e =>
 z0 (z0o e 60 x9) λf g =>
 z0 (yp Pg g 48 1 [(0,f)]) λi j =>
 z0 (z0u j .append [48,48] [d,i]) λk l =>
 z0 (z03 (z0e 50 x7 1) l) λm o =>
 z0 (z0t o 48 m k) λ_ p =>
 z7 (z99 Q n x4 x6 x7 x8 x29 x30 p)):=K_
theorem PG:z7R Q n x4 x6 x7 x8 x9 x29 x30 h=(
 z0q 66 [x6,x8,(V.int .i64 2)] h (zS (λb c =>
 z0 (z03 (zm b 0) c) λd e =>
 z0 (z03 (zm b 1) e) λf g =>
 z0 (z03 (z0s .add 3 x8 (V.int .i64 2) true) g) λi j =>
 z0q 66 [x6,i,(V.int .i64 4)] j (zS (λk l =>
 z0 (z03 (zm k 0) l) λm o =>
 z0 (z03 (zm k 1) o) λp q =>
 z0 (z03 (z0s .add 3 x8 (V.int .i64 6) true) q) λr s =>
 z0q 66 [x6,r,(V.int .i64 2)] s (zS (λt u =>
 z0 (z03 (zm t 0) u) λw y =>
 z0 (z03 (zm t 1) y) λz A =>
 zc (zj (z03 (z0F A 47 41 d) A)) λB =>
 (
 zc (zj (z03 (z0F A 47 56 m) A)) λC =>
 (
 zc (zj (z03 (z0F A 47 41 w) A)) λD =>
 (
 zc (zj (z03 (z0s .add 3 x8 (V.int .i64 8) true) A)) λE =>
 zc (zj (z03 (vN Pg 9 x6 E) A)) λF =>
 zc (zj (z03 (z0y 58 [(0,D),(1,F)]) A)) λG =>
 zc (zj (z03 (z0e 60 x9 1) A)) λH =>
 z0 (z0t A 41 H B) λ_ I=>(z03 (z0F I 47 41 w) I=some (D,I))/\(z03 (z0F I 47 56 m) I=some (C,I))/\(
 zc (zj (z03 (z0e 60 x9 2) I)) λJ =>
 z0 (z0t I 56 J C) λ_ K=>(z03 (z0F K 47 41 w) K=some (D,K))/\(
 zc (zj (z03 (z0e 60 x9 3) K)) λL =>
 z0 (z0t K 58 L G) λ_ M=>(
 z0 (z03 (z0s .add 3 x8 (V.int .i64 9) true) M) λO P =>
 z0 (z03 (vN Pg 9 x6 O) P) λR S =>
 z0 (z03 (z0F S 5 3 R) S) λT U =>
 z0 (z03 (z0s .add 3 x8 (V.int .i64 10) true) U) λW X =>
 z0 (z03 (z0s .add 3 x8 (V.int .i64 10) true) X) λY Z =>
 z0 (z03 (z0s .add 3 Y T false) Z) λba bb =>
 z0 (z03 (yC Pg bb 9 x6 (some W) (some ba)) bb) λbc bd =>
 z0 (z03 (z0e 60 x9 4) bd) λbe bf =>
 z0 (z0t bf 9 be bc) λ_ bg =>
 z0 (z03 (z0s .add 3 (V.int .i64 10) T true) bg) λbh bi =>
 z0 (z03 (z0s .add 3 x8 bh false) bi) λbj bk =>
 z7 (zbo Q n x4 x6 x7 bj x9 x29 x30 bk)))))))) λv h=>Q (.panic v) h)) λv h=>Q (.panic v) h)) λv h=>Q (.panic v) h)):=K_
theorem Qw:z8v Q n x4 x6 x7 x8 x9 x29 x30 x69 h=(
 zP x69 (
 z0 (z03 (z0y 50 []) h) λb c =>
 z0 (z0t c 50 x4 b) λ_ d =>
 yq (zX Pg [(4,x4),(5,(V.int .i64 2))] d Tf) λv=>Q (.ret v) d) (
 z7 (z7R Q n x4 x6 x7 x8 x9 x29 x30 h))):=K_
theorem Tz:Gzq Q n x4 x6 x7 x8 x9 x29 x30 x57 x68 h=(
 z0 (yc x57 (V.bool true) x68 h) λb c =>
 z7 (z8v Q n x4 x6 x7 x8 x9 x29 x30 b c)):=K_
theorem GH:z7H Q n x4 x6 x7 x8 x9 x29 x30 h=(
 z0 (z03 (vN Pg 9 x6 x8) h) λb c =>
 z0 (z03 (z0s .eql 5 b (V.int .u8 1) true) c) λd e =>
 z0 (z03 (z0e 60 x9 0) e) λf g =>
 z0 (z0t g 4 f d) λ_ i =>
 z0 (z03 (z0s .add 3 x8 (V.int .i64 1) true) i) λj k =>
 z0 (z03 (z0e 60 x9 0) k) λl m =>
 z0 (z0o m 4 l) λo p =>
 zP o (
 z0 (z03 (z0s .add 3 j (V.int .i64 10) true) p) λq r =>
 z0 (z0u r .len [9] [x6]) λs t =>
 z0 (z03 (z0s .gtr 3 q s false) t) λu w =>
 vp u false (
 z0 (z03 (z0s .add 3 j (V.int .i64 10) true) w) λy z =>
 z0 (z03 (z0s .add 3 j (V.int .i64 9) true) z) λA B =>
 z0 (z03 (vN Pg 9 x6 A) B) λC D =>
 z0 (z03 (z0F D 5 3 C) D) λE F =>
 z0 (z03 (z0s .add 3 y E false) F) λG H =>
 z0 (z0u H .len [9] [x6]) λI J =>
 z0 (z03 (z0s .gtr 3 G I false) J) λK L =>
 z7 (Gzq Q n x4 x6 x7 j x9 x29 x30 u K L)) (z7 (Gzq Q n x4 x6 x7 j x9 x29 x30 u yw w))) (
 z7 (zbo Q n x4 x6 x7 j x9 x29 x30 p))):=K_
theorem HW:z2P Q n x4 x6 x7 x8 x9 x29 x30 x41 h=(
 zP x41 (
 z0 (z03 (z0y 50 []) h) λb c =>
 z0 (z0t c 50 x4 b) λ_ d =>
 yq (zX Pg [(4,x4),(5,(V.int .i64 2))] d Tf) λv=>Q (.ret v) d) (
 z7 (z7H Q n x4 x6 x7 x8 x9 x29 x30 h))):=K_
theorem Xz:Gzp Q n x4 x6 x7 x8 x9 x29 x30 x36 x40 h=(
 z0 (yc x36 (V.bool true) x40 h) λb c =>
 z7 (z2P Q n x4 x6 x7 x8 x9 x29 x30 b c)):=K_
theorem Gl:z8T Q n x4 x6 x7 x8 x29 x30 h=(
 z0 (z0D h 60) λb c =>
 z0 (z0u c .len [9] [x6]) λd e =>
 z0 (z03 (z0s .geq 3 x8 d false) e) λf g =>
 vp f false (
 z0 (z03 (vN Pg 9 x6 x8) g) λi j =>
 z0 (z03 (z0s .gtr 5 i (V.int .u8 1) true) j) λk l =>
 z7 (Gzp Q n x4 x6 x7 x8 b x29 x30 f k l)) (z7 (Gzp Q n x4 x6 x7 x8 b x29 x30 f yw g))):=K_
theorem WC:z9F Q n x4 x6 x7 x8 h=(
 z0 (z03 (z0s .add 3 x8 (V.int .i64 1) true) h) λb c =>
 z7 (EJ Q n x4 x6 x7 b c)):=K_
theorem RE:zad Q n x4 x6 x7 x8 h=(
 z0 (z03 (vN Pg 9 x6 x8) h) λb c =>
 z0 (z03 (z0s .neq 5 b (V.int .u8 0) true) c) λd e =>
 zP d (
 z0 (z03 (z0y 50 []) e) λf g =>
 z0 (z0t g 50 x4 f) λ_ i =>
 yq (zX Pg [(4,x4),(5,(V.int .i64 2))] i Tf) λv=>Q (.ret v) i) (
 z7 (z9F Q n x4 x6 x7 x8 e))):=K_
theorem IT:I6 Q x4 x7 h=(
 z0 (z0o h 50 x7) λb c =>
 z0 (z0t c 50 x4 b) λ_ d =>
 yq (zX Pg [(4,x4),(5,(V.int .i64 0))] d Tf) λv=>Q (.ret v) d):=K_
theorem Es:z6I Q x4 x7 h=(
 z0 (z0o h 50 x7) λb c =>
 z0q 67 [b] c (zS (λd e =>
 z0 (z03 (qd .not d) e) λf g =>
 zP f (
 z0 (z03 (z0y 50 []) g) λi j =>
 z0 (z0t j 50 x4 i) λ_ k =>
 yq (zX Pg [(4,x4),(5,(V.int .i64 2))] k Tf) λv=>Q (.ret v) k) (
 z7 (I6 Q x4 x7 g))) λv h=>Q (.panic v) h)):=K_
theorem Pa:EJ Q (n+1) x4 x6 x7 x8 h=(
 z0 (z0u h .len [9] [x6]) λb c =>
 z0 (z03 (z0s .lss 3 x8 b false) c) λd e =>
 zP d (
 z7 (zad Q n x4 x6 x7 x8 e)) (
 z7 (z6I Q x4 x7 e))):=K_
theorem cx:zbq Q x4 x6 x7 x8 h=(
 ∃ n,z7 (EJ Q n x4 x6 x7 x8 h)):=K_
theorem Qa:E7 Q (n+1) x4 x6 x7 x8 x29 x30 h=(
 z0 (z03 (z0s .lss 3 x30 x29 false) h) λb c =>
 zP b (
 z7 (z8T Q n x4 x6 x7 x8 x29 x30 c)) (
 z7 (zbq Q x4 x6 x7 x8 c))):=K_
theorem DQ:z7i Q x3 x4 h=(
 z0 (z03 (yC Pg h 33 x3 none none) h) λb c =>
 z0 (z03 (z0F c 154 9 b) c) λd e =>
 z0 (z0o e 33 x3) λf g =>
 z0q 65 [f] g (zS (λi j =>
 z0 (z03 (z0y 50 [(0,i)]) j) λk l =>
 z0 (z0D l 50) λm o =>
 z0 (z0t o 50 m k) λ_ p =>
 z0 (z03 (z0w 33 x3 (V.int .i64 15)) p) λq r =>
 z0 (z0o r 5 q) λs t =>
 z0 (z03 (z0F t 5 3 s) t) λu w =>
 ∃ n,z7 (E7 Q n x4 d m (V.int .i64 16) u (V.int .i64 0) w)) λv h=>Q (.panic v) h)):=K_
theorem C19 (c :
 z0 (z0G h 33 a1) λb c =>
 z0 (z0D c 50) λd e =>
 z0 (z0o e 33 b) λf g =>
 z0q 64 [(V.int .u8 2),a0,f] g (zS (λi j =>
 z0 (z03 (qd .not i) j) λk l =>
 zP k (
 z0 (z03 (z0y 50 []) l) λm o =>
 z0 (z0t o 50 d m) λ_ p =>
 yq (zX Pg [(4,d),(5,(V.int .i64 2))] p Tf) λv=>Q (.ret v) p) (
 z7 (z7i Q b d l))) λv h=>Q (.panic v) h)):z0q 19 [a0,a1] h Q :=
 mkC Tryz.func19 B19 N19 K19 Tf c
def B44:=bd Tryz.f44
def An:List ResultVar:=[.cell 2 33]
abbrev N44:=19
def K44:KT:=(sQ lF (jN (sQ lF (.two (sQ lF (sQ lF lF [2]) [2,3]) lF) [1,2,6]) (sQ lF lF [2]) [1,2]) [1,2])
def zck:Prop:=xG Pg N44 B44 K44 [1,1] [] (zn Pg An Q) [(1,x1),(2,x2)] h
theorem GW:zck Q x1 x2 h=(
 z0 (z03 (z0e 43 x1 1) h) λb c =>
 z0 (z0o c 41 b) λd e =>
 z0 (z03 (z0y 163 []) e) λf g =>
 z0q 97 [d,f] g (zS (λi j =>
 z0 (z0t j 33 x2 i) λ_ k =>
 yq (zX Pg [(2,x2)] k An) λv=>Q (.ret v) k) λv h=>Q (.panic v) h)):=K_
theorem C44 (c :
 z0 (z0G h 43 a0) λb c =>
 z0 (z0D c 33) λd e =>
 z0 (z03 (z0e 43 b 0) e) λf g =>
 z0 (z0o g 4 f) λi j =>
 zP i (
 z0 (z03 (z0e 43 b 1) j) λk l =>
 z0 (z0o l 41 k) λm o =>
 z0 (z03 (z0y 50 []) o) λp q =>
 z0q 96 [m,p] q (zS (λr s =>
 z0 (z03 (zm r 0) s) λt u =>
 z0 (z03 (zm r 1) u) λw y =>
 z0 (z0D y 33) λz A =>
 z0 (z0t A 33 z t) λ_ B =>
 z0 (z0o B 33 z) λC D =>
 z0 (z0t D 33 d C) λ_ E =>
 yq (zX Pg [(2,d)] E An) λv=>Q (.ret v) E) λv h=>Q (.panic v) h)) (
 z7 (zck Q b d j))):z0q 44 [a0] h Q :=
 mkC Tryz.func44 B44 N44 K44 An c
def B60:=bd Tryz.f60
def R60:List ResultVar:=[.tmp 4]
abbrev N60:=29
def K60:KT:=(sQ lF (jN (sQ lF (.two (sQ lF (sQ lF lF [4]) [6]) lF) [2,3,10]) (sQ lF (sQ lF lF [4]) [8]) [2,3]) [2,3])
def zbY:Prop:=xG Pg N60 B60 K60 [1,1] [] (zn Pg R60 Q) [(2,x2),(3,x3)] h
theorem DR:zbY Q x2 x3 h=(
 z0 (z03 (z0e 43 x2 1) h) λb c =>
 z0 (z0o c 41 b) λd e =>
 z0 (z0o e 33 x3) λf g =>
 z0q 69 [d,f] g (zS (λi j =>
 z0 (z03 (zm i 0) j) λk l =>
 z0 (z03 (zm i 1) l) λm o =>
 z0 (z0D o 163) λp q =>
 z0 (z0t q 163 p k) λ_ r =>
 z0 (z03 (z0s .eql 36 m (V.int .i64 0) true) r) λs t =>
 Q (.ret s) t) λv h=>Q (.panic v) h)):=K_
theorem C60 (c :
 z0 (z0G h 43 a0) λb c =>
 z0 (z0G c 33 a1) λd e =>
 z0 (z03 (z0e 43 b 0) e) λf g =>
 z0 (z0o g 4 f) λi j =>
 zP i (
 z0 (z03 (z0e 43 b 1) j) λk l =>
 z0 (z0o l 41 k) λm o =>
 z0 (z0o o 33 d) λp q =>
 z0q 19 [m,p] q (zS (λr s =>
 z0 (z03 (zm r 0) s) λt u =>
 z0 (z03 (zm r 1) u) λw y =>
 z0 (z0D y 50) λz A =>
 z0 (z0t A 50 z t) λ_ B =>
 z0 (z03 (z0s .eql 36 w (V.int .i64 0) true) B) λC D =>
 Q (.ret C) D) λv h=>Q (.panic v) h)) (
 z7 (zbY Q b d j))):z0q 60 [a0,a1] h Q :=
 mkC Tryz.func60 B60 N60 K60 R60 c
def B64:=bd Tryz.f64
def R64:List ResultVar:=[.tmp 6]
abbrev N64:=40
def K64:KT:=(sQ lF (sQ lF (sQ lF (jN (.rm [[5,9,27,31],[33,38]]) lF [6]) [0,1,5,7,9]) [0,1,5,7]) [0,1,5])
def z9L:Prop:=xG Pg N64 B64 K64 [1,1,1,1] [] (zn Pg R64 Q) [(6,x6)] h
def z4e:Prop:=yu Pg N64 B64 K64 [1,1,1,0] 4 2 [] (zn Pg R64 Q) [(33,x33),(38,x38)] h
def z2C:Prop:=yu Pg N64 B64 K64 [1,1,1,0] 2 1 [] (zn Pg R64 Q) [(5,x5),(9,x9),(27,x27),(31,x31)] h
theorem Ct:z9L Q x6 h=(
 Q (.ret x6) h):=K_
theorem Hb:z4e Q x33 x38 h=(
 z0 (yc x33 x38 (V.bool false) h) λb c =>
 z7 (z9L Q b c)):=K_
theorem Fi:z2C Q x5 x9 x27 x31 h=(
 z0 (yc x27 x31 (V.bool false) h) λb c =>
 vp b true (
 z0 (z0o c 33 x5) λd e =>
 z0q 112 [d] e (zS (λf g =>
 z0 (z03 (z0F g 56 47 f) g) λi j =>
 z0 (z03 (z0s .eql 47 x9 i false) j) λk l =>
 z7 (z4e Q b k l)) λv h=>Q (.panic v) h)) (z7 (z4e Q b yw c))):=K_
theorem C64 (c :
 z0 (z0G h 33 a2) λb c =>
 z0 (z03 (yC Pg c 33 b none none) c) λd e =>
 z0 (z03 (z0F e 154 9 d) e) λf g =>
 z0q 66 [f,(V.int .i64 1),(V.int .i64 2)] g (zS (λi j =>
 z0 (z03 (zm i 0) j) λk l =>
 z0 (z03 (zm i 1) l) λm o =>
 z0 (z03 (yC Pg o 33 b none none) o) λp q =>
 z0 (z03 (z0F q 154 9 p) q) λr s =>
 z0q 66 [r,(V.int .i64 3),(V.int .i64 4)] s (zS (λt u =>
 z0 (z03 (zm t 0) u) λw y =>
 z0 (z03 (zm t 1) y) λz A =>
 z0 (z03 (z0w 33 b (V.int .i64 0)) A) λB C =>
 z0 (z0o C 5 B) λD E =>
 z0 (z03 (z0s .eql 5 D a0 false) E) λF G =>
 vp F true (
 z0 (z03 (z0F G 41 47 a1) G) λH I =>
 z0 (z03 (z0s .eql 47 k H false) I) λJ K =>
 z7 (z2C Q b w F J K)) (z7 (z2C Q b w F yw G))) λv h=>Q (.panic v) h)) λv h=>Q (.panic v) h)):z0q 64 [a0,a1,a2] h Q :=
 mkC Tryz.func64 B64 N64 K64 R64 c
def B65:=bd Tryz.f65
def R65:List ResultVar:=[.tmp 2]
abbrev N65:=12
def K65:KT:=(sQ lF (sQ lF (sQ lF lF [2]) [3]) [1])
theorem C65 (c :
 z0 (z0G h 33 a0) λb c =>
 z0 (z03 (yC Pg c 33 b none none) c) λd e =>
 z0 (z03 (z0F e 154 9 d) e) λf g =>
 z0q 66 [f,(V.int .i64 7),(V.int .i64 8)] g (zS (λi j =>
 z0 (z03 (zm i 0) j) λk l =>
 z0 (z03 (zm i 1) l) λm o =>
 Q (.ret k) o) λv h=>Q (.panic v) h)):z0q 65 [a0] h Q :=
 mkC Tryz.func65 B65 N65 K65 R65 c
def B67:=bd Tryz.f67
def R67:List ResultVar:=[.tmp 2]
abbrev N67:=52
def K67:KT:=(sQ lF (jN (jN (.rm [[1,9,14],[1,9,14,24],[1,9,25]]) (.two (sQ lF lF [2]) lF) [1,26]) (jN (sQ lF (.one (.loop (sQ lF (jN (.two lF lF) (jN (.one (sQ lF (jN (.rm [[1,4,28,29,30,37,40],[1,28,29,30,42,46]]) (.two (sQ lF lF [2]) lF) [1,28,29,30,47]) [1,4,28,29,30])) lF [1,28,29,30]) [1,28,29,30]) [1,28,29,30,31]) [1,28,29,30])) [1,28,29,30]) (sQ lF lF [2]) [1]) [1]) [1])
def X67 (p:List Nat) (i g:Nat) (l:List Nat) (e:zJ):Prop:=yu Pg N67 B67 K67 p i g l (zn Pg R67 Q) e h
def W67 (p l:List Nat) (e:zJ):Prop:=xG Pg N67 B67 K67 p l (zn Pg R67 Q) e h
def z81:Prop:=W67 Q h [1,1,0,1,0,0,1,1,1] [n] [(1,x1),(28,x28),(29,x29),(30,x30)]
def zbU:Prop:=W67 Q h [1,1,0,1,0,0,1,1,0,0,1,1] [n] [(1,x1),(28,x28),(29,x29),(30,x30),(47,x47)]
def z3U:Prop:=X67 Q h [1,1,0,1,0,0,1,1,0,0,1,0] 4 2 [n] [(1,x1),(28,x28),(29,x29),(30,x30),(42,x42),(46,x46)]
def z4f:Prop:=X67 Q h [1,1,0,1,0,0,1,1,0,0,1,0] 2 1 [n] [(1,x1),(4,x4),(28,x28),(29,x29),(30,x30),(37,x37),(40,x40)]
def z6V:Prop:=W67 Q h [1,1,0,1,0,0,1,1] [n] [(1,x1),(28,x28),(29,x29),(30,x30)]
def zbn:Prop:=W67 Q h [1,1,1] [] [(1,x1)]
def Db:Prop:=xX Pg N67 B67 K67 [1,1,0,1,0] [] n (zn Pg R67 Q) [(1,x1),(28,x28),(29,x29),(30,x30)] h
def z23:Prop:=W67 Q h [1,1] [] [(1,x1)]
def zb1:Prop:=W67 Q h [1,0,1] [] [(1,x1),(26,x26)]
def z1M:Prop:=X67 Q h [1,0,0] 4 3 [] [(1,x1),(9,x9),(25,x25)]
def By:Prop:=X67 Q h [1,0,0] 3 2 [] [(1,x1),(9,x9),(14,x14),(24,x24)]
def z33:Prop:=X67 Q h [1,0,0] 2 1 [] [(1,x1),(9,x9),(14,x14)]
theorem Bq:z81 Q n x1 x28 x29 x30 h=(
 z0 (z03 (z0s .add 3 x30 (V.int .i64 1) true) h) λb c =>
 z7 (Db Q n x1 x28 x29 b c)):=K_
theorem Hl:zbU Q n x1 x28 x29 x30 x47 h=(
 zP x47 (
 Q (.ret (V.bool false)) h) (
 z7 (z81 Q n x1 x28 x29 x30 h))):=K_
theorem PJ:z3U Q n x1 x28 x29 x30 x42 x46 h=(
 z0 (yc x42 (V.bool true) x46 h) λb c =>
 z7 (zbU Q n x1 x28 x29 x30 b c)):=K_
theorem RA:z4f Q n x1 x4 x28 x29 x30 x37 x40 h=(
 z0 (yc x37 x40 (V.bool false) h) λb c =>
 vp b false (
 z0 (z03 (z0e 60 x4 4) c) λd e =>
 z0 (z0o e 9 d) λf g =>
 z0 (z0u g .len [9] [f]) λi j =>
 z0 (z03 (z0s .gtr 3 i (V.int .i64 66) true) j) λk l =>
 z7 (z3U Q n x1 x28 x29 x30 b k l)) (z7 (z3U Q n x1 x28 x29 x30 b yw c))):=K_
theorem Gy:z6V Q n x1 x28 x29 x30 h=(
 z0 (z03 (z0w 48 x28 x30) h) λb c =>
 z0 (z0o c 60 b) λd e =>
 z0 (z0D e 60) λf g =>
 z0 (z0t g 60 f d) λ_ i =>
 z0 (z03 (z0e 60 f 0) i) λj k =>
 z0 (z0o k 4 j) λl m =>
 z0 (z03 (qd .not l) m) λo p =>
 vp o true (
 z0 (z0o p 60 f) λq r =>
 z0 (z03 (z0y 60 []) r) λs t =>
 z0 (z03 (z0s .neq 60 q s false) t) λu w =>
 z7 (z4f Q n x1 f x28 x29 x30 o u w)) (z7 (z4f Q n x1 f x28 x29 x30 o yw p))):=K_
theorem DV:zbn Q x1 h=(
 z0 (z0o h 50 x1) λb c =>
 z0q 113 [b] c (zS (λd e =>
 z0 (z03 (z0s .leq 3 d (V.int .i64 224) true) e) λf g =>
 Q (.ret f) g) λv h=>Q (.panic v) h)):=K_
theorem RW:Db Q (n+1) x1 x28 x29 x30 h=(
 z0 (z03 (z0s .lss 3 x30 x29 false) h) λb c =>
 zP b (
 z7 (z6V Q n x1 x28 x29 x30 c)) (
 z7 (zbn Q x1 c))):=K_
theorem CO:z23 Q x1 h=(
 z0 (z03 (z0e 50 x1 1) h) λb c =>
 z0 (z0o c 48 b) λd e =>
 z0 (z0u e .len [48] [d]) λf g =>
 ∃ n,z7 (Db Q n x1 d f (V.int .i64 0) g)):=K_
theorem Em:zb1 Q x1 x26 h=(
 zP x26 (
 Q (.ret (V.bool false)) h) (
 z7 (z23 Q x1 h))):=K_
theorem Xh:z1M Q x1 x9 x25 h=(
 z0 (yc x9 (V.bool true) x25 h) λb c =>
 z7 (zb1 Q x1 b c)):=K_
theorem Ef:By Q x1 x9 x14 x24 h=(
 vp x9 false (
 z0 (yc x14 x24 (V.bool false) h) λb c =>
 z7 (z1M Q x1 x9 b c)) (z7 (z1M Q x1 x9 yw h))):=K_
theorem Xx:z33 Q x1 x9 x14 h=(
 vp x14 true (
 z0 (z03 (z0e 50 x1 1) h) λb c =>
 z0 (z0o c 48 b) λd e =>
 z0 (z03 (z0e 50 x1 1) e) λf g =>
 z0 (z0o g 48 f) λi j =>
 z0 (z0u j .len [48] [i]) λk l =>
 z0 (z03 (z0s .sub 3 k (V.int .i64 1) true) l) λm o =>
 z0 (z03 (z0w 48 d m) o) λp q =>
 z0 (z03 (z0e 60 p 0) q) λr s =>
 z0 (z0o s 4 r) λt u =>
 z0 (z03 (qd .not t) u) λw y =>
 z7 (By Q x1 x9 x14 w y)) (z7 (By Q x1 x9 x14 yw h))):=K_
theorem C67 (c :
 z0 (z0G h 50 a0) λb c =>
 z0 (z03 (z0e 50 b 1) c) λd e =>
 z0 (z0o e 48 d) λf g =>
 z0 (z0u g .len [48] [f]) λi j =>
 z0 (z03 (z0s .gtr 3 i (V.int .i64 15) true) j) λk l =>
 vp k false (
 z0 (z03 (z0e 50 b 1) l) λm o =>
 z0 (z0o o 48 m) λp q =>
 z0 (z0u q .len [48] [p]) λr s =>
 z0 (z03 (z0s .gtr 3 r (V.int .i64 0) true) s) λt u =>
 z7 (z33 Q b k t u)) (z7 (z33 Q b k yw l))):z0q 67 [a0] h Q :=
 mkC Tryz.func67 B67 N67 K67 R67 c
def B69:=bd Tryz.f69
def MW:List ResultVar:=[.cell 4 163,.tmp 5]
abbrev N69:=58
def K69:KT:=(sQ lF (jN (sQ lF (.two (sQ lF lF [4,5]) lF) [3,4,17]) (jN (sQ lF (.one (.loop (sQ lF (jN (.two lF lF) (jN (.one (sQ lF (sQ lF (.two (sQ lF lF [4,5]) lF) [3,4,19,20,21,26]) [3,4,7,19,20,21])) lF [3,4,19,20,21]) [3,4,19,20,21]) [3,4,19,20,21,22]) [3,4,19,20,21])) [3,4,19,20,21]) (sQ lF (sQ lF (sQ lF (sQ lF (sQ lF (sQ lF (sQ (.nG [3]) (sQ lF lF [4,5]) [4,9]) [3,4,9]) [3,4,9,12]) [3,4,9,10,12]) [3,4,8,9,10]) [3,4,8,9]) [3,4,8]) [3,4]) [3,4]) [0,3,4])
def W69 (p l:List Nat) (e:zJ):Prop:=xG Pg N69 B69 K69 p l (zn Pg MW Q) e h
def H7:Prop:=W69 Q h [1,1,0,1,0,0,1,1,1] [n] [(3,x3),(4,x4),(19,x19),(20,x20),(21,x21)]
def zc7:Prop:=W69 Q h [1,1,0,1,0,0,1,1] [n] [(3,x3),(4,x4),(19,x19),(20,x20),(21,x21)]
def z6n:Prop:=W69 Q h [1,1,1] [] [(3,x3),(4,x4)]
def MR:Prop:=xX Pg N69 B69 K69 [1,1,0,1,0] [] n (zn Pg MW Q) [(3,x3),(4,x4),(19,x19),(20,x20),(21,x21)] h
def z7o:Prop:=W69 Q h [1,1] [] [(3,x3),(4,x4)]
theorem FR:H7 Q n x3 x4 x19 x20 x21 h=(
 z0 (z03 (z0s .add 3 x21 (V.int .i64 1) true) h) λb c =>
 z7 (MR Q n x3 x4 x19 x20 b c)):=K_
theorem G7:zc7 Q n x3 x4 x19 x20 x21 h=(
 z0 (z03 (z0w 154 x19 x21) h) λb c =>
 z0 (z0o c 5 b) λd e =>
 z0 (z03 (z0s .neq 5 d (V.int .u8 0) true) e) λf g =>
 zP f (
 z0 (z03 (z0y 163 []) g) λi j =>
 z0 (z0t j 163 x4 i) λ_ k =>
 yq (zX Pg [(4,x4),(5,(V.int .i64 2))] k MW) λv=>Q (.ret v) k) (
 z7 (H7 Q n x3 x4 x19 x20 x21 g))):=K_
theorem E6:z6n Q x3 x4 h=(
 z0 (z03 (yC Pg h 33 x3 none none) h) λb c =>
 z0 (z03 (z0F c 154 9 b) c) λd e =>
 z0 (z0o e 33 x3) λf g =>
 z0q 65 [f] g (zS (λi j =>
 z0 (z03 (z0y 163 [(0,i)]) j) λk l =>
 z0 (z0D l 163) λm o =>
 z0 (z0t o 163 m k) λ_ p =>
 z0q 66 [d,(V.int .i64 15),(V.int .i64 4)] p (zS (λq r =>
 z0 (z03 (zm q 0) r) λs t =>
 z0 (z03 (zm q 1) t) λu w =>
 z0q 66 [d,(V.int .i64 19),(V.int .i64 2)] w (zS (λy z =>
 z0 (z03 (zm y 0) z) λA B =>
 z0 (z03 (zm y 1) B) λC D =>
 z0 (z03 (z0F D 47 56 s) D) λE F =>
 z0 (z03 (z0e 163 m 1) F) λG H =>
 z0 (z0t H 56 G E) λ_ I =>
 z0 (z03 (z0F I 47 41 A) I) λJ K =>
 z0 (z03 (z0w 33 x3 (V.int .i64 21)) K) λL M =>
 z0 (z0o M 5 L) λO P =>
 z0 (z03 (z0y 58 [(0,J),(1,O)]) P) λR S =>
 z0 (z03 (z0e 163 m 2) S) λT U =>
 z0 (z0t U 58 T R) λ_ W =>
 zc (zj (z03 (z0e 163 m 3) W)) λX =>
 zc (zj (z03 (yC Pg W 73 X none none) W)) λY =>
 (
 zc (zj (z03 (yC Pg W 33 x3 (some (V.int .i64 22)) none) W)) λZ =>
 (
 z0 (z0u W .copy [154,154] [Y,Z]) λba bb=>(
 z0 (z0o bb 163 m) λbc bd =>
 z0 (z0t bd 163 x4 bc) λ_ be =>
 yq (zX Pg [(4,x4),(5,(V.int .i64 0))] be MW) λv=>Q (.ret v) be)))) λv h=>Q (.panic v) h)) λv h=>Q (.panic v) h)) λv h=>Q (.panic v) h)):=K_
theorem XF:MR Q (n+1) x3 x4 x19 x20 x21 h=(
 z0 (z03 (z0s .lss 3 x21 x20 false) h) λb c =>
 zP b (
 z7 (zc7 Q n x3 x4 x19 x20 x21 c)) (
 z7 (z6n Q x3 x4 c))):=K_
theorem CP:z7o Q x3 x4 h=(
 z0 (z03 (yC Pg h 33 x3 (some (V.int .i64 86)) none) h) λb c =>
 z0 (z0u c .len [154] [b]) λd e =>
 ∃ n,z7 (MR Q n x3 x4 b d (V.int .i64 0) e)):=K_
theorem C69 (c :
 z0 (z0G h 33 a1) λb c =>
 z0 (z0D c 163) λd e =>
 z0 (z0o e 33 b) λf g =>
 z0q 64 [(V.int .u8 1),a0,f] g (zS (λi j =>
 z0 (z03 (qd .not i) j) λk l =>
 zP k (
 z0 (z03 (z0y 163 []) l) λm o =>
 z0 (z0t o 163 d m) λ_ p =>
 yq (zX Pg [(4,d),(5,(V.int .i64 2))] p MW) λv=>Q (.ret v) p) (
 z7 (z7o Q b d l))) λv h=>Q (.panic v) h)):z0q 69 [a0,a1] h Q :=
 mkC Tryz.func69 B69 N69 K69 MW c
def B96:=bd Tryz.f96
def Fu:List ResultVar:=[.cell 4 33,.tmp 5]
abbrev N96:=70
def K96:KT:=(sQ lF (jN (sQ lF (.two (sQ lF lF [4,5]) lF) [0,3,4,13]) (sQ lF (sQ lF (sQ lF (jN (sQ lF (.one (.loop (sQ lF (jN (.two lF lF) (jN (.one (sQ lF (sQ lF (jN (sQ lF (.two lF lF) [0,3,4,6,7,9,10,21,22,23,28]) lF [0,3,4,6,7,10,21,22,23]) [0,3,4,6,7,9,10,21,22,23]) [0,3,4,6,7,9,21,22,23])) lF [0,3,4,6,7,21,22,23]) [0,3,4,6,7,21,22,23]) [0,3,4,6,7,21,22,23,24]) [0,3,4,6,7,21,22,23])) [0,3,4,6,7,21,22,23]) (sQ lF lF [4,5]) [0,3,4,6]) [0,3,4,6,7]) [0,3,4,6]) [0,3,4,6]) [0,3,4]) [0,3,4])
def W96 (p l:List Nat) (e:zJ):Prop:=xG Pg N96 B96 K96 p l (zn Pg Fu Q) e h
def zdN:Prop:=W96 Q h [1,1,1,1,1,0,1,0,0,1,1,1] [n] [(0,x0),(3,x3),(4,x4),(6,x6),(7,x7),(21,x21),(22,x22),(23,x23)]
def z6j:Prop:=W96 Q h [1,1,1,1,1,0,1,0,0,1,1,0,0,1,1,1] [n] [(0,x0),(3,x3),(4,x4),(6,x6),(7,x7),(10,x10),(21,x21),(22,x22),(23,x23)]
def z6D:Prop:=W96 Q h [1,1,1,1,1,0,1,0,0,1,1] [n] [(0,x0),(3,x3),(4,x4),(6,x6),(7,x7),(21,x21),(22,x22),(23,x23)]
def z9I:Prop:=W96 Q h [1,1,1,1,1,1] [] [(0,x0),(3,x3),(4,x4),(6,x6)]
def z4w:Prop:=xX Pg N96 B96 K96 [1,1,1,1,1,0,1,0] [] n (zn Pg Fu Q) [(0,x0),(3,x3),(4,x4),(6,x6),(7,x7),(21,x21),(22,x22),(23,x23)] h
def zaJ:Prop:=W96 Q h [1,1] [] [(0,x0),(3,x3),(4,x4)]
theorem z4u:zdN Q n x0 x3 x4 x6 x7 x21 x22 x23 h=(
 z0 (z03 (z0s .add 3 x23 (V.int .i64 1) true) h) λb c =>
 z7 (z4w Q n x0 x3 x4 x6 x7 x21 x22 b c)):=K_
theorem Bb:z6j Q n x0 x3 x4 x6 x7 x10 x21 x22 x23 h=(
 z0 (z03 (yC Pg h 33 x6 (some x7) none) h) λb c =>
 z0 (z0u c .copy [154,9] [b,x10]) λd e =>
 z0 (z03 (z0s .add 3 x7 d false) e) λf g =>
 z7 (zdN Q n x0 x3 x4 x6 f x21 x22 x23 g)):=K_
theorem GN:z6D Q n x0 x3 x4 x6 x7 x21 x22 x23 h=(
 z0 (z03 (z0w 48 x21 x23) h) λb c =>
 z0 (z0o c 60 b) λd e =>
 z0 (z0D e 60) λf g =>
 z0 (z0t g 60 f d) λ_ i =>
 z0 (z03 (z0e 60 f 0) i) λj k =>
 z0 (z0o k 4 j) λl m =>
 zP l (
 zc (zj (z03 (z0e 60 f 1) m)) λo =>
 zc (zj (z0o m 41 o)) λp =>
 zc (zj (z03 (z0F m 41 47 p) m)) λq =>
 ∃ r,z0q 129 [q,(V.int .i64 2)] m (zO r m)/\(
 zc (zj (z03 (z0s .add 9 (V.str [1]) r true) m)) λs =>
 zc (zj (z03 (z0e 60 f 2) m)) λt =>
 zc (zj (z0o m 56 t)) λu =>
 zc (zj (z03 (z0F m 56 47 u) m)) λw =>
 ∃ y,z0q 129 [w,(V.int .i64 4)] m (zO y m)/\(
 zc (zj (z03 (z0s .add 9 s y false) m)) λz =>
 zc (zj (z03 (z0e 60 f 3) m)) λA =>
 zc (zj (z03 (z0e 58 A 0) m)) λB =>
 zc (zj (z0o m 41 B)) λC =>
 zc (zj (z03 (z0F m 41 47 C) m)) λD =>
 ∃ E,z0q 129 [D,(V.int .i64 2)] m (zO E m)/\(
 zc (zj (z03 (z0s .add 9 z E false) m)) λF =>
 zc (zj (z03 (z0e 60 f 3) m)) λG =>
 zc (zj (z03 (z0e 58 G 1) m)) λH =>
 zc (zj (z0o m 5 H)) λI =>
 zc (zj (z03 (z0e 60 f 4) m)) λJ =>
 zc (zj (z0o m 9 J)) λK =>
 zc (zj (z0u m .len [9] [K])) λL =>
 zc (zj (z03 (z0F m 3 5 L) m)) λM =>
 zc (oB Pg 154 2 [(0,I),(1,M)] 154 9) λO =>
 zc (zj (z03 (z0s .add 9 F O false) m)) λP =>
 zc (zj (z03 (z0e 60 f 4) m)) λR =>
 zc (zj (z0o m 9 R)) λS =>
 zc (zj (z03 (z0s .add 9 P S false) m)) λT =>
 z7 (z6j Q n x0 x3 x4 x6 x7 T x21 x22 x23 m))))) (
 z7 (z6j Q n x0 x3 x4 x6 x7 (V.str [0]) x21 x22 x23 m))):=K_
theorem HC:z9I Q x0 x3 x4 x6 h=(
 z0 (z03 (z0e 50 x3 0) h) λb c =>
 z0 (z0o c 47 b) λd e =>
 z0 (z0o e 33 x6) λf g =>
 z0q 137 [(V.int .u8 2),x0,d,f] g (zS (λi j =>
 z0 (z0t j 33 x4 i) λ_ k =>
 yq (zX Pg [(4,x4),(5,(V.int .i64 0))] k Fu) λv=>Q (.ret v) k) λv h=>Q (.panic v) h)):=K_
theorem z0X:z4w Q (n+1) x0 x3 x4 x6 x7 x21 x22 x23 h=(
 z0 (z03 (z0s .lss 3 x23 x22 false) h) λb c =>
 zP b (
 z7 (z6D Q n x0 x3 x4 x6 x7 x21 x22 x23 c)) (
 z7 (z9I Q x0 x3 x4 x6 c))):=K_
theorem FV:zaJ Q x0 x3 x4 h=(
 z0 (z0D h 33) λb c =>
 z0 (z03 (z0e 50 x3 1) c) λd e =>
 z0 (z0o e 48 d) λf g =>
 z0 (z0u g .len [48] [f]) λi j =>
 z0 (z03 (z0F j 3 5 i) j) λk l =>
 z0 (z03 (z0w 33 b (V.int .i64 15)) l) λm o =>
 z0 (z0t o 5 m k) λ_ p =>
 z0 (z03 (z0e 50 x3 1) p) λq r =>
 z0 (z0o r 48 q) λs t =>
 z0 (z0u t .len [48] [s]) λu w =>
 ∃ n,z7 (z4w Q n x0 x3 x4 b (V.int .i64 16) s u (V.int .i64 0) w)):=K_
theorem C96 (c :
 z0 (z0G h 50 a1) λb c =>
 z0 (z0D c 33) λd e =>
 z0 (z0o e 50 b) λf g =>
 z0q 67 [f] g (zS (λi j =>
 z0 (z03 (qd .not i) j) λk l =>
 zP k (
 z0 (z03 (z0y 33 []) l) λm o =>
 z0 (z0t o 33 d m) λ_ p =>
 yq (zX Pg [(4,d),(5,(V.int .i64 1))] p Fu) λv=>Q (.ret v) p) (
 z7 (zaJ Q a0 b d l))) λv h=>Q (.panic v) h)):z0q 96 [a0,a1] h Q :=
 mkC Tryz.func96 B96 N96 K96 Fu c
def B97:=bd Tryz.f97
def R97:List ResultVar:=[.cell 4 33]
abbrev N97:=32
def K97:KT:=(sQ lF (sQ lF (sQ (.nG [5]) (sQ (.nG [6]) (sQ lF (sQ (.nG [3]) (sQ lF lF [4]) [0,3,4,5]) [0,3,4,5]) [0,3,4,5]) [0,3,4,5]) [0,3,4,5]) [0,3,4])
theorem C97 (c :
 z0 (z0G h 163 a1) λb c =>
 z0 (z0D c 33) λd e =>
 z0 (z0D e 33) λf g =>
 zc (zj (z03 (yC Pg g 33 f (some (V.int .i64 15)) none) g)) λi =>
 (
 zc (zj (z03 (z0e 163 b 1) g)) λj =>
 zc (zj (z0o g 56 j)) λk =>
 (
 zc (zj (z03 (z0F g 56 47 k) g)) λl =>
 (
 ∃ m,z0q 129 [l,(V.int .i64 4)] g (zO m g)/\(
 (
 z0 (z0u g .copy [154,9] [i,m]) λo p=>(
 zc (zj (z03 (yC Pg p 33 f (some (V.int .i64 19)) none) p)) λq =>
 (
 zc (zj (z03 (z0e 163 b 2) p)) λr =>
 zc (zj (z03 (z0e 58 r 0) p)) λs =>
 zc (zj (z0o p 41 s)) λt =>
 (
 zc (zj (z03 (z0F p 41 47 t) p)) λu =>
 (
 ∃ w,z0q 129 [u,(V.int .i64 2)] p (zO w p)/\(
 (
 z0 (z0u p .copy [154,9] [q,w]) λy z=>(
 z0 (z03 (z0e 163 b 2) z) λA B =>
 z0 (z03 (z0e 58 A 1) B) λC D =>
 z0 (z0o D 5 C) λE F =>
 z0 (z03 (z0w 33 f (V.int .i64 21)) F) λG H =>
 z0 (z0t H 5 G E) λ_ I =>
 zc (zj (z03 (yC Pg I 33 f (some (V.int .i64 22)) none) I)) λJ =>
 (
 zc (zj (z03 (z0e 163 b 3) I)) λK =>
 zc (zj (z03 (yC Pg I 73 K none none) I)) λL =>
 (
 z0 (z0u I .copy [154,154] [J,L]) λM O=>(
 z0 (z03 (z0e 163 b 0) O) λP R =>
 z0 (z0o R 47 P) λS T =>
 z0 (z0o T 33 f) λU W =>
 z0q 137 [(V.int .u8 1),a0,S,U] W (zS (λX Y =>
 z0 (z0t Y 33 d X) λ_ Z =>
 yq (zX Pg [(4,d)] Z R97) λv=>Q (.ret v) Z) λv h=>Q (.panic v) h))))))))))))))))):z0q 97 [a0,a1] h Q :=
 mkC Tryz.func97 B97 N97 K97 R97 c
def B112:=bd Tryz.f112
def R112:List ResultVar:=[.tmp 2]
abbrev N112:=8
def K112:KT:=(sQ lF (sQ lF (sQ lF lF [2]) [1]) [1])
theorem C112 (c :
 z0 (z0G h 33 a0) λb c =>
 z0 (z03 (yC Pg c 33 b (some (V.int .i64 3)) (some (V.int .i64 7))) c) λd e =>
 z0 (z0u e .copy [154,9] [d,(V.str [0,0,0,0])]) λf g =>
 z0 (z03 (yC Pg g 33 b none none) g) λi j =>
 z0 (z03 (z0F j 154 9 i) j) λk l =>
 z0q 150 [k] l (zS (λm o =>
 Q (.ret m) o) λv h=>Q (.panic v) h)):z0q 112 [a0] h Q :=
 mkC Tryz.func112 B112 N112 K112 R112 c
def DE:=bd Tryz.f113
def z1W:List ResultVar:=[.tmp 2]
abbrev z2e:=25
def Ec:KT:=(sQ lF (sQ lF (jN (sQ lF (.one (.loop (sQ lF (jN (.two lF lF) (jN (.one (sQ lF (sQ lF (sQ lF (.two lF lF) [3,5,7,8,9,16]) [3,5,7,8,9]) [3,5,7,8,9])) lF [3,7,8,9]) [3,7,8,9]) [3,7,8,9,10]) [3,7,8,9])) [3,7,8,9]) (sQ lF lF [2]) [3]) [1,3]) [1])
def z4a (p l:List Nat) (e:zJ):Prop:=xG Pg z2e DE Ec p l (zn Pg z1W Q) e h
def za6:Prop:=z4a Q h [1,1,0,1,0,0,1,1,1] [n] [(3,x3),(7,x7),(8,x8),(9,x9)]
def zah:Prop:=z4a Q h [1,1,0,1,0,0,1,1] [n] [(3,x3),(7,x7),(8,x8),(9,x9)]
def z1A:Prop:=z4a Q h [1,1,1] [] [(3,x3)]
def D2:Prop:=xX Pg z2e DE Ec [1,1,0,1,0] [] n (zn Pg z1W Q) [(3,x3),(7,x7),(8,x8),(9,x9)] h
theorem Qf:za6 Q n x3 x7 x8 x9 h=(
 z0 (z03 (z0s .add 3 x9 (V.int .i64 1) true) h) λb c =>
 z7 (D2 Q n x3 x7 x8 b c)):=K_
theorem Ed:zah Q n x3 x7 x8 x9 h=(
 z0 (z03 (z0w 48 x7 x9) h) λb c =>
 z0 (z0o c 60 b) λd e =>
 z0 (z0D e 60) λf g =>
 z0 (z0t g 60 f d) λ_ i =>
 z0 (z03 (z0s .add 3 x3 (V.int .i64 1) true) i) λj k =>
 z0 (z03 (z0e 60 f 0) k) λl m =>
 z0 (z0o m 4 l) λo p =>
 zP o (
 z0 (z03 (z0e 60 f 4) p) λq r =>
 z0 (z0o r 9 q) λs t =>
 z0 (z0u t .len [9] [s]) λu w =>
 z0 (z03 (z0s .add 3 (V.int .i64 10) u true) w) λy z =>
 z0 (z03 (z0s .add 3 j y false) z) λA B =>
 z7 (za6 Q n A x7 x8 x9 B)) (
 z7 (za6 Q n j x7 x8 x9 p))):=K_
theorem P6:z1A Q x3 h=(
 Q (.ret x3) h):=K_
theorem Gq:D2 Q (n+1) x3 x7 x8 x9 h=(
 z0 (z03 (z0s .lss 3 x9 x8 false) h) λb c =>
 zP b (
 z7 (zah Q n x3 x7 x8 x9 c)) (
 z7 (z1A Q x3 c))):=K_
theorem C113 (c :
 z0 (z0G h 50 a0) λb c =>
 z0 (z03 (z0e 50 b 1) c) λd e =>
 z0 (z0o e 48 d) λf g =>
 z0 (z0u g .len [48] [f]) λi j =>
 ∃ n,z7 (D2 Q n (V.int .i64 16) f i (V.int .i64 0) j)):z0q 113 [a0] h Q :=
 mkC Tryz.func113 DE z2e Ec z1W c
def B137:=bd Tryz.f137
def Ic:List ResultVar:=[.cell 8 33]
abbrev N137:=27
def K137:KT:=(sQ lF (sQ lF (sQ (.nG [4]) (sQ (.nG [3]) (sQ (.nG [5]) (sQ lF lF [8]) [7,8]) [7,8]) [2,7,8]) [1,2,7,8]) [0,1,2,7,8])
theorem C137 (c :
 z0 (z0G h 33 a3) λb c =>
 z0 (z0D c 33) λd e =>
 z0 (z03 (z0w 33 b (V.int .i64 0)) e) λf g =>
 z0 (z0t g 5 f a0) λ_ i =>
 zc (zj (z03 (yC Pg i 33 b (some (V.int .i64 1)) none) i)) λj =>
 (
 zc (zj (z03 (z0F i 41 47 a1) i)) λk =>
 (
 ∃ l,z0q 129 [k,(V.int .i64 2)] i (zO l i)/\(
 (
 z0 (z0u i .copy [154,9] [j,l]) λm o=>(
 zc (zj (z03 (yC Pg o 33 b (some (V.int .i64 7)) none) o)) λp =>
 (
 ∃ q,z0q 129 [a2,(V.int .i64 8)] o (zO q o)/\(
 (
 z0 (z0u o .copy [154,9] [p,q]) λr s=>(
 zc (zj (z03 (yC Pg s 33 b (some (V.int .i64 3)) none) s)) λt =>
 (
 zc (zj (z0o s 33 b)) λu =>
 (
 ∃ w,z0q 112 [u] s (zO w s)/\(
 (
 zc (zj (z03 (z0F s 56 47 w) s)) λy =>
 (
 ∃ z,z0q 129 [y,(V.int .i64 4)] s (zO z s)/\(
 (
 z0 (z0u s .copy [154,9] [t,z]) λA B=>(
 z0 (z0o B 33 b) λC D =>
 z0 (z0t D 33 d C) λ_ E =>
 yq (zX Pg [(8,d)] E Ic) λv=>Q (.ret v) E)))))))))))))))))):z0q 137 [a0,a1,a2,a3] h Q :=
 mkC Tryz.func137 B137 N137 K137 Ic c
end
end
section
open Go Go.Ab Go.RowKit
open Go.Proofs.YtdbgifdfdhhjcaaGreat.Ru (Pg yL)
set_option maxRecDepth 100000
noncomputable section
variable (Q:yO->AH->Prop) (ds:List AD) (n n1 n2:Nat) (x0 x1 x2 x8 x9 x12 x14 x16 x18 x20 x24 x26 x32 x33:V) (a0 a1 a2:V) (h:AH)
def B66:=bd Tryz.f66
def R66:List ResultVar:=[.tmp 6,.tmp 7]
abbrev N66:=50
def K66:KT:=(sQ lF (jN (jN (.rm [[0,1,2,12,14],[0,1,2,16,18],[0,1,2,20,24],[0,1,2,26,32]]) (.two (sQ lF lF [6,7]) lF) [0,1,2,33]) (sQ lF (jN (sQ lF (.one (.loop (jN (sQ lF (.two lF lF) [0,1,8,9,37]) (jN (.one lF) lF [0,1,8,9]) [0,1,8,9]) [0,1,8,9])) [0,1,8,9]) (sQ lF lF [6,7]) [8]) [0,1,2,8]) [0,1,2]) [0,1,2])
def X66 (p:List Nat) (i g:Nat) (l:List Nat) (e:zJ):Prop:=yu Pg N66 B66 K66 p i g l (zn Pg R66 Q) e h
def W66 (p l:List Nat) (e:zJ):Prop:=xG Pg N66 B66 K66 p l (zn Pg R66 Q) e h
def z7c:Prop:=W66 Q h [1,1,1,0,1,0,0,1,1] [n] [(0,x0),(1,x1),(8,x8),(9,x9)]
def zbh:Prop:=W66 Q h [1,1,1,0,1,0,0,1] [n] [(0,x0),(1,x1),(8,x8),(9,x9)]
def z9k:Prop:=W66 Q h [1,1,1,1] [] [(8,x8)]
def Bc:Prop:=xX Pg N66 B66 K66 [1,1,1,0,1,0] [] n (zn Pg R66 Q) [(0,x0),(1,x1),(8,x8),(9,x9)] h
def z1R:Prop:=W66 Q h [1,1] [] [(0,x0),(1,x1),(2,x2)]
def z78:Prop:=W66 Q h [1,0,1] [] [(0,x0),(1,x1),(2,x2),(33,x33)]
def z4k:Prop:=X66 Q h [1,0,0] 8 4 [] [(0,x0),(1,x1),(2,x2),(26,x26),(32,x32)]
def z3F:Prop:=X66 Q h [1,0,0] 6 3 [] [(0,x0),(1,x1),(2,x2),(20,x20),(24,x24)]
def z2Z:Prop:=X66 Q h [1,0,0] 4 2 [] [(0,x0),(1,x1),(2,x2),(16,x16),(18,x18)]
def z1v:Prop:=X66 Q h [1,0,0] 2 1 [] [(0,x0),(1,x1),(2,x2),(12,x12),(14,x14)]
theorem H3:z7c Q n x0 x1 x8 x9 h=(
 z0 (z03 (z0s .sub 3 x9 (V.int .i64 1) true) h) λb c =>
 z7 (Bc Q n x0 x1 x8 b c)):=K_
theorem QW:zbh Q n x0 x1 x8 x9 h=(
 z0 (z03 (z0s .shl 47 x8 (V.int .u64 8) true) h) λb c =>
 z0 (z03 (z0s .add 3 x1 x9 false) c) λd e =>
 z0 (z03 (vN Pg 9 x0 d) e) λf g =>
 z0 (z03 (z0F g 5 47 f) g) λi j =>
 z0 (z03 (z0s .or 47 b i false) j) λk l =>
 z7 (z7c Q n x0 x1 k x9 l)):=K_
theorem Hh:z9k Q x8 h=(
 Q (.ret (V.yX [x8,(V.bool true)])) h):=K_
theorem QI:Bc Q (n+1) x0 x1 x8 x9 h=(
 z0 (z03 (z0s .geq 3 x9 (V.int .i64 0) true) h) λb c =>
 zP b (
 z7 (zbh Q n x0 x1 x8 x9 c)) (
 z7 (z9k Q x8 c))):=K_
theorem GL:z1R Q x0 x1 x2 h=(
 z0 (z03 (z0s .sub 3 x2 (V.int .i64 1) true) h) λb c =>
 ∃ n,z7 (Bc Q n x0 x1 (V.int .u64 0) b c)):=K_
theorem DO:z78 Q x0 x1 x2 x33 h=(
 zP x33 (
 Q (.ret (V.yX [(V.int .u64 0),(V.bool false)])) h) (
 z7 (z1R Q x0 x1 x2 h))):=K_
theorem Wu:z4k Q x0 x1 x2 x26 x32 h=(
 z0 (yc x26 (V.bool true) x32 h) λb c =>
 z7 (z78 Q x0 x1 x2 b c)):=K_
theorem z0T:z3F Q x0 x1 x2 x20 x24 h=(
 z0 (yc x20 (V.bool true) x24 h) λb c =>
 vp b false (
 z0 (z0u c .len [9] [x0]) λd e =>
 z0 (z03 (z0s .sub 3 d x1 false) e) λf g =>
 z0 (z03 (z0s .gtr 3 x2 f false) g) λi j =>
 z7 (z4k Q x0 x1 x2 b i j)) (z7 (z4k Q x0 x1 x2 b yw c))):=K_
theorem Qq:z2Z Q x0 x1 x2 x16 x18 h=(
 z0 (yc x16 (V.bool true) x18 h) λb c =>
 vp b false (
 z0 (z0u c .len [9] [x0]) λd e =>
 z0 (z03 (z0s .gtr 3 x1 d false) e) λf g =>
 z7 (z3F Q x0 x1 x2 b f g)) (z7 (z3F Q x0 x1 x2 b yw c))):=K_
theorem RZ:z1v Q x0 x1 x2 x12 x14 h=(
 z0 (yc x12 (V.bool true) x14 h) λb c =>
 vp b false (
 z0 (z03 (z0s .lss 3 x1 (V.int .i64 0) true) c) λd e =>
 z7 (z2Z Q x0 x1 x2 b d e)) (z7 (z2Z Q x0 x1 x2 b yw c))):=K_
theorem C66 (c :
 z0 (z03 (z0s .lss 3 a2 (V.int .i64 0) true) h) λb c =>
 vp b false (
 z0 (z03 (z0s .gtr 3 a2 (V.int .i64 8) true) c) λd e =>
 z7 (z1v Q a0 a1 a2 b d e)) (z7 (z1v Q a0 a1 a2 b yw c))):z0q 66 [a0,a1,a2] h Q :=
 mkC Tryz.func66 B66 N66 K66 R66 c
def ZX:=bd Tryz.f129
def ZR:List ResultVar:=[.tmp 4]
abbrev ZZ:=31
def B150:=bd Tryz.f150
def R150:List ResultVar:=[.tmp 2]
abbrev N150:=5
def K150:KT:=(sQ lF (sQ lF lF [2]) [0])
theorem C150 (c :
 z0q 160 [(V.int .u32 0),a0] h (zS (λb c =>
 Q (.ret b) c) λv h=>Q (.panic v) h)):z0q 150 [a0] h Q :=
 mkC Tryz.func150 B150 N150 K150 R150 c
end
end
section
open Go Go.Ab Go.RowKit
open Go.Proofs.YtdbgifdfdhhjcaaGreat.Ru (Pg yL)
set_option maxRecDepth 100000
noncomputable section
variable (Q:yO->AH->Prop) (ds:List AD) (n n1 n2:Nat) (x0 x1 x2 x3 x4 x5 x6 x7 x8 x9 x10 x11 x12 x22:V) (a0 a1 a2:V) (h:AH)
def B43:=bd Tryz.f43
def R43:List ResultVar:=[.cell 4 111]
abbrev N43:=38
def K43:KT:=(sQ lF (sQ lF (jN (sQ lF (.one (.loop (sQ lF (jN (.two lF lF) (jN (.one (sQ lF (sQ lF (sQ (.nG [7]) (sQ lF (.one (.loop (sQ lF (jN (.two lF lF) (jN (.one (sQ lF lF [0,3,4,5,7,8,9,22])) lF [0,3,4,5,7,9,22]) [0,3,4,5,7,9,22]) [0,3,4,5,7,9,22,23]) [0,3,4,5,7,9,22])) [0,3,4,5,7,9,22]) [0,3,4,5,7,9]) [0,3,4,5,6,7,9]) [0,3,4,5,6,9])) lF [0,3,4,5,9]) [0,3,4,5,9]) [0,3,4,5,9,10]) [0,3,4,5,9])) [0,3,4,5,9]) (sQ lF lF [4]) [4,5]) [0,3,4,5]) [0,3,4])
def W43 (p l:List Nat) (e:zJ):Prop:=xG Pg N43 B43 K43 p l (zn Pg R43 Q) e h
def zaI:Prop:=W43 Q h [1,1,0,1,0,0,1,1,0,0,1,1,1,1,0,0,1,1,1] [n,n1] [(0,x0),(3,x3),(4,x4),(5,x5),(7,x7),(9,x9),(22,x22)]
def z92:Prop:=W43 Q h [1,1,0,1,0,0,1,1,0,0,1,1,1,1,0,0,1,1] [n,n1] [(0,x0),(3,x3),(4,x4),(5,x5),(7,x7),(9,x9),(22,x22)]
def za9:Prop:=W43 Q h [1,1,0,1,0,0,1,1,1] [n] [(0,x0),(3,x3),(4,x4),(5,x5),(9,x9)]
def FY:Prop:=xX Pg N43 B43 K43 [1,1,0,1,0,0,1,1,0,0,1,1,1,1,0] [n] n1 (zn Pg R43 Q) [(0,x0),(3,x3),(4,x4),(5,x5),(7,x7),(9,x9),(22,x22)] h
def z7z:Prop:=W43 Q h [1,1,0,1,0,0,1,1] [n] [(0,x0),(3,x3),(4,x4),(5,x5),(9,x9)]
def z8P:Prop:=W43 Q h [1,1,1] [] [(4,x4),(5,x5)]
def Gz:Prop:=xX Pg N43 B43 K43 [1,1,0,1,0] [] n (zn Pg R43 Q) [(0,x0),(3,x3),(4,x4),(5,x5),(9,x9)] h
theorem FX:zaI Q n n1 x0 x3 x4 x5 x7 x9 x22 h=(
 z0 (z03 (z0s .add 3 x22 (V.int .i64 1) true) h) λb c =>
 z7 (FY Q n n1 x0 x3 x4 x5 x7 x9 b c)):=K_
theorem Hy:z92 Q n n1 x0 x3 x4 x5 x7 x9 x22 h=(
 z0 (z03 (z0s .add 3 x7 (V.int .i64 56) true) h) λb c =>
 z0 (z03 (z0s .add 3 b x22 false) c) λd e =>
 z0 (z03 (z0s .mul 3 (V.int .i64 8) x22 true) e) λf g =>
 z0 (z03 (z0s .shr 47 x0 f false) g) λi j =>
 z0 (z03 (z0F j 47 5 i) j) λk l =>
 z0 (z03 (z0w 111 x5 d) l) λm o =>
 z0 (z0t o 5 m k) λ_ p =>
 z7 (zaI Q n n1 x0 x3 x4 x5 x7 x9 x22 p)):=K_
theorem Do:za9 Q n x0 x3 x4 x5 x9 h=(
 z0 (z03 (z0s .add 3 x9 (V.int .i64 1) true) h) λb c =>
 z7 (Gz Q n x0 x3 x4 x5 b c)):=K_
theorem PX:FY Q n (n1+1) x0 x3 x4 x5 x7 x9 x22 h=(
 z0 (z03 (z0s .lss 3 x22 (V.int .i64 8) true) h) λb c =>
 zP b (
 z7 (z92 Q n n1 x0 x3 x4 x5 x7 x9 x22 c)) (
 z7 (za9 Q n x0 x3 x4 x5 x9 c))):=K_
theorem FT:z7z Q n x0 x3 x4 x5 x9 h=(
 z0 (z03 (z0s .mul 3 x9 (V.int .i64 64) true) h) λb c =>
 zc (zj (z03 (z0s .add 3 b (V.int .i64 56) true) c)) λd =>
 zc (zj (z03 (yC Pg c 111 x5 (some b) (some d)) c)) λe =>
 (
 zc (zj (z03 (z0s .mul 3 x9 (V.int .i64 56) true) c)) λf =>
 zc (zj (z03 (yC Pg c 33 x3 (some f) none) c)) λg =>
 (
 z0 (z0u c .copy [154,154] [e,g]) λi j=>(
 ∃ n1,z7 (FY Q n n1 x0 x3 x4 x5 b x9 (V.int .i64 0) j))))):=K_
theorem Fo:z8P Q x4 x5 h=(
 z0 (z0o h 111 x5) λb c =>
 z0 (z0t c 111 x4 b) λ_ d =>
 yq (zX Pg [(4,x4)] d R43) λv=>Q (.ret v) d):=K_
theorem QQ:Gz Q (n+1) x0 x3 x4 x5 x9 h=(
 z0 (z03 (z0s .lss 3 x9 (V.int .i64 4) true) h) λb c =>
 zP b (
 z7 (z7z Q n x0 x3 x4 x5 x9 c)) (
 z7 (z8P Q x4 x5 c))):=K_
theorem C43 (c :
 z0 (z0G h 33 a1) λb c =>
 z0 (z0D c 111) λd e =>
 z0 (z0D e 111) λf g =>
 ∃ n,z7 (Gz Q n a0 b d f (V.int .i64 0) g)):z0q 43 [a0,a1] h Q :=
 mkC Tryz.func43 B43 N43 K43 R43 c
def B59:=bd Tryz.f59
def JB:List ResultVar:=[.tmp 2,.cell 3 33,.tmp 4]
abbrev N59:=49
def K59:KT:=(sQ lF (sQ lF (sQ lF (jN (sQ lF (.one (.loop (sQ lF (jN (.two lF lF) (jN (.one (sQ lF (sQ lF (sQ lF (jN (sQ lF (.one (.loop (jN (sQ lF (.two lF lF) [1,3,5,6,7,8,9,10,11,17]) (jN (.one lF) lF [1,3,5,6,7,8,9,10,11]) [1,3,5,6,7,8,9,10,11]) [1,3,5,6,7,8,9,10,11])) [1,3,5,6,7,8,9,10,11]) (jN (sQ lF (.two lF lF) [1,3,5,6,7,8,9,11,31]) (jN (sQ lF (.two (sQ lF lF [2,3,4]) lF) [1,3,5,6,7,8,11,35]) (.nG [8]) [1,3,5,6,7,8,11]) [1,3,5,6,7,8,9,11]) [1,3,5,6,7,8,9,11]) [1,3,5,6,7,8,9,11]) [1,3,5,6,7,8,11]) [1,3,5,6,7,11])) lF [1,3,5,6,11]) [1,3,5,6,11]) [1,3,5,6,11,12]) [1,3,5,6,11])) [1,3,5,6,11]) (sQ (.nG [3]) lF [2,3,4]) [3,5,6]) [1,3,5,6]) [1,3,5]) [1,3])
def Ao (p l:List Nat) (e:zJ):Prop:=xG Pg N59 B59 K59 p l (zn Pg JB Q) e h
def z8p:Prop:=Ao Q h [1,1,1,0,1,0,0,1,1,0,0,1,1,1,0,1,0,0,1,1] [n,n1] [(1,x1),(3,x3),(5,x5),(6,x6),(7,x7),(8,x8),(9,x9),(10,x10),(11,x11)]
def z6c:Prop:=Ao Q h [1,1,1,0,1,0,0,1,1,0,0,1,1,1,0,1,0,0,1] [n,n1] [(1,x1),(3,x3),(5,x5),(6,x6),(7,x7),(8,x8),(9,x9),(10,x10),(11,x11)]
def z8R:Prop:=Ao Q h [1,1,1,0,1,0,0,1,1,1] [n] [(1,x1),(3,x3),(5,x5),(6,x6),(11,x11)]
def z7k:Prop:=Ao Q h [1,1,1,0,1,0,0,1,1,0,0,1,1,1,1,1,1] [n] [(1,x1),(3,x3),(5,x5),(6,x6),(7,x7),(8,x8),(11,x11)]
def z3O:Prop:=Ao Q h [1,1,1,0,1,0,0,1,1,0,0,1,1,1,1,1] [n] [(1,x1),(3,x3),(5,x5),(6,x6),(7,x7),(8,x8),(9,x9),(11,x11)]
def zbb:Prop:=Ao Q h [1,1,1,0,1,0,0,1,1,0,0,1,1,1,1] [n] [(1,x1),(3,x3),(5,x5),(6,x6),(7,x7),(8,x8),(9,x9),(11,x11)]
def FP:Prop:=xX Pg N59 B59 K59 [1,1,1,0,1,0,0,1,1,0,0,1,1,1,0,1,0] [n] n1 (zn Pg JB Q) [(1,x1),(3,x3),(5,x5),(6,x6),(7,x7),(8,x8),(9,x9),(10,x10),(11,x11)] h
def z9x:Prop:=Ao Q h [1,1,1,0,1,0,0,1,1] [n] [(1,x1),(3,x3),(5,x5),(6,x6),(11,x11)]
def z2g:Prop:=Ao Q h [1,1,1,1] [] [(3,x3),(5,x5),(6,x6)]
def Ky:Prop:=xX Pg N59 B59 K59 [1,1,1,0,1,0] [] n (zn Pg JB Q) [(1,x1),(3,x3),(5,x5),(6,x6),(11,x11)] h
theorem CZ:z8p Q n n1 x1 x3 x5 x6 x7 x8 x9 x10 x11 h=(
 z0 (z03 (z0s .sub 3 x10 (V.int .i64 1) true) h) λb c =>
 z7 (FP Q n n1 x1 x3 x5 x6 x7 x8 x9 b x11 c)):=K_
theorem Io:z6c Q n n1 x1 x3 x5 x6 x7 x8 x9 x10 x11 h=(
 z0 (z03 (z0s .shl 47 x9 (V.int .u64 8) true) h) λb c =>
 z0 (z03 (z0s .add 3 x8 (V.int .i64 56) true) c) λd e =>
 z0 (z03 (z0s .add 3 d x10 false) e) λf g =>
 z0 (z03 (z0w 111 x1 f) g) λi j =>
 z0 (z0o j 5 i) λk l =>
 z0 (z03 (z0F l 5 47 k) l) λm o =>
 z0 (z03 (z0s .or 47 b m false) o) λp q =>
 z7 (z8p Q n n1 x1 x3 x5 x6 x7 x8 p x10 x11 q)):=K_
theorem Cr:z8R Q n x1 x3 x5 x6 x11 h=(
 z0 (z03 (z0s .add 3 x11 (V.int .i64 1) true) h) λb c =>
 z7 (Ky Q n x1 x3 x5 x6 b c)):=K_
theorem G0:z7k Q n x1 x3 x5 x6 x7 x8 x11 h=(
 zc (zj (z03 (z0s .mul 3 x7 (V.int .i64 56) true) h)) λb =>
 zc (zj (z03 (z0s .add 3 x7 (V.int .i64 1) true) h)) λc =>
 zc (zj (z03 (z0s .mul 3 c (V.int .i64 56) true) h)) λd =>
 zc (zj (z03 (yC Pg h 33 x5 (some b) (some d)) h)) λe =>
 (
 zc (zj (z03 (yC Pg h 111 x1 (some x8) none) h)) λf =>
 (
 z0 (z0u h .copy [154,154] [e,f]) λg i=>(
 z7 (z8R Q n x1 x3 x5 x6 x11 i))))):=K_
theorem Hu:z3O Q n x1 x3 x5 x6 x7 x8 x9 x11 h=(
 z0 (z03 (z0s .neq 47 x9 x6 false) h) λb c =>
 zP b (
 z0 (z03 (z0y 33 []) c) λd e =>
 z0 (z0t e 33 x3 d) λ_ f =>
 yq (zX Pg [(2,(V.int .u64 0)),(3,x3),(4,(V.bool false))] f JB) λv=>Q (.ret v) f) (
 z7 (z7k Q n x1 x3 x5 x6 x7 x8 x11 c))):=K_
theorem CU:zbb Q n x1 x3 x5 x6 x7 x8 x9 x11 h=(
 z0 (z03 (z0s .eql 3 x7 (V.int .i64 0) true) h) λb c =>
 zP b (
 z7 (z3O Q n x1 x3 x5 x9 x7 x8 x9 x11 c)) (
 z7 (z3O Q n x1 x3 x5 x6 x7 x8 x9 x11 c))):=K_
theorem RR:FP Q n (n1+1) x1 x3 x5 x6 x7 x8 x9 x10 x11 h=(
 z0 (z03 (z0s .geq 3 x10 (V.int .i64 0) true) h) λb c =>
 zP b (
 z7 (z6c Q n n1 x1 x3 x5 x6 x7 x8 x9 x10 x11 c)) (
 z7 (zbb Q n x1 x3 x5 x6 x7 x8 x9 x11 c))):=K_
theorem CS:z9x Q n x1 x3 x5 x6 x11 h=(
 z0 (z03 (z0s .mul 3 x11 (V.int .i64 64) true) h) λb c =>
 ∃ n1,z7 (FP Q n n1 x1 x3 x5 x6 x11 b (V.int .u64 0) (V.int .i64 7) x11 c)):=K_
theorem B9:z2g Q x3 x5 x6 h=(
 zc (zj (z0o h 33 x5)) λb =>
 (
 z0 (z0t h 33 x3 b) λ_ c=>(
 yq (zX Pg [(2,x6),(3,x3),(4,(V.bool true))] c JB) λv=>Q (.ret v) c))):=K_
theorem JZ:Ky Q (n+1) x1 x3 x5 x6 x11 h=(
 z0 (z03 (z0s .lss 3 x11 (V.int .i64 4) true) h) λb c =>
 zP b (
 z7 (z9x Q n x1 x3 x5 x6 x11 c)) (
 z7 (z2g Q x3 x5 x6 c))):=K_
theorem C59 (c :
 z0 (z0G h 111 a0) λb c =>
 z0 (z0D c 33) λd e =>
 z0 (z0D e 33) λf g =>
 ∃ n,z7 (Ky Q n b d f (V.int .u64 0) (V.int .i64 0) g)):z0q 59 [a0] h Q :=
 mkC Tryz.func59 B59 N59 K59 JB c
def B95:=bd Tryz.f95
def R95:List ResultVar:=[.cell 4 199]
abbrev N95:=18
def K95:KT:=(sQ lF (sQ lF (jN (jN (.rm [[1,2,4,5,8,10]]) (.two (.nG [4]) lF) [1,2,4,5,11]) (sQ lF lF [4]) [4,5]) [1,2,4,5]) [1,2,4])
def W95 (p l:List Nat) (e:zJ):Prop:=xG Pg N95 B95 K95 p l (zn Pg R95 Q) e h
def z6l:Prop:=W95 Q h [1,1,1] [] [(4,x4),(5,x5)]
def B5:Prop:=W95 Q h [1,1,0,1] [] [(1,x1),(2,x2),(4,x4),(5,x5),(11,x11)]
def z37:Prop:=yu Pg N95 B95 K95 [1,1,0,0] 2 1 [] (zn Pg R95 Q) [(1,x1),(2,x2),(4,x4),(5,x5),(8,x8),(10,x10)] h
theorem H9:z6l Q x4 x5 h=(
 z0 (z0o h 199 x5) λb c =>
 z0 (z0t c 199 x4 b) λ_ d =>
 yq (zX Pg [(4,x4)] d R95) λv=>Q (.ret v) d):=K_
theorem ER:B5 Q x1 x2 x4 x5 x11 h=(
 zP x11 (
 zc (zj (z03 (yC Pg h 199 x5 none none) h)) λb =>
 (
 zc (zj (z03 (z0s .mul 3 x1 (V.int .i64 64) true) h)) λc =>
 zc (zj (z03 (yC Pg h 111 x2 (some c) none) h)) λd =>
 (
 z0 (z0u h .copy [154,154] [b,d]) λe f=>(
 z7 (z6l Q x4 x5 f))))) (
 z7 (z6l Q x4 x5 h))):=K_
theorem iz:z37 Q x1 x2 x4 x5 x8 x10 h=(
 z0 (yc x8 x10 (V.bool false) h) λb c =>
 z7 (B5 Q x1 x2 x4 x5 b c)):=K_
theorem C95 (c :
 z0 (z0G h 111 a0) λb c =>
 z0 (z0D c 199) λd e =>
 z0 (z0D e 199) λf g =>
 z0 (z03 (z0s .geq 3 a1 (V.int .i64 0) true) g) λi j =>
 vp i true (
 z0 (z03 (z0s .lss 3 a1 (V.int .i64 4) true) j) λk l =>
 z7 (z37 Q a1 b d f i k l)) (z7 (z37 Q a1 b d f i yw j))):z0q 95 [a0,a1] h Q :=
 mkC Tryz.func95 B95 N95 K95 R95 c
def Ge:=bd Tryz.f149
def OR:List ResultVar:=[.cell 6 111]
abbrev z2k:=19
def HK:KT:=(sQ lF (jN (jN (.rm [[1,3,5,6,9,11]]) (.two (.nG [4]) lF) [1,3,5,6,12]) (sQ lF lF [6]) [3,6]) [1,3,5,6])
def z94 (p l:List Nat) (e:zJ):Prop:=xG Pg z2k Ge HK p l (zn Pg OR Q) e h
def z69:Prop:=z94 Q h [1,1] [] [(3,x3),(6,x6)]
def In:Prop:=z94 Q h [1,0,1] [] [(1,x1),(3,x3),(5,x5),(6,x6),(12,x12)]
def Gzg:Prop:=yu Pg z2k Ge HK [1,0,0] 2 1 [] (zn Pg OR Q) [(1,x1),(3,x3),(5,x5),(6,x6),(9,x9),(11,x11)] h
theorem Cq:z69 Q x3 x6 h=(
 z0 (z0o h 111 x3) λb c =>
 z0 (z0t c 111 x6 b) λ_ d =>
 yq (zX Pg [(6,x6)] d OR) λv=>Q (.ret v) d):=K_
theorem GO:In Q x1 x3 x5 x6 x12 h=(
 zP x12 (
 zc (zj (z03 (z0s .mul 3 x1 (V.int .i64 64) true) h)) λb =>
 zc (zj (z03 (yC Pg h 111 x3 (some b) none) h)) λc =>
 (
 zc (zj (z03 (yC Pg h 199 x5 none none) h)) λd =>
 (
 z0 (z0u h .copy [154,154] [c,d]) λe f=>(
 z7 (z69 Q x3 x6 f))))) (
 z7 (z69 Q x3 x6 h))):=K_
theorem z1w:Gzg Q x1 x3 x5 x6 x9 x11 h=(
 z0 (yc x9 x11 (V.bool false) h) λb c =>
 z7 (In Q x1 x3 x5 x6 b c)):=K_
theorem C149 (c :
 z0 (z0G h 111 a0) λb c =>
 z0 (z0G c 199 a2) λd e =>
 z0 (z0D e 111) λf g =>
 z0 (z03 (z0s .geq 3 a1 (V.int .i64 0) true) g) λi j =>
 vp i true (
 z0 (z03 (z0s .lss 3 a1 (V.int .i64 4) true) j) λk l =>
 z7 (Gzg Q a1 b d f i k l)) (z7 (Gzg Q a1 b d f i yw j))):z0q 149 [a0,a1,a2] h Q :=
 mkC Tryz.func149 Ge z2k HK OR c
end
end
open Go Go.Ab Go.RowKit
open Go.Proofs.YtdbgifdfdhhjcaaGreat.Ru (Pg yL)
set_option maxRecDepth 10000
set_option linter.unusedSectionVars false
def xM (n:Nat):List UInt8:=List.replicate n 0
theorem zI (n:Nat):(xM n).length=n:=by simp [xM]
theorem shB {l:List UInt8}:∀ {n:Nat},l.length=n->zF Pg (zd l) 5=true:=by
 induction l with
 | nil=>intro n h;rfl
 | cons b l ih =>
  intro n h;have e:zd (b :: l)=.int .u8 b.toNat :: zd l:=rfl;rw [e];simp only [zF,Bool.and_eq_true];exact ⟨K_,ih rfl⟩
theorem tY {l:List UInt8} (h:l.length=256):zf Pg (.agg (zd l)) 111=true:=by
 have:zf Pg (.agg (zd l)) 111=(decide ((zd l).length=256)&&zF Pg (zd l) 5):=K_;rw [this,shB rfl,yV,decide_eq_true h];rfl
theorem bF {l:List UInt8} (h:l.length=64):zf Pg (.agg (zd l)) 199=true:=by
 have:zf Pg (.agg (zd l)) 199=(decide ((zd l).length=64)&&zF Pg (zd l) 5):=K_;rw [this,shB rfl,yV,decide_eq_true h];rfl
theorem xf {l:List UInt8} (h:l.length=224):zf Pg (.agg (zd l)) 33=true:=by
 have:zf Pg (.agg (zd l)) 33=(decide ((zd l).length=224)&&zF Pg (zd l) 5):=K_;rw [this,shB rfl,yV,decide_eq_true h];rfl
theorem SD:xk Pg 111=some (.agg (zd (xM 256))):=K_
theorem z2D:xk Pg 199=some (.agg (zd (xM 64))):=K_
theorem na:xk Pg 33=some (.agg (zd (xM 224))):=K_
def wS (l:List UInt8) (s n:Nat) (ws:List UInt8):List UInt8:=l.take s++ws.take (min ws.length n)++l.drop (s+min ws.length n)
theorem rP {l ws:List UInt8} {s n:Nat} (h:s+n<=l.length):(wS l s n ws).length=l.length:=by
 unfold wS;simp;omega
section
variable {h:AH} {m t0:Nat} {l ws:List UInt8} {own:Bool}
theorem aO {x:V} {s n:Nat} (hm:h.m m=some (.cells true (.one t0) (.agg (zd l)))) (hc:Vw Pg (.one t0) [] 5=true) (hx:xY Pg h 5 x=some (zd ws)) (hn:s+n<=l.length) :
 ∃ h',zr Pg h .copy [154,154] [.y8 (some (⟨m,.one t0,[]⟩,s)) n,x]=some (.int .i64 ((min ws.length n:Nat):Int),h')/\lD h h' m (.cells true (.one t0) (.agg (zd (wS l s n ws)))):=by
 have e:(zd l).take s++(zd ws).take (min (zd ws).length n)++(zd l).drop (s+min (zd ws).length n)=zd (wS l s n ws):=by
  simp [wS,zd]
 obtain ⟨h',e1,u⟩:=Xl (P:=Pg) (t:=154) (xt:=154) (e:=5) K_ K_ hc hm (p:=[]) (l:=zd l) rfl hx (by rw [yV];exact hn) (v':=.agg (zd (wS l s n ws))) (by rw [e];rfl);rw [yV] at e1;exact ⟨h',e1,u⟩
theorem elB {a k:Nat} (hm:h.m m=some (.cells own (.one t0) (.agg (zd l)))) (hc:Vw Pg (.one t0) [] 5=true) (hk:a+k<=l.length):xY Pg h 5 (.y8 (some (⟨m,.one t0,[]⟩,a)) k)=some (zd ((l.drop a).take k)):=by
 have:=Yk (P:=Pg) (e:=5) hm hc (p:=[]) (l:=zd l) rfl (a:=a) (k:=k) (by rw [yV];exact hk);rw [this,Ud,eR]
theorem eX {lo hi:Option V} {a b n:Nat} (hm:h.m m=some (.cells own (.one t0) (.agg (zd l)))) (hc:z4d Pg t0 (.one t0) [] n 5=true) (hl:gJ lo 0=some a) (hk:gJ hi n=some b) (h1:a<=b) (h2:b<=n) :
 yC Pg h t0 (.ptr (some ⟨m,.one t0,[]⟩)) lo hi=some (.y8 (some (⟨m,.one t0,[]⟩,a)) (b-a)):=SN n 5 hm hc (p:=[]) (l:=zd l) rfl hl hk h1 h2
theorem mJ {i:Nat} (hi:i<l.length):yF (.agg (zd l)) ([]++[((i:Nat):Int).toNat])=some (.int .u8 ((l.getD i 0).toNat:Nat)):=by
 rw [show ((i:Nat):Int).toNat=i by omega];exact v7 (by simp [zd,List.getElem?_eq_getElem hi])
theorem Qk {i:Nat} (hi:i<l.length) (b:UInt8):tX (.agg (zd l)) ([]++[((i:Nat):Int).toNat]) (.int .u8 b.toNat)=some (.agg (zd (l.set i b))):=by
 rw [show ((i:Nat):Int).toNat=i by omega];simp [tX,zd,List.getElem?_eq_getElem hi,List.map_set]
end
def tj (b:List UInt8) (i:Nat):List UInt8:=(b.drop (64*i)).take 64
def WT (b:List UInt8) (i:Nat) (s:List UInt8):List UInt8:=b.take (64*i)++s++b.drop (64*i+64)
theorem gK {b:List UInt8} {i:Nat} (h:b.length=256) (hi:i<4):(tj b i).length=64:=by unfold tj;simp;omega
theorem Lq {b s:List UInt8} {i:Nat} (h:b.length=256) (hs:s.length=64) (hi:i<4):(WT b i s).length=256:=by unfold WT;simp;omega
theorem E2 {i:Nat} (hi:i<100):((i:Nat):Int)*64=((64*i:Nat):Int):=O_
theorem cutP {b:List UInt8} (hb:b.length=256) {i:Nat} (hi:i<4) (h:AH):z0q 95 [.agg (zd b),.int .i64 i] h (zO (.agg (zd (tj b i))) h):=by
 refine xa (by simp only [xU,xS,yW,Bool.and_self]) (by simp only [xS,yW]) ?_ h;refine C95 _ _ _ _ ?_;refine zq (yl (tY hb)) λh1 u1=>?_;have n1:=u1.next;refine zq (yA z2D (bF (zI 64))) λh2 u2=>?_;have n2:=u2.next;refine zq (yA z2D (bF (zI 64))) λh3 u3=>?_;have n3:=u3.next;have fb:=(u3.other _ O_).trans ((u2.other _ O_).trans u1.at_);have fr:=(u3.other _ O_).trans u2.at_;refine z6 rB ?_;rw [decide_eq_true O_];apply sE;refine z6 vq ?_;rw [decide_eq_true O_];refine sm (iz _ _ _ _ _ _ _ _) ?_;refine ze gD ?_;refine sm (ER _ _ _ _ _ _ _) ?_;apply xz;refine zg (eX (n:=64) u3.at_ K_ (a:=0) (b:=64) rfl rfl O_ O_) ?_;refine zg (ij (zW O_ O_)) ?_;rw [E2 O_];refine zg (eX (n:=256) fb K_ (a:=64*i) (b:=256) (by rw [tU O_];first | done | (congr 1 <;> omega)) rfl O_ O_) ?_;refine zq (aO (ws:=(b.drop (64*i)).take (256-64*i)) u3.at_ K_ (elB fb K_ O_) (by rw [zI];omega)) λh4 u4=>?_;have n4:=u4.next;have e1:wS (xM 64) 0 (64-0) ((b.drop (64*i)).take (256-64*i))=tj b i:=by
  unfold wS tj;have l1:((b.drop (64*i)).take (256-64*i)).length=256-64*i:=by simp;omega
  rw [l1,show min (256-64*i) (64-0)=64 by omega,List.take_take,show min 64 (256-64*i)=64 by omega];simp [xM]
 have f4:=u4.at_;rw [e1] at f4;refine sm (H9 _ _ _ _) ?_;refine ze (zR (p:=[]) f4 K_ rfl) ?_;have fr4:=(u4.other _ O_).trans fr;refine zq (zM (p:=[]) fr4 K_ rfl (bF (gK hb hi)) rfl) λh5 u5=>?_;have q1:=zR (P:=Pg) (t:=199) (p:=[]) u5.at_ K_ (w:=.agg (zd (tj b i))) rfl;simp only [z9] at q1;have q2:=(zK q1).1;refine yr (show zX Pg _ _ R95=some [.agg (zd (tj b i))] by simp only [R95,zX,zJ.get,if_true,q2]) ?_;rfl
theorem layP {b s:List UInt8} (hb:b.length=256) (hs:s.length=64) {i:Nat} (hi:i<4) (h:AH):z0q 149 [.agg (zd b),.int .i64 i,.agg (zd s)] h (zO (.agg (zd (WT b i s))) h):=by
 refine xa (by simp only [xU,xS,yW,Bool.and_self]) (by simp only [xS,yW]) ?_ h;refine C149 _ _ _ _ _ ?_;refine zq (yl (tY hb)) λh1 u1=>?_;have n1:=u1.next;refine zq (yl (bF hs)) λh2 u2=>?_;have n2:=u2.next;refine zq (yA SD (tY (zI 256))) λh3 u3=>?_;have n3:=u3.next;have fb:=(u3.other _ O_).trans ((u2.other _ O_).trans u1.at_);have fs:=(u3.other _ O_).trans u2.at_;refine z6 rB ?_;rw [decide_eq_true O_];apply sE;refine z6 vq ?_;rw [decide_eq_true O_];refine sm (z1w _ _ _ _ _ _ _ _) ?_;refine ze gD ?_;refine sm (GO _ _ _ _ _ _ _) ?_;apply xz;refine zg (ij (zW O_ O_)) ?_;rw [E2 O_];refine zg (eX (n:=256) fb K_ (a:=64*i) (b:=256) (by rw [tU O_];first | done | (congr 1 <;> omega)) rfl O_ O_) ?_;refine zg (eX (n:=64) fs K_ (a:=0) (b:=64) rfl rfl O_ O_) ?_;refine zq (aO (ws:=(s.drop 0).take (64-0)) fb K_ (elB fs K_ O_) O_) λh4 u4=>?_;have n4:=u4.next;have e1:wS b (64*i) (256-64*i) ((s.drop 0).take (64-0))=WT b i s:=by
  unfold wS WT;have e0:(s.drop 0).take (64-0)=s:=by rw [List.drop_zero,List.take_of_length_le O_]
  rw [e0,show min s.length (256-64*i)=64 by omega,List.take_of_length_le (show s.length<=64 from O_)]
 have f4:=u4.at_;rw [e1] at f4;refine sm (Cq _ _ _ _) ?_;refine ze (zR (p:=[]) f4 K_ rfl) ?_;have fr4:=(u4.other _ O_).trans u3.at_;refine zq (zM (p:=[]) fr4 K_ rfl (tY (Lq hb hs hi)) rfl) λh5 u5=>?_;have q1:=zR (P:=Pg) (t:=111) (p:=[]) u5.at_ K_ (w:=.agg (zd (WT b i s))) rfl;simp only [z9] at q1;have q2:=(zK q1).1;refine yr (show zX Pg _ _ OR=some [.agg (zd (WT b i s))] by simp only [OR,zX,zJ.get,if_true,q2]) ?_;rfl
def cn:List UInt8->Nat
 | []=>0
 | b :: l=>b.toNat+256*cn l
theorem cT:∀ l:List UInt8,cn l<256 ^ l.length
 | []=>by decide
 | b :: l=>by
  have h1:=cT l;have h2:b.toNat<256:=UInt8.toNat_lt b;rw [cn,List.length_cons,Nat.pow_succ];omega
def oP (b:List UInt8) (i:Nat):List UInt8:=(b.drop (64*i+56)).take 8
def Xi (b:List UInt8) (i:Nat):Nat:=cn (oP b i)
def OQ (b:List UInt8) (i:Nat):List UInt8:=(b.drop (64*i)).take 56
def Ys (b:List UInt8) (i:Nat):List UInt8:=(List.range i).flatMap (OQ b)++xM (224-56*i)
def NV (b:List UInt8):Prop:=Xi b 1=Xi b 0/\Xi b 2=Xi b 0/\Xi b 3=Xi b 0
instance (b:List UInt8):Decidable (NV b):=by unfold NV;infer_instance
def K6 (b:List UInt8):V:=if NV b then .yX [.int .u64 (Xi b 0),.agg (zd (Ys b 4)),.bool true] else .yX [.int .u64 0,.agg (zd (xM 224)),.bool false]
theorem YH {b:List UInt8} (hb:b.length=256) {i:Nat} (hi:i<4):(oP b i).length=8:=by unfold oP;simp;omega
theorem I7 {b:List UInt8} (hb:b.length=256) {i:Nat} (hi:i<4):(OQ b i).length=56:=by unfold OQ;simp;omega
theorem V0 {b:List UInt8} (hb:b.length=256):∀ {i:Nat},i<=4->((List.range i).flatMap (OQ b)).length=56*i
 | 0,_=>rfl
 | i+1,hi=>by
  rw [List.range_succ,List.flatMap_append,List.length_append,V0 hb O_];simp [I7 hb (show i<4 from O_)];omega
theorem dZ {b:List UInt8} (hb:b.length=256) {i:Nat} (hi:i<=4):(Ys b i).length=224:=by
 unfold Ys;rw [List.length_append,V0 hb hi,zI];omega
theorem VF {l:List UInt8} {j:Nat} (h:j<l.length):cn (l.drop j)=(l.getD j 0).toNat+256*cn (l.drop (j+1)):=by
 rw [List.drop_eq_getElem_cons h,cn,List.getD_eq_getElem?_getD,List.getElem?_eq_getElem h];rfl
theorem Nr {b:List UInt8} {i j:Nat} (hj:j<8):(oP b i).getD j 0=b.getD (64*i+56+j) 0:=by
 unfold oP;simp only [List.getD_eq_getElem?_getD];rw [List.getElem?_take_of_lt hj,List.getElem?_drop]
section
variable {h:AH} {b:List UInt8} {n1 n3 n5 m i:Nat} {Q:yO->AH->Prop} {x3 x5 x6:V}
abbrev X2 (n:Nat):V:=.ptr (some ⟨n,.one 111,[]⟩)
abbrev PF (n:Nat):V:=.ptr (some ⟨n,.one 33,[]⟩)
theorem VO (hb:b.length=256) (hi:i<4) (f1:h.m n1=some (.cells true (.one 111) (.agg (zd b)))) (cont:zbb Q m (X2 n1) x3 x5 x6 (.int .i64 i) (.int .i64 ((64*i:Nat):Int)) (.int .u64 (Xi b i)) (.int .i64 i) h) :
 ∀ (j m1:Nat),j<=8->j<m1->FP Q m m1 (X2 n1) x3 x5 x6 (.int .i64 i) (.int .i64 ((64*i:Nat):Int)) (.int .u64 (cn ((oP b i).drop j))) (.int .i64 ((j:Int)-1)) (.int .i64 i) h
 | j,0,hj,hm=>by omega
 | 0,m1+1,hj,hm=>by
  rw [RR];refine z6 rB ?_;rw [decide_eq_false O_];apply yZ;exact z7.of cont
 | j+1,m1+1,hj,hm=>by
  have hl:=YH hb hi;have hlt:cn ((oP b i).drop (j+1))<256 ^ 7:=by
   refine Nat.lt_of_lt_of_le (cT _) (Nat.pow_le_pow_right D_ ?_);simp [hl]
  have hc8:(b.getD (64*i+56+j) 0).toNat<256:=UInt8.toNat_lt _;rw [RR];refine z6 rB ?_;rw [decide_eq_true O_];apply xz;refine sm (Io _ _ _ _ _ _ _ _ _ _ _ _ _) ?_;refine z6 (Kq O_) ?_;rw [show Vk .u64 ((cn ((oP b i).drop (j+1)):Nat):Int) 8=((cn ((oP b i).drop (j+1))*2 ^ 8:Nat):Int) from Me _ 8 D_ O_];refine z6 (vu (zW O_ O_)) ?_;refine z6 (vu (zW O_ O_)) ?_;rw [show ((64*i:Nat):Int)+56+(((j+1:Nat):Int)-1)=((64*i+56+j:Nat):Int) by omega];refine z6 (pF 256 5 K_ O_ O_) ?_;refine ze (zR f1 K_ (mJ O_)) ?_;refine z6 (t8 (d:=47) (k:=.u64) K_ (rL O_ O_)) ?_;refine z6 z2n ?_;rw [WS 8 _ _ O_ O_];refine sm (CZ _ _ _ _ _ _ _ _ _ _ _ _ _) ?_;refine z6 (j8 (zW O_ O_)) ?_;have e1:cn ((oP b i).drop (j+1))*2 ^ 8+(b.getD (64*i+56+j) 0).toNat=cn ((oP b i).drop j):=by
   rw [VF (j:=j) O_,Nr O_];omega
  rw [e1,show ((j+1:Nat):Int)-1-1=(j:Int)-1 by omega];exact z7.of (VO hb hi f1 cont j m1 O_ O_)
def gC (b:List UInt8) (i:Nat):Prop:=∀ j,j<i->Xi b j=Xi b 0
theorem LL {b:List UInt8}:gC b 4↔NV b:=by
 unfold gC NV;constructor
 ·intro h;exact ⟨h 1 O_,h 2 O_,h 3 O_⟩
 ·rintro ⟨h1,h2,h3⟩ j hj
  match j,hj with
  | 0,_=>rfl
  | 1,_=>exact h1
  | 2,_=>exact h2
  | 3,_=>exact h3
def iE (b:List UInt8):yO->AH->Prop:=λe _=>e=.ret (K6 b)
theorem Lm {b:List UInt8} (hb:b.length=256) {i:Nat} (hi:i<4):wS (Ys b i) (56*i) (56*(i+1)-56*i) ((b.drop (64*i)).take (256-64*i))=Ys b (i+1):=by
 unfold wS;have l1:((b.drop (64*i)).take (256-64*i)).length=256-64*i:=by simp;omega
 have l2:=V0 hb (i:=i) O_;rw [l1,show min (256-64*i) (56*(i+1)-56*i)=56 by omega,List.take_take,show min 56 (256-64*i)=56 by omega];unfold Ys;rw [List.take_append_of_le_length O_,List.take_of_length_le O_,List.drop_append,List.drop_eq_nil_of_le (show ((List.range i).flatMap (OQ b)).length<=56*i+56 from O_),List.nil_append,l2];have e1:(xM (224-56*i)).drop (56*i+56-56*i)=xM (224-56*(i+1)):=by
  unfold xM;rw [List.drop_replicate];congr 1;omega
 rw [e1,List.range_succ,List.flatMap_append];simp [OQ]
theorem LD (hb:b.length=256) (hi:i<4) (o:n1<h.next/\n3<h.next/\n5<h.next/\n1≠n5/\n3≠n5/\n1≠n3) (f1:h.m n1=some (.cells true (.one 111) (.agg (zd b)))) (f3:h.m n3=some (.cells true (.one 33) (.agg (zd (xM 224))))) (f5:h.m n5=some (.cells true (.one 33) (.agg (zd (Ys b i)))))
 (hg:gC b i) (cont:∀ h',h.next<=h'.next->h'.m n1=some (.cells true (.one 111) (.agg (zd b)))->h'.m n3=some (.cells true (.one 33) (.agg (zd (xM 224))))->h'.m n5=some (.cells true (.one 33) (.agg (zd (Ys b (i+1)))))->gC b (i+1) ->
  Ky (iE b) m (X2 n1) (PF n3) (PF n5) (.int .u64 (Xi b 0)) (.int .i64 ((i+1:Nat):Int)) h') :
 z9x (iE b) m (X2 n1) (PF n3) (PF n5) (.int .u64 ((if i=0 then 0 else Xi b 0:Nat):Int)) (.int .i64 i) h:=by
 obtain ⟨o1,o2,o3,o4,o5,o6⟩:=o;rw [CS];refine z6 (ij (zW O_ O_)) ?_;rw [E2 O_];have l8:=YH hb hi;have lp:=dZ hb (i:=i) O_;have fin:∀ f:Nat,f=Xi b 0->z3O (iE b) m (X2 n1) (PF n3) (PF n5) (.int .u64 (f:Nat)) (.int .i64 i) (.int .i64 ((64*i:Nat):Int)) (.int .u64 (Xi b i)) (.int .i64 i) h:=by
  intro f hf;subst hf;rw [Hu];refine z6 nl ?_;refine wJ (λq=>?_) (λq=>?_)
  ·replace q:=oO q
   have vk:¬ NV b:=λw=>q (by rw [(LL.2 w) i hi]);refine z6 (show zD Pg 33 []=some (.agg (zd (xM 224))) by kernel_rfl) ?_;refine zq (zM (p:=[]) f3 K_ rfl (xf (zI 224)) rfl) λh1 u1=>?_;have q1:=zR (P:=Pg) (t:=33) (p:=[]) u1.at_ K_ (w:=.agg (zd (xM 224))) rfl;simp only [z9] at q1;have q2:=(zK q1).1;refine yr (show zX Pg _ _ JB=some [.int .u64 0,.agg (zd (xM 224)),.bool false] by simp [JB,zX,zJ.get,q2]) ?_;show _=_;rw [K6,if_neg vk];rfl
  ·replace q:=uY q
   have hg2:gC b (i+1):=λj hj=>by
    by_cases e:j=i
    ·subst e;omega
    ·exact hg j O_
   refine sm (G0 _ _ _ _ _ _ _ _ _ _) ?_;refine zg (ij (zW O_ O_)) ?_;refine zg (vu (zW O_ O_)) ?_;refine zg (ij (zW O_ O_)) ?_;refine zg (eX (n:=224) f5 K_ (a:=56*i) (b:=56*(i+1)) (by rw [tU O_];congr 1;omega) (by rw [tU O_];congr 1;omega) O_ O_) ?_;refine zg (eX (n:=256) f1 K_ (a:=64*i) (b:=256) (by rw [tU O_];first | done | (congr 1 <;> omega)) rfl O_ O_) ?_;refine zq (aO (ws:=(b.drop (64*i)).take (256-64*i)) f5 K_ (elB f1 K_ O_) O_) λh1 u1=>?_;have n1':=u1.next;have f5':=u1.at_;rw [Lm hb hi] at f5';refine sm (Cr _ _ _ _ _ _ _ _) ?_;refine z6 (vu (zW O_ O_)) ?_;exact z7.of (cont h1 O_ ((u1.other _ O_).trans f1) ((u1.other _ O_).trans f3) f5' hg2)
 have key:=VO (Q:=iE b) (x3:=PF n3) (x5:=PF n5) (x6:=.int .u64 ((if i=0 then 0 else Xi b 0:Nat):Int)) (m:=m) hb hi f1 ?_ 8 9 O_ O_
 ·rw [List.drop_of_length_le O_] at key;exact ⟨9,z7.of key⟩
 ·rw [CU];refine z6 qe ?_;by_cases h0:i=0
  ·subst h0;apply xz;exact z7.of (fin _ rfl)
  ·rw [beq_eq_false_iff_ne.2 O_];apply yZ;rw [if_neg h0];exact z7.of (fin _ rfl)
theorem AI (hb:b.length=256):∀ (j i m:Nat) (h:AH),i+j=4->j<m->n1<h.next/\n3<h.next/\n5<h.next/\n1≠n5/\n3≠n5/\n1≠n3->h.m n1=some (.cells true (.one 111) (.agg (zd b)))->h.m n3=some (.cells true (.one 33) (.agg (zd (xM 224))))->h.m n5=some (.cells true (.one 33) (.agg (zd (Ys b i))))->gC b i ->
 Ky (iE b) m (X2 n1) (PF n3) (PF n5) (.int .u64 ((if i=0 then 0 else Xi b 0:Nat):Int)) (.int .i64 i) h
 | j,i,0,h,sT,hm,_,_,_,_,_=>by omega
 | 0,i,m+1,h,sT,hm,o,f1,f3,f5,hg=>by
  obtain rfl:i=4:=O_;rw [JZ];refine z6 vq ?_;rw [decide_eq_false O_];apply yZ;refine sm (B9 _ _ _ _ _) ?_;refine zN (zR (p:=[]) f5 K_ rfl) ?_;refine zq (zM (p:=[]) f3 K_ rfl (xf (dZ hb (Nat.le_refl 4))) rfl) λh1 u1=>?_;have q1:=zR (P:=Pg) (t:=33) (p:=[]) u1.at_ K_ (w:=.agg (zd (Ys b 4))) rfl;simp only [z9] at q1;have q2:=(zK q1).1;refine yr (show zX Pg _ _ JB=some [.int .u64 (Xi b 0),.agg (zd (Ys b 4)),.bool true] by simp [JB,zX,zJ.get,q2]) ?_;show _=_;rw [K6,if_pos (LL.1 hg)];rfl
 | j+1,i,m+1,h,sT,hm,o,f1,f3,f5,hg=>by
  rw [JZ];refine z6 vq ?_;rw [decide_eq_true O_];apply xz;refine z7.of (LD hb O_ o f1 f3 f5 hg λh' hn g1 g3 g5 hg'=>?_);have:=AI hb j (i+1) m h' O_ O_ O_ g1 g3 g5 hg';rw [if_neg O_] at this;exact this
end
theorem z62 {b:List UInt8} (hb:b.length=256) (h:AH):z0q 59 [.agg (zd b)] h (zO (K6 b) h):=by
 refine xa (by simp only [xU,xS,yW,Bool.and_self]) (by unfold K6;split <;> simp only [xS,xU,yW,Bool.and_self]) ?_ h;refine C59 _ _ _ ?_;refine zq (yl (tY hb)) λh1 u1=>?_;have n1:=u1.next;refine zq (yA na (xf (zI 224))) λh2 u2=>?_;have n2:=u2.next;refine zq (yA na (xf (zI 224))) λh3 u3=>?_;have n3:=u3.next;exact ⟨5,z7.of (AI hb 4 0 5 h3 O_ O_ ⟨O_,O_,O_,O_,O_,O_⟩ ((u3.other _ O_).trans ((u2.other _ O_).trans u1.at_)) ((u3.other _ O_).trans u2.at_) u3.at_ (λj hj=>by omega))⟩
def hE (n k:Nat):UInt8:=UInt8.ofNat (n/2 ^ (8*k))
def PE (n:Nat):List UInt8:=(List.range 8).map (hE n)
def AG (p:List UInt8) (i:Nat):List UInt8:=(p.drop (56*i)).take 56
def VX (st:Nat) (p:List UInt8) (i:Nat):List UInt8:=AG p i++PE st
def pC (st:Nat) (p:List UInt8) (i:Nat):List UInt8:=(List.range i).flatMap (VX st p)
def wN (st:Nat) (p:List UInt8):List UInt8:=pC st p 4
theorem cB (n:Nat):(PE n).length=8:=by simp [PE]
theorem lQ {p:List UInt8} (hp:p.length=224) {i:Nat} (hi:i<4):(AG p i).length=56:=by unfold AG;simp;omega
theorem Zk {st:Nat} {p:List UInt8} (hp:p.length=224) {i:Nat} (hi:i<4):(VX st p i).length=64:=by unfold VX;rw [List.length_append,lQ hp hi,cB]
theorem pf {st:Nat} {p:List UInt8} (hp:p.length=224):∀ {i:Nat},i<=4->(pC st p i).length=64*i
 | 0,_=>rfl
 | i+1,hi=>by
  have ih:=pf (st:=st) hp (i:=i) O_;unfold pC at *;rw [List.range_succ,List.flatMap_append,List.length_append,ih];simp [Zk hp (show i<4 from O_)];omega
theorem lX {st:Nat} {p:List UInt8} (hp:p.length=224):(wN st p).length=256:=pf hp (Nat.le_refl 4)
theorem Px (A:List UInt8) (n:Nat) (b:UInt8):(A++xM (n+1)).set A.length b=(A++[b])++xM n:=by
 rw [List.set_append_right _ _ (Nat.le_refl _),Nat.sub_self];simp [xM,List.replicate_succ]
theorem Vq (A ws:List UInt8) (n k:Nat) (hk:k<=ws.length) (hn:k<=n):wS (A++xM n) A.length k ws=(A++ws.take k)++xM (n-k):=by
 unfold wS;rw [show min ws.length k=k by omega,List.take_append_of_le_length (Nat.le_refl _),List.take_length,List.drop_append,List.drop_eq_nil_of_le O_,List.nil_append];congr 1;unfold xM;rw [List.drop_replicate];congr 1;omega
section
variable {h:AH} {st:Nat} {p:List UInt8} {n3 n4 n5 m i:Nat} {Q:yO->AH->Prop} {x3 x4:V}
theorem Qg (pN:st<18446744073709551616) (hi:i<4) (A:List UInt8) (hA:A.length=64*i+56) (P:AH->Prop) :
 ∀ (j k m1:Nat) (h:AH),k+j=8->j<m1->h.m n5=some (.cells true (.one 111) (.agg (zd ((A++(PE st).take k)++xM (256-(64*i+56+k)))))) ->
  (∀ h',h'.next=h.next->(∀ q,q≠n5->h'.m q=h.m q)->h'.m n5=some (.cells true (.one 111) (.agg (zd ((A++PE st)++xM (256-64*(i+1))))))->za9 Q m (.int .u64 st) x3 x4 (X2 n5) (.int .i64 i) h') ->
  FY Q m m1 (.int .u64 st) x3 x4 (X2 n5) (.int .i64 ((64*i:Nat):Int)) (.int .i64 i) (.int .i64 k) h
 | j,k,0,h,hk,hm,_,_=>by omega
 | 0,k,m1+1,h,hk,hm,f,cont=>by
  obtain rfl:k=8:=O_;rw [PX];refine z6 vq ?_;rw [decide_eq_false O_];apply yZ;rw [List.take_of_length_le (show (PE st).length<=8 by rw [cB];omega),show 256-(64*i+56+8)=256-64*(i+1) by omega] at f;exact z7.of (cont h rfl (λ_ _=>rfl) f)
 | j+1,k,m1+1,h,hk,hm,f,cont=>by
  have hl:(A++(PE st).take k).length=64*i+56+k:=by rw [List.length_append,hA,List.length_take,cB];omega
  rw [PX];refine z6 vq ?_;rw [decide_eq_true O_];apply xz;refine sm (Hy _ _ _ _ _ _ _ _ _ _ _) ?_;refine z6 (vu (zW O_ O_)) ?_;refine z6 (vu (zW O_ O_)) ?_;rw [show ((64*i:Nat):Int)+56+((k:Nat):Int)=((64*i+56+k:Nat):Int) by omega];refine z6 (ij (zW O_ O_)) ?_;rw [show (8:Int)*((k:Nat):Int)=((8*k:Nat):Int) by omega];refine z6 (AF O_) ?_;rw [z0h st (8*k) O_];refine z6 (xV (d:=5) .u8 K_) ?_;have e8:IntKind.u8.wrap ((st/2 ^ (8*k):Nat):Int)=((hE st k).toNat:Int):=by
   show ((st/2 ^ (8*k):Nat):Int)%256=_;unfold hE;simp
  rw [e8];refine z6 (pF 256 5 K_ O_ O_) ?_;have zdb:64*i+56+k<((A++(PE st).take k)++xM (256-(64*i+56+k))).length:=by rw [List.length_append,hl,zI];omega
  refine zq (zM f K_ (mJ zdb) K_ (Qk zdb (hE st k))) λh1 u1=>?_;have n1:=u1.next;have f1:=u1.at_;have e1:((A++(PE st).take k)++xM (256-(64*i+56+k))).set (64*i+56+k) (hE st k)=(A++(PE st).take (k+1))++xM (256-(64*i+56+(k+1))):=by
   have hg:(PE st)[k]?=some (hE st k):=by
    unfold PE;rw [List.getElem?_map,List.getElem?_range O_];rfl
   rw [show 256-(64*i+56+k)=(256-(64*i+56+(k+1)))+1 by omega,<- hl,Px,List.take_add_one,hg];simp
  rw [e1] at f1;refine sm (FX _ _ _ _ _ _ _ _ _ _ _) ?_;refine z6 (vu (zW O_ O_)) ?_;refine z7.of (Qg pN hi A hA P j (k+1) m1 h1 O_ O_ f1 λh' hn ho hf=>cont h' O_ (λq hq=>(ho q hq).trans (u1.other q hq)) hf)
theorem PB (pN:st<18446744073709551616) (hp:p.length=224):∀ (j i m:Nat) (h:AH),i+j=4->j<m->n3<h.next/\n4<h.next/\n5<h.next/\n3≠n5/\n4≠n5->h.m n3=some (.cells true (.one 33) (.agg (zd p)))->(∃ w,h.m n4=some (.cells true (.one 111) w)) ->
 h.m n5=some (.cells true (.one 111) (.agg (zd (pC st p i++xM (256-64*i)))))->Gz (λe _=>e=.ret (.agg (zd (wN st p)))) m (.int .u64 st) (PF n3) (X2 n4) (X2 n5) (.int .i64 i) h
 | j,i,0,h,sT,hm,_,_,_,_=>by omega
 | 0,i,m+1,h,sT,hm,⟨o1,o2,o3,o4,o5⟩,f3,⟨w,f4⟩,f5=>by
  obtain rfl:i=4:=O_;rw [QQ];refine z6 vq ?_;rw [decide_eq_false O_];apply yZ;have e0:pC st p 4++xM (256-64*4)=wN st p:=by show pC st p 4++[]=_;rw [List.append_nil];rfl
  rw [e0] at f5;refine sm (Fo _ _ _ _) ?_;refine ze (zR (p:=[]) f5 K_ rfl) ?_;refine zq (zM (p:=[]) f4 K_ rfl (tY (lX hp)) rfl) λh1 u1=>?_;have q1:=zR (P:=Pg) (t:=111) (p:=[]) u1.at_ K_ (w:=.agg (zd (wN st p))) rfl;simp only [z9] at q1;have q2:=(zK q1).1;refine yr (show zX Pg _ _ R43=some [.agg (zd (wN st p))] by simp [R43,zX,zJ.get,q2]) ?_;rfl
 | j+1,i,m+1,h,sT,hm,⟨o1,o2,o3,o4,o5⟩,f3,⟨w,f4⟩,f5=>by
  have ld:=pf (st:=st) hp (i:=i) O_;rw [QQ];refine z6 vq ?_;rw [decide_eq_true O_];apply xz;refine sm (FT _ _ _ _ _ _ _ _) ?_;refine z6 (ij (zW O_ O_)) ?_;rw [E2 O_];refine zg (vu (zW O_ O_)) ?_;refine zg (eX (n:=256) f5 K_ (a:=64*i) (b:=64*i+56) (by rw [tU O_];first | done | (congr 1 <;> omega)) (by rw [tU O_];first | done | (congr 1 <;> omega)) O_ O_) ?_;refine zg (ij (zW O_ O_)) ?_;rw [show ((i:Nat):Int)*56=((56*i:Nat):Int) by omega];refine zg (eX (n:=224) f3 K_ (a:=56*i) (b:=224) (by rw [tU O_];first | done | (congr 1 <;> omega)) rfl O_ O_) ?_;refine zq (aO (ws:=(p.drop (56*i)).take (224-56*i)) f5 K_ (elB f3 K_ O_) (by rw [List.length_append,ld,zI];omega)) λh1 u1=>?_;have n1:=u1.next;have g5:=u1.at_;have e1:wS (pC st p i++xM (256-64*i)) (64*i) (64*i+56-64*i) ((p.drop (56*i)).take (224-56*i))=(pC st p i++AG p i)++xM (256-(64*i+56+0)):=by
   have:=Vq (pC st p i) ((p.drop (56*i)).take (224-56*i)) (256-64*i) 56 (by simp;omega) O_;rw [ld] at this;rw [show 64*i+56-64*i=56 by omega,this,List.take_take,show min 56 (224-56*i)=56 by omega,show 256-64*i-56=256-(64*i+56+0) by omega];rfl
  rw [e1] at g5;have key:=Qg (Q:=λe _=>e=.ret (.agg (zd (wN st p)))) (x3:=PF n3) (x4:=X2 n4) (n5:=n5) (m:=m) (i:=i) pN O_ (pC st p i++AG p i) (by rw [List.length_append,ld,lQ hp O_]) (λ_=>True) 8 0 9 h1 O_ O_ (by rw [List.take_zero,List.append_nil];exact g5) ?_
  ·exact ⟨9,z7.of key⟩
  ·intro h2 hn ho hf;rw [Do];refine z6 (vu (zW O_ O_)) ?_;have e2:(pC st p i++AG p i)++PE st=pC st p (i+1):=by
    unfold pC;rw [List.range_succ,List.flatMap_append];simp [VX]
   rw [e2] at hf;refine z7.of (PB pN hp j (i+1) m h2 O_ O_ ⟨O_,O_,O_,o4,o5⟩ ((ho _ o4).trans ((u1.other _ o4).trans f3)) ⟨w,(ho _ o5).trans ((u1.other _ o5).trans f4)⟩ hf)
end
theorem Kx {p:List UInt8} (hp:p.length=224) {st:Nat} (pN:st<18446744073709551616) (h:AH):z0q 43 [.int .u64 st,.agg (zd p)] h (zO (.agg (zd (wN st p))) h):=by
 refine xa (by simp only [xU,xS,yW,Bool.and_self]) (by simp only [xS,yW]) ?_ h;refine C43 _ _ _ _ ?_;refine zq (yl (xf hp)) λh1 u1=>?_;have n1:=u1.next;refine zq (yA SD (tY (zI 256))) λh2 u2=>?_;have n2:=u2.next;refine zq (yA SD (tY (zI 256))) λh3 u3=>?_;have n3:=u3.next;exact ⟨5,z7.of (PB pN hp 4 0 5 h3 O_ O_ ⟨O_,O_,O_,O_,O_⟩ ((u3.other _ O_).trans ((u2.other _ O_).trans u1.at_)) ⟨_,(u3.other _ O_).trans u2.at_⟩ u3.at_)⟩
section
set_option maxRecDepth 100000
noncomputable section
variable (Q:yO->AH->Prop) (ds:List AD) (n n1 n2:Nat) (x1 x5 x6 x21:V) (a0 a1:V) (h:AH)
def KX:=bd Tryz.f160
def DY:List ResultVar:=[.tmp 4]
abbrev Cc:=28
def MK:KT:=(sQ lF (sQ lF (jN (sQ lF (.one (.loop (jN (sQ lF (.two lF lF) [1,5,6,12]) (jN (.one (sQ lF (sQ lF (.one (.loop (sQ lF (jN (.two lF lF) (jN (.one lF) lF [1,5,6,21]) [1,5,6,21]) [1,5,6,21,22]) [1,5,6,21])) [1,5,6,21]) [1,5,6])) lF [1,5,6]) [1,5,6]) [1,5,6])) [1,5,6]) (sQ lF lF [4]) [5]) [1,5]) [0,1])
def Mf (p l:List Nat) (e:zJ):Prop:=xG Pg Cc KX MK p l (zn Pg DY Q) e h
def z8e:Prop:=Mf Q h [1,1,0,1,0,0,1,0,0,1,1,0,0,1,1,1] [n,n1] [(1,x1),(5,x5),(6,x6),(21,x21)]
def Ku:Prop:=Mf Q h [1,1,0,1,0,0,1,0,0,1,1,0,0,1,1] [n,n1] [(1,x1),(5,x5),(6,x6),(21,x21)]
def Bt:Prop:=Mf Q h [1,1,0,1,0,0,1,1] [n] [(1,x1),(5,x5),(6,x6)]
def Dq:Prop:=xX Pg Cc KX MK [1,1,0,1,0,0,1,0,0,1,1,0] [n] n1 (zn Pg DY Q) [(1,x1),(5,x5),(6,x6),(21,x21)] h
def z8A:Prop:=Mf Q h [1,1,0,1,0,0,1] [n] [(1,x1),(5,x5),(6,x6)]
def z1D:Prop:=Mf Q h [1,1,1] [] [(5,x5)]
def F9:Prop:=xX Pg Cc KX MK [1,1,0,1,0] [] n (zn Pg DY Q) [(1,x1),(5,x5),(6,x6)] h
theorem Ft:z8e Q n n1 x1 x5 x6 x21 h=(
 z0 (z03 (z0s .add 3 x21 (V.int .i64 1) true) h) λb c =>
 z7 (Dq Q n n1 x1 x5 x6 b c)):=K_
theorem EK:Ku Q n n1 x1 x5 x6 x21 h=(
 z0q 162 [x5] h (zS (λb c =>
 z7 (z8e Q n n1 x1 b x6 x21 c)) λv h=>Q (.panic v) h)):=K_
theorem H4:Bt Q n x1 x5 x6 h=(
 z0 (z03 (z0s .add 3 x6 (V.int .i64 1) true) h) λb c =>
 z7 (F9 Q n x1 x5 b c)):=K_
theorem Pf:Dq Q n (n1+1) x1 x5 x6 x21 h=(
 z0 (z03 (z0s .lss 3 x21 (V.int .i64 8) true) h) λb c =>
 zP b (
 z7 (Ku Q n n1 x1 x5 x6 x21 c)) (
 z7 (Bt Q n x1 x5 x6 c))):=K_
theorem Is:z8A Q n x1 x5 x6 h=(
 z0 (z03 (vN Pg 9 x1 x6) h) λb c =>
 z0 (z03 (z0F c 5 56 b) c) λd e =>
 z0 (z03 (z0s .xor 56 x5 d false) e) λf g =>
 ∃ n1,z7 (Dq Q n n1 x1 f x6 (V.int .i64 0) g)):=K_
theorem Q7:z1D Q x5 h=(
 z0 (z03 (qd .xor x5) h) λb c =>
 Q (.ret b) c):=K_
theorem PV:F9 Q (n+1) x1 x5 x6 h=(
 z0 (z0u h .len [9] [x1]) λb c =>
 z0 (z03 (z0s .lss 3 x6 b false) c) λd e =>
 zP d (
 z7 (z8A Q n x1 x5 x6 e)) (
 z7 (z1D Q x5 e))):=K_
theorem C160 (c :
 z0 (z03 (qd .xor a0) h) λb c =>
 ∃ n,z7 (F9 Q n a1 b (V.int .i64 0) c)):z0q 160 [a0,a1] h Q :=
 mkC Tryz.func160 KX Cc MK DY c
def B162:=bd Tryz.f162
def R162:List ResultVar:=[.tmp 2]
abbrev N162:=10
def K162:KT:=(sQ lF (sQ lF lF [2]) [0])
theorem C162 (c :
 z0 (z03 (z0s .shr 56 a0 (V.int .u64 1) true) h) λb c =>
 z0 (z03 (z0s .and 56 a0 (V.int .u32 1) true) c) λd e =>
 z0 (z03 (qd .neg d) e) λf g =>
 z0 (z03 (z0s .and 56 (V.int .u32 3988292384) f true) g) λi j =>
 z0 (z03 (z0s .xor 56 b i false) j) λk l =>
 Q (.ret k) l):z0q 162 [a0] h Q :=
 mkC Tryz.func162 B162 N162 K162 R162 c
end
end
open Go.Proofs.YtdbgifdfdhhjcaaGreat.Ru (Pg yL qR XA nz)
theorem Dd (v:Nat) (h:v<4294967296):(BitVec.ofInt 32 (v:Int)).toNat=v:=by
 rw [BitVec.toNat_ofInt];have:((v:Int)%((2 ^ 32:Nat):Int)).toNat=v%2 ^ 32:=O_;rw [this];exact Nat.mod_eq_of_lt (by simpa using h)
theorem Ut (a b:Nat) (ha:a<4294967296) (hb:b<4294967296):mz .xor .u32 (a:Int) (b:Int)=((Nat.xor a b:Nat):Int)/\Nat.xor a b<4294967296:=by
 have h3:(a ^^^ b)<2 ^ 32:=Nat.xor_lt_two_pow (by simpa using ha) (by simpa using hb);have h4:(a ^^^ b)<4294967296:=by simpa using h3
 refine ⟨?_,h4⟩;simp only [mz];have:((BitVec.ofInt IntKind.u32.bits (a:Int) ^^^ BitVec.ofInt IntKind.u32.bits (b:Int)).toNat)=a ^^^ b:=by
  show (BitVec.ofInt 32 (a:Int) ^^^ BitVec.ofInt 32 (b:Int)).toNat=a ^^^ b;rw [BitVec.toNat_xor,Dd a ha,Dd b hb]
 rw [this,bZ];show _=((a ^^^ b:Nat):Int)
 exact Int.emod_eq_of_lt O_ O_
theorem and1 (a:Nat) (ha:a<4294967296):mz .and .u32 (a:Int) 1=((a%2:Nat):Int):=by
 simp only [mz];have:((BitVec.ofInt IntKind.u32.bits (a:Int) &&& BitVec.ofInt IntKind.u32.bits 1).toNat)=a%2:=by
  show (BitVec.ofInt 32 (a:Int) &&& BitVec.ofInt 32 ((1:Nat):Int)).toNat=a%2;rw [BitVec.toNat_and,Dd a ha,Dd 1 D_,Nat.and_one_is_mod]
 rw [this,bZ];exact Int.emod_eq_of_lt O_ O_
theorem Qn (x:Nat):qR x=Nat.xor (x/2) (3988292384*(x%2)):=by
 unfold qR;have h1:Nat.shiftRight x 1=x/2:=rfl;have h2:Nat.land x 1=x%2:=Nat.and_one_is_mod x;rw [h1,h2];rfl
theorem RN (x:Nat) (hx:x<4294967296):qR x<4294967296:=by
 rw [Qn];have h:3988292384*(x%2)<4294967296:=O_;exact (Ut (x/2) _ O_ h).2
theorem zb6 (x:Nat) (hx:x<4294967296) (h:AH):z0q 162 [.int .u32 (x:Int)] h (zO (.int .u32 ((qR x:Nat):Int)) h):=by
 refine C162 _ _ _ ?_;refine z6 (AF D_) ?_;have e1:ZM .u32 (x:Int) 1=((x/2:Nat):Int):=by
  show (x:Int)/2 ^ 1=_;omega
 rw [e1];refine z6 z0m ?_;rw [and1 x hx];refine z6 (show qd .neg (.int .u32 ((x%2:Nat):Int))=some (.int .u32 (IntKind.u32.wrap (0-((x%2:Nat):Int)))) from rfl) ?_;refine z6 z0m ?_;have e2:mz .and .u32 3988292384 (IntKind.u32.wrap (0-((x%2:Nat):Int)))=((3988292384*(x%2):Nat):Int):=by
  rcases Nat.mod_two_eq_zero_or_one x with h | h
  ·rw [h];decide +kernel
  ·rw [h];decide +kernel
 rw [e2];refine z6 Ah ?_;rw [(Ut (x/2) (3988292384*(x%2)) O_ O_).1,Qn];exact ⟨rfl,rfl⟩
theorem WX:∀ (n x:Nat),x<4294967296->XA n x<4294967296
 | 0,x,h=>h
 | n+1,x,h=>WX n _ (RN x h)
theorem z0i (q:yO->Prop) (s:V) (i:V) (n1:Nat) (h:AH) (next:Nat->Nat->Prop)
 (c:∀ x,x<4294967296->next x 0->Bt (λe _=>q e) n1 s (.int .u32 (x:Int)) i h)
 (hn:∀ x m,next x (m+1)->next (qR x) m):∀ (m n x:Nat),m<=8->m<n->x<4294967296->next x m->Dq (λe _=>q e) n1 n s (.int .u32 (x:Int)) i (.int .i64 ((8-m:Nat):Int)) h
 | m,0,x,_,hmn,_,_=>absurd hmn O_
 | 0,n+1,x,_,_,hx,hk=>by
  rw [Pf];refine z6 (cq O_) ?_;apply yZ;exact z7.of (c x hx hk)
 | m+1,n+1,x,hm,hmn,hx,hk=>by
  rw [Pf];refine z6 (cE O_) ?_;apply xz;refine sm (EK _ _ _ _ _ _ _ _) ?_;refine vL (zb6 x hx h) ?_;refine sm (Ft _ _ _ _ _ _ _ _) ?_;refine z6 (z07 O_) ?_;have e:8-(m+1)+1=8-m:=O_;rw [e];exact z7.of (z0i q s i n1 h next c hn m n (qR x) O_ O_ (RN x hx) (hn x m hk))
open Go.Proofs.YtdbgifdfdhhjcaaGreat.Ru (Pg yL qR XA nz og)
theorem str9:z3C Pg 9=true:=K_
theorem aj (b:UInt8) (t:List UInt8) (r:Nat):nz (b :: t) r=nz t (XA 8 (Nat.xor r b.toNat)):=by
 simp only [nz];rw [IJ]
theorem z0c (q:yO->Prop) (h:AH) (s:List UInt8) (hs:s.length<1000000):∀ (t:List UInt8) (i n r:Nat),s.drop i=t->i+t.length=s.length->t.length<n->r<4294967296 ->
 q (.ret (.int .u32 ((Nat.xor (nz t r) 4294967295:Nat):Int)))->F9 (λe _=>q e) n (.str s) (.int .u32 (r:Int)) (.int .i64 (i:Int)) h
 | t,i,0,r,_,_,hn,_,_=>absurd hn O_
 | [],i,n+1,r,hd,hl,_,hr,c=>by
  rw [PV];simp only [List.length_nil] at hl;refine ze (ue K_) ?_;refine z6 (cq O_) ?_;apply yZ;refine sm (Q7 _ _ _) ?_;refine z6 (show qd .xor (.int .u32 (r:Int))=some (.int .u32 (mz .xor .u32 ((4294967295:Nat):Int) (r:Int))) from rfl) ?_;rw [(Ut 4294967295 r D_ hr).1];have e:Nat.xor 4294967295 r=Nat.xor (nz [] r) 4294967295:=by
   simp only [nz];exact Nat.xor_comm _ _
  rw [e];exact c
 | b :: t,i,n+1,r,hd,hl,hn,hr,c=>by
  rw [PV];simp only [List.length_cons] at hl hn;have hi:i<s.length:=O_;have hb:s.getD i 0=b:=by
   have:=congrArg (λl=>l[0]?) hd;simp only [List.getElem?_drop,Nat.add_zero,List.getElem?_cons_zero] at this;rw [List.getD_eq_getElem?_getD,this];rfl
  have hbt:=b.toNat_lt;refine ze (ue K_) ?_;refine z6 (cE O_) ?_;apply xz;refine sm (Is _ _ _ _ _ _) ?_;refine z6 (js str9 hi) ?_;rw [hb];refine z6 (xV (d:=56) .u32 K_) ?_;have e1:IntKind.u32.wrap (b.toNat:Int)=(b.toNat:Int):=by rw [bZ];omega
  rw [e1];refine z6 Ah ?_;have hx:=Ut r b.toNat hr O_;rw [hx.1];refine ⟨9,z7.of ?_⟩;have hlt:=WX 8 _ hx.2;refine z0i q (.str s) (.int .i64 (i:Int)) n h (λx m=>XA m x=XA 8 (Nat.xor r b.toNat)) (λx M2 hk=>?_) (λx m hk=>hk) 8 9 (Nat.xor r b.toNat) O_ O_ hx.2 rfl;have hk:x=XA 8 (Nat.xor r b.toNat):=hk;rw [H4];refine z6 (z07 O_) ?_;refine z7.of ?_;rw [hk];refine z0c q h s hs t (i+1) n _ ?_ O_ O_ hlt ?_
  ·rw [<- List.drop_drop,hd];rfl
  ·rw [aj] at c;exact c
theorem zaH (r:Nat) (hr:r<4294967296) (s:List UInt8) (hs:s.length<1000000) (h:AH):z0q 160 [.int .u32 (r:Int),.str s] h (zO (.int .u32 ((og r s:Nat):Int)) h):=by
 refine xa rfl rfl (C160 _ _ _ _ ?_) h;refine z6 (show qd .xor (.int .u32 (r:Int))=some (.int .u32 (mz .xor .u32 ((4294967295:Nat):Int) (r:Int))) from rfl) ?_;have hx:=Ut 4294967295 r D_ hr;rw [hx.1];refine ⟨s.length+1,z7.of ?_⟩;refine z0c (λe=>e=.ret (.int .u32 ((og r s:Nat):Int))) xD s hs s 0 (s.length+1) _ rfl O_ O_ hx.2 ?_;have e:Nat.xor 4294967295 r=Nat.xor r 4294967295:=Nat.xor_comm _ _;rw [e];rfl
open Go.Proofs.YtdbgifdfdhhjcaaGreat.Ru (Pg yL og nz)
def sR (v:Int) (i:Int):UInt8:=UInt8.ofNat (IntKind.u8.wrap (ZM .u64 v (IntKind.i64.wrap (8*i)))).toNat
theorem evP2 (q:yO->Prop) (v:Int):vc Pg ZZ ZX .leaf (zn Pg ZR (λe _=>q e)) (zC 0 [.int .u64 v,.int .i64 2]) xD=q (.ret (.str [sR v 0,sR v 1])):=K_
theorem evP4 (q:yO->Prop) (v:Int):vc Pg ZZ ZX .leaf (zn Pg ZR (λe _=>q e)) (zC 0 [.int .u64 v,.int .i64 4]) xD=q (.ret (.str [sR v 0,sR v 1,sR v 2,sR v 3])):=K_
theorem evP8 (q:yO->Prop) (v:Int):vc Pg ZZ ZX .leaf (zn Pg ZR (λe _=>q e)) (zC 0 [.int .u64 v,.int .i64 8]) xD=q (.ret (.str [sR v 0,sR v 1,sR v 2,sR v 3,sR v 4,sR v 5,sR v 6,sR v 7])):=K_
def xd (v n:Nat):List UInt8:=(List.range n).map (hE v)
theorem xL (v n:Nat):(xd v n).length=n:=by simp [xd]
theorem sW (v i:Nat) (hi:i<=8):sR (v:Int) (i:Int)=hE v i:=by
 unfold sR hE;have e:IntKind.i64.wrap (8*(i:Int))=((8*i:Nat):Int):=by rw [zW O_ O_];rfl
 have e3:(IntKind.u8.wrap ((v/2 ^ (8*i):Nat):Int)).toNat=v/2 ^ (8*i)%256:=by
  generalize v/2 ^ (8*i)=x;show ((x:Int)%256).toNat=_;omega
 rw [e,z0h v (8*i) O_,e3];apply UInt8.toNat_inj.1;simp
theorem Ye (v:Nat) (h:AH):z0q 129 [.int .u64 v,.int .i64 2] h (zO (.str (xd v 2)) h):=by
 refine xa rfl rfl ?_ h;refine ny yL Tryz.func129 (show Tryz.f129.body=some ZX from K_) .leaf ZZ ZR rfl K_ ?_;rw [evP2 (λe=>e=.ret (.str (xd v 2))) v];rw [show sR (v:Int) 0=hE v 0 from sW v 0 D_,show sR (v:Int) 1=hE v 1 from sW v 1 D_];rfl
theorem Pc (v:Nat) (h:AH):z0q 129 [.int .u64 v,.int .i64 4] h (zO (.str (xd v 4)) h):=by
 refine xa rfl rfl ?_ h;refine ny yL Tryz.func129 (show Tryz.f129.body=some ZX from K_) .leaf ZZ ZR rfl K_ ?_;rw [evP4 (λe=>e=.ret (.str (xd v 4))) v];rw [show sR (v:Int) 0=hE v 0 from sW v 0 D_,show sR (v:Int) 1=hE v 1 from sW v 1 D_,show sR (v:Int) 2=hE v 2 from sW v 2 D_,show sR (v:Int) 3=hE v 3 from sW v 3 D_];rfl
theorem AV (v:Nat) (h:AH):z0q 129 [.int .u64 v,.int .i64 8] h (zO (.str (xd v 8)) h):=by
 refine xa rfl rfl ?_ h;refine ny yL Tryz.func129 (show Tryz.f129.body=some ZX from K_) .leaf ZZ ZR rfl K_ ?_;rw [evP8 (λe=>e=.ret (.str (xd v 8))) v];rw [show sR (v:Int) 0=hE v 0 from sW v 0 D_,show sR (v:Int) 1=hE v 1 from sW v 1 D_,show sR (v:Int) 2=hE v 2 from sW v 2 D_,show sR (v:Int) 3=hE v 3 from sW v 3 D_,show sR (v:Int) 4=hE v 4 from sW v 4 D_,show sR (v:Int) 5=hE v 5 from sW v 5 D_,show sR (v:Int) 6=hE v 6 from sW v 6 D_,show sR (v:Int) 7=hE v 7 from sW v 7 D_];rfl
def xB (s:List UInt8) (a n:Nat):Nat:=cn ((s.drop a).take n)
def Yw (s:List UInt8) (a n:Nat):V:=if a+n<=s.length then .yX [.int .u64 (xB s a n),.bool true] else .yX [.int .u64 0,.bool false]
theorem ib {s:List UInt8} {a n:Nat} (hn:n<=8):xB s a n<18446744073709551616:=by
 refine Nat.lt_of_lt_of_le (cT _) (Nat.le_trans (Nat.pow_le_pow_right (n:=256) D_ (show ((s.drop a).take n).length<=8 by simp;omega)) D_)
section
variable {s:List UInt8} {a n:Nat} {h:AH}
theorem zc6 (hn:n<=8) (hs:a+n<=s.length) (hl:s.length<=1000000000000):∀ (j m:Nat),j<=n->j<m->Bc (λe _=>e=.ret (.yX [.int .u64 (xB s a n),.bool true])) m (.str s) (.int .i64 a) (.int .u64 (cn (((s.drop a).take n).drop j))) (.int .i64 ((j:Int)-1)) h
 | j,0,hj,hm=>by omega
 | 0,m+1,hj,hm=>by
  rw [QI];refine z6 rB ?_;rw [decide_eq_false O_];apply yZ;refine sm (Hh _ _ _) ?_;rfl
 | j+1,m+1,hj,hm=>by
  have hlen:((s.drop a).take n).length=n:=by simp;omega
  have hlt:cn (((s.drop a).take n).drop (j+1))<256 ^ 7:=by
   refine Nat.lt_of_lt_of_le (cT _) (Nat.pow_le_pow_right D_ ?_);rw [List.length_drop,hlen];omega
  obtain ⟨c,hc⟩:∃ c,s[a+j]?=some c:=⟨s[a+j]'O_,List.getElem?_eq_getElem O_⟩
  have hc8:c.toNat<256:=UInt8.toNat_lt _;rw [QI];refine z6 rB ?_;rw [decide_eq_true O_];apply xz;refine sm (QW _ _ _ _ _ _ _) ?_;refine z6 (Kq O_) ?_;rw [show Vk .u64 ((cn (((s.drop a).take n).drop (j+1)):Nat):Int) 8=((cn (((s.drop a).take n).drop (j+1))*2 ^ 8:Nat):Int) from Me _ 8 D_ O_];refine z6 (vu (zW O_ O_)) ?_;rw [show ((a:Nat):Int)+(((j+1:Nat):Int)-1)=((a+j:Nat):Int) by omega];refine z6 (ixS (b:=c) K_ O_ (by rw [show ((a+j:Nat):Int).toNat=a+j by omega];exact hc)) ?_;refine z6 (t8 (d:=47) (k:=.u64) K_ (rL O_ O_)) ?_;refine z6 z2n ?_;rw [WS 8 _ _ O_ O_];refine sm (H3 _ _ _ _ _ _ _) ?_;refine z6 (j8 (zW O_ O_)) ?_;have e1:cn (((s.drop a).take n).drop (j+1))*2 ^ 8+c.toNat=cn (((s.drop a).take n).drop j):=by
   rw [VF (j:=j) O_];have:((s.drop a).take n).getD j 0=c:=by
    rw [List.getD_eq_getElem?_getD,List.getElem?_take_of_lt O_,List.getElem?_drop,hc];rfl
   rw [this];omega
  rw [e1,show ((j+1:Nat):Int)-1-1=(j:Int)-1 by omega];exact z7.of (zc6 hn hs hl j m O_ O_)
end
theorem getP (s:List UInt8) (a n:Nat) (hn:n<=8) (ha:a<=1000000000000) (hl:s.length<=1000000000000) (h:AH):z0q 66 [.str s,.int .i64 a,.int .i64 n] h (zO (Yw s a n) h):=by
 refine xa rfl (by unfold Yw;split <;> rfl) ?_ h;have bad:¬ a+n<=s.length->∀ c h,c=true->z78 (λe _=>e=.ret (Yw s a n)) (.str s) (.int .i64 a) (.int .i64 n) (.bool c) h:=by
  intro hh c h hc;subst hc;rw [DO];apply xz;rw [Yw,if_neg hh]
 refine C66 _ _ _ _ _ ?_;refine z6 vq ?_;rw [decide_eq_false O_];apply xc;refine z6 qI ?_;rw [decide_eq_false O_];refine sm (RZ _ _ _ _ _ _ _) ?_;refine ze j9 (xc ?_);refine z6 vq ?_;rw [decide_eq_false O_];refine sm (Qq _ _ _ _ _ _ _) ?_;refine ze j9 (xc ?_);refine ze (ue K_) ?_;refine z6 qI ?_;by_cases h1:s.length<a
 ·rw [decide_eq_true O_];refine sm (z0T _ _ _ _ _ _ _) ?_;refine ze j9 ?_;apply tA;refine sm (Wu _ _ _ _ _ _ _) ?_;refine ze gD ?_;exact z7.of (bad O_ _ _ rfl)
 ·rw [decide_eq_false O_];refine sm (z0T _ _ _ _ _ _ _) ?_;refine ze j9 (xc ?_);refine ze (ue K_) ?_;refine z6 (j8 (zW O_ O_)) ?_;refine z6 qI ?_;refine sm (Wu _ _ _ _ _ _ _) ?_;refine ze j9 ?_;by_cases h2:a+n<=s.length
  ·rw [decide_eq_false O_];refine sm (DO _ _ _ _ _ _) ?_;apply yZ;refine sm (GL _ _ _ _ _) ?_;refine z6 (j8 (zW O_ O_)) ?_;have key:=zc6 (h:=xD) hn h2 hl n (n+1) (Nat.le_refl _) O_;rw [List.drop_of_length_le (show ((s.drop a).take n).length<=n by rw [List.length_take];omega)] at key;rw [Yw,if_pos h2];exact ⟨n+1,z7.of key⟩
  ·exact z7.of (bad h2 _ _ (decide_eq_true O_))
theorem kx {s:List UInt8} {a n:Nat} (hn:n<=8) (hs:a+n<=s.length) (hl:s.length<=1000000000000) (h:AH):z0q 66 [.str s,.int .i64 a,.int .i64 n] h (zO (.yX [.int .u64 (xB s a n),.bool true]) h):=by
 have:=getP s a n hn O_ hl h;rw [Yw,if_pos hs] at this;exact this
def Ou (s:List UInt8):Nat:=og 0 s
theorem z7W (s:List UInt8) (hs:s.length<1000000) (h:AH):z0q 150 [.str s] h (zO (.int .u32 (Ou s:Nat)) h):=by
 refine C150 _ _ _ ?_;refine yf (zaH 0 D_ s hs h) ?_;exact ⟨rfl,rfl⟩
def xZ (p:List UInt8) (a:Nat) (s:List UInt8):List UInt8:=wS p a (224-a) s
theorem wm {p s:List UInt8} {a:Nat} (hp:p.length=224) (ha:a<=224):(xZ p a s).length=224:=by
 unfold xZ;rw [rP O_,hp]
theorem z67 (h:AH) (s:List UInt8):xY Pg h 5 (.str s)=some (zd s):=by
 have hu:ul Pg 5=some (.int .u8):=K_;simp only [xY,hu]
section
variable {h:AH} {m t0:Nat} {l ws:List UInt8} {own:Bool}
theorem nL {s n:Nat} (hm:h.m m=some (.cells true (.one t0) (.agg (zd l)))) (hc:Vw Pg (.one t0) [] 5=true) (hn:s+n<=l.length) :
 ∃ h',zr Pg h .copy [154,9] [.y8 (some (⟨m,.one t0,[]⟩,s)) n,.str ws]=some (.int .i64 ((min ws.length n:Nat):Int),h')/\lD h h' m (.cells true (.one t0) (.agg (zd (wS l s n ws)))):=by
 have e:(zd l).take s++(zd ws).take (min (zd ws).length n)++(zd l).drop (s+min (zd ws).length n)=zd (wS l s n ws):=by
  simp [wS,zd]
 obtain ⟨h',e1,u⟩:=Xl (P:=Pg) (t:=154) (xt:=9) (e:=5) K_ K_ hc hm (p:=[]) (l:=zd l) rfl (z67 h ws) (by rw [yV];exact hn) (v':=.agg (zd (wS l s n ws))) (by rw [e];rfl);rw [yV] at e1;exact ⟨h',e1,u⟩
theorem am (hm:h.m m=some (.cells own (.one t0) (.agg (zd l)))) (hc:Vw Pg (.one t0) [] 5=true):y9 Pg h 154 9 (.y8 (some (⟨m,.one t0,[]⟩,0)) l.length)=some (.str l):=by
 have e:=elB (a:=0) (k:=l.length) hm hc O_;rw [List.drop_zero,List.take_length] at e;exact z4c (e:=5) K_ e (.inr ⟨_,_,rfl⟩)
end
def kX (p:List UInt8):Nat:=Ou (wS p 3 (7-3) (xM 4))
theorem cz (s:List UInt8):Ou s<4294967296:=by
 have:∀ (t:List UInt8) (r:Nat),r<4294967296->nz t r<4294967296:=by
  intro t;induction t with
  | nil=>intro r hr;exact hr
  | cons b t ih =>
   intro r hr;rw [aj];refine ih _ (WX 8 _ ?_);have hb:b.toNat<2 ^ 32:=Nat.lt_of_lt_of_le (UInt8.toNat_lt b) D_;exact Nat.xor_lt_two_pow (n:=32) hr hb
 unfold Ou og;exact Nat.xor_lt_two_pow (n:=32) (this s _ (Nat.xor_lt_two_pow (n:=32) D_ D_)) D_
theorem Az {p:List UInt8} (hp:p.length=224) (h:AH):z0q 112 [.agg (zd p)] h (zO (.int .u32 (kX p:Nat)) h):=by
 refine xa (by simp only [xU,xS,yW,Bool.and_self]) rfl ?_ h;refine C112 _ _ _ ?_;refine zq (yl (xf hp)) λh1 u1=>?_;refine z6 (eX (n:=224) u1.at_ K_ (a:=3) (b:=7) rfl rfl O_ O_) ?_;refine zq (nL (ws:=[0,0,0,0]) u1.at_ K_ O_) λh2 u2=>?_;refine z6 (eX (n:=224) u2.at_ K_ (a:=0) (b:=224) rfl rfl O_ O_) ?_;have hl:(wS p 3 (7-3) [0,0,0,0]).length=224:=by rw [rP O_,hp]
 have key:=am u2.at_ K_;rw [hl] at key;refine z6 key ?_;refine yf (z7W _ O_ h2) ?_;rfl
theorem II {p:List UInt8} (hp:p.length=224) (h:AH):z0q 65 [.agg (zd p)] h (zO (.int .u64 (xB p 7 8:Nat)) h):=by
 refine xa (by simp only [xU,xS,yW,Bool.and_self]) rfl ?_ h;refine C65 _ _ _ ?_;refine zq (yl (xf hp)) λh1 u1=>?_;refine z6 (eX (n:=224) u1.at_ K_ (a:=0) (b:=224) rfl rfl O_ O_) ?_;have key:=am u1.at_ K_;rw [hp] at key;refine z6 key ?_;refine yf (kx (a:=7) (n:=8) O_ O_ O_ h1) ?_;refine z6 (show zm _ _=some _ from rfl) ?_;refine z6 (show zm _ _=some _ from rfl) ?_;rfl
def rC (kind:UInt8) (no zZ:Nat) (p:List UInt8):List UInt8 :=
 let q:=xZ (xZ (p.set 0 kind) 1 (xd no 2)) 7 (xd zZ 8)
 xZ q 3 (xd (kX q) 4)
theorem pe {kind:UInt8} {no zZ:Nat} {p:List UInt8} (hp:p.length=224):(rC kind no zZ p).length=224:=by
 unfold rC;exact wm (wm (wm (by simpa using hp) O_) O_) O_
theorem MY {kind:UInt8} {no zZ:Nat} {p:List UInt8} (hp:p.length=224) (vk:no<65536) (hl:zZ<18446744073709551616) (h:AH):z0q 137 [.int .u8 kind.toNat,.int .u16 no,.int .u64 zZ,.agg (zd p)] h (zO (.agg (zd (rC kind no zZ p))) h):=by
 refine xa (by simp only [xU,xS,yW,Bool.and_self]) (by simp only [xS,yW]) ?_ h;refine C137 _ _ _ _ _ _ ?_;refine zq (yl (xf hp)) λh1 u1=>?_;have n1:=u1.next;refine zq (yA na (xf (zI 224))) λh2 u2=>?_;have n2:=u2.next;have f1:=(u2.other _ O_).trans u1.at_;refine z6 (show zy Pg 33 (.ptr (some ⟨xD.next,.one 33,[]⟩)) (.int .i64 0)=some _ from pF 224 5 K_ O_ O_) ?_;refine zq (zM f1 K_ (mJ (i:=0) O_) K_ (Qk (i:=0) O_ kind)) λh3 u3=>?_;have n3:=u3.next;have l3:(p.set 0 kind).length=224:=by simpa using hp
 refine zg (eX (n:=224) u3.at_ K_ (a:=1) (b:=224) rfl rfl O_ O_) ?_;refine zg (t8 (d:=47) (k:=.u64) K_ (rL O_ O_)) ?_;refine ⟨_,Ye no h3,?_⟩;refine zq (nL (ws:=xd no 2) u3.at_ K_ O_) λh4 u4=>?_;have n4:=u4.next;have f4:h4.m xD.next=some (.cells true (.one 33) (.agg (zd (xZ (p.set 0 kind) 1 (xd no 2))))):=u4.at_;have l4:(xZ (p.set 0 kind) 1 (xd no 2)).length=224:=wm l3 O_;refine zg (eX (n:=224) f4 K_ (a:=7) (b:=224) rfl rfl O_ O_) ?_;refine ⟨_,AV zZ h4,?_⟩;refine zq (nL (ws:=xd zZ 8) f4 K_ O_) λh5 u5=>?_;have n5:=u5.next;have f5:h5.m xD.next=some (.cells true (.one 33) (.agg (zd (xZ (xZ (p.set 0 kind) 1 (xd no 2)) 7 (xd zZ 8))))):=u5.at_;have l5:(xZ (xZ (p.set 0 kind) 1 (xd no 2)) 7 (xd zZ 8)).length=224:=wm l4 O_;refine zg (eX (n:=224) f5 K_ (a:=3) (b:=224) rfl rfl O_ O_) ?_;refine zN (zR (p:=[]) f5 K_ rfl) ?_;refine ⟨_,Az l5 h5,?_⟩;have hs:kX (xZ (xZ (p.set 0 kind) 1 (xd no 2)) 7 (xd zZ 8))<4294967296:=cz _;refine zg (t8 (d:=47) (k:=.u64) K_ (rL O_ O_)) ?_;refine ⟨_,Pc _ h5,?_⟩;refine zq (nL (ws:=xd (kX (xZ (xZ (p.set 0 kind) 1 (xd no 2)) 7 (xd zZ 8))) 4) f5 K_ O_) λh6 u6=>?_;have n6:=u6.next;have f6:h6.m xD.next=some (.cells true (.one 33) (.agg (zd (rC kind no zZ p)))):=u6.at_;refine ze (zR (p:=[]) f6 K_ rfl) ?_;have fr:h6.m h1.next=some (.cells true (.one 33) (.agg (zd (xM 224)))):=(u6.other _ O_).trans ((u5.other _ O_).trans ((u4.other _ O_).trans ((u3.other _ O_).trans u2.at_)));refine zq (zM (p:=[]) fr K_ rfl (xf (pe hp)) rfl) λh7 u7=>?_;have q1:=zR (P:=Pg) (t:=33) (p:=[]) u7.at_ K_ (w:=.agg (zd (rC kind no zZ p))) rfl;simp only [z9] at q1;have q2:=(zK q1).1;refine yr (show zX Pg _ _ Ic=some [.agg (zd (rC kind no zZ p))] by simp [Ic,zX,zJ.get,q2]) ?_;rfl
def oF (kind:UInt8) (no:Nat) (p:List UInt8):Prop:=p.getD 0 0=kind/\xB p 1 2=no/\xB p 3 4=kX p
instance (kind:UInt8) (no:Nat) (p:List UInt8):Decidable (oF kind no p):=by unfold oF;infer_instance
theorem Ko {kind:UInt8} {no:Nat} {p:List UInt8} (hp:p.length=224) (vk:no<65536) (h:AH):z0q 64 [.int .u8 kind.toNat,.int .u16 no,.agg (zd p)] h (zO (.bool (decide (oF kind no p))) h):=by
 refine xa (by simp only [xU,xS,yW,Bool.and_self]) rfl ?_ h;refine C64 _ _ _ _ _ ?_;refine zq (yl (xf hp)) λh1 u1=>?_;have f1:=u1.at_;have sl:=eX (n:=224) (lo:=none) (hi:=none) f1 K_ (a:=0) (b:=224) rfl rfl O_ O_;have cv:=am f1 K_;rw [hp] at cv;have zdc:=cz (wS p 3 (7-3) (xM 4));refine z6 sl ?_;refine z6 cv ?_;refine yf (kx (a:=1) (n:=2) O_ O_ O_ h1) ?_;refine z6 (show zm _ _=some _ from rfl) ?_;refine z6 (show zm _ _=some _ from rfl) ?_;refine z6 sl ?_;refine z6 cv ?_;refine yf (kx (a:=3) (n:=4) O_ O_ O_ h1) ?_;refine z6 (show zm _ _=some _ from rfl) ?_;refine z6 (show zm _ _=some _ from rfl) ?_;refine z6 (show zy Pg 33 (.ptr (some ⟨xD.next,.one 33,[]⟩)) (.int .i64 0)=some _ from pF 224 5 K_ O_ O_) ?_;refine ze (zR f1 K_ (mJ (i:=0) O_)) ?_;refine z6 qe ?_;have e8:(((p.getD 0 0).toNat:Int) == (kind.toNat:Int))=decide (p.getD 0 0=kind):=by
  by_cases q:p.getD 0 0=kind
  ·rw [q];simp
  ·rw [decide_eq_false q,beq_eq_false_iff_ne];intro e;exact q (UInt8.toNat_inj.1 O_)
 rw [e8];by_cases k1:p.getD 0 0=kind
 ·rw [decide_eq_true k1];apply sE;refine z6 (t8 (d:=47) (k:=.u64) K_ (rL O_ O_)) ?_;refine z6 qe ?_;refine sm (Fi _ _ _ _ _ _) ?_;refine ze gD ?_;by_cases k2:xB p 1 2=no
  ·rw [show (((xB p 1 2:Nat):Int) == ((no:Nat):Int))=true from beq_iff_eq.2 O_];apply sE;refine ze (zR (p:=[]) f1 K_ rfl) ?_;refine yf (Az hp h1) ?_;refine z6 (t8 (d:=47) (k:=.u64) K_ (rL O_ (by unfold kX;omega))) ?_;refine z6 qe ?_;refine sm (Hb _ _ _ _) ?_;refine ze gD ?_;refine sm (Ct _ _ _) ?_;congr 2;by_cases k3:xB p 3 4=kX p
   ·rw [show (((xB p 3 4:Nat):Int) == ((kX p:Nat):Int))=true from beq_iff_eq.2 O_,decide_eq_true ⟨k1,k2,k3⟩]
   ·rw [show (((xB p 3 4:Nat):Int) == ((kX p:Nat):Int))=false from beq_eq_false_iff_ne.2 O_,decide_eq_false (λq=>k3 q.2.2)]
  ·rw [show (((xB p 1 2:Nat):Int) == ((no:Nat):Int))=false from beq_eq_false_iff_ne.2 O_];apply jo;refine sm (Hb _ _ _ _) ?_;refine ze j9 ?_;refine sm (Ct _ _ _) ?_;rw [decide_eq_false (λq=>k2 q.2.1)]
 ·rw [decide_eq_false k1];apply jo;refine sm (Fi _ _ _ _ _ _) ?_;refine ze j9 (jo ?_);refine sm (Hb _ _ _ _) ?_;refine ze j9 ?_;refine sm (Ct _ _ _) ?_;rw [decide_eq_false (λq=>k1 q.1)]
structure Dt where
 zZ:Nat
 ts:Nat
 pp:Nat
 ps:UInt8
 body:List UInt8
structure Dt.ok (d:Dt):Prop where
 zZ:d.zZ<18446744073709551616
 ts:d.ts<4294967296
 pp:d.pp<65536
 body:d.body.length=64
def Dt.v (d:Dt):V:=.agg [.int .u64 d.zZ,.int .u32 d.ts,.agg [.int .u16 d.pp,.int .u8 d.ps.toNat],.agg (zd d.body)]
def Dt.z:Dt:=⟨0,0,0,0,xM 64⟩
theorem vO {l:List UInt8} (h:l.length=64):zf Pg (.agg (zd l)) 73=true:=by
 have:zf Pg (.agg (zd l)) 73=(decide ((zd l).length=64)&&zF Pg (zd l) 5):=K_;rw [this,shB rfl,yV,decide_eq_true h];rfl
theorem tL {d:Dt} (h:d.ok):zf Pg d.v 163=true:=by
 have e:zf Pg d.v 163=(zf Pg (.agg (zd d.body)) 73&&true):=K_;rw [e,vO h.body];rfl
theorem PD:xk Pg 163=some Dt.z.v:=K_
theorem bDt:zD Pg 163 []=some Dt.z.v:=K_
theorem kW:Dt.z.ok:=⟨D_,D_,D_,zI 64⟩
theorem KL (d:Dt):xS d.v=true:=by
 show xU [_,_,_,_]=true;simp only [xU,xS,yW,Bool.and_self]
def rF (no:Nat) (d:Dt):List UInt8:=rC 1 no d.zZ (xZ ((xZ (xZ (xM 224) 15 (xd d.ts 4)) 19 (xd d.pp 2)).set 21 d.ps) 22 d.body)
theorem pL (no:Nat) {d:Dt}:(rF no d).length=224:=by
 unfold rF;refine pe (wm ?_ O_);rw [List.length_set];exact wm (wm (zI 224) O_) O_
theorem At {no:Nat} {d:Dt} (vk:no<65536) (ok:d.ok) (h:AH):z0q 97 [.int .u16 no,d.v] h (zO (.agg (zd (rF no d))) h):=by
 obtain ⟨k1,k2,k3,k4⟩:=ok;refine xa (by simp only [xU,KL,xS,Bool.and_self]) (by simp only [xS,yW]) ?_ h;refine C97 _ _ _ _ ?_;refine zq (yl (tL ⟨k1,k2,k3,k4⟩)) λh1 u1=>?_;have n1:=u1.next;refine zq (yA na (xf (zI 224))) λh2 u2=>?_;have n2:=u2.next;refine zq (yA na (xf (zI 224))) λh3 u3=>?_;have n3:=u3.next;have fd:=(u3.other _ O_).trans ((u2.other _ O_).trans u1.at_);have fr:=(u3.other _ O_).trans u2.at_;refine zg (eX (n:=224) u3.at_ K_ (a:=15) (b:=224) rfl rfl O_ O_) ?_;refine zg (yM K_) ?_;refine zN (zR fd K_ (w:=.int .u32 d.ts) rfl) ?_;refine zg (t8 (d:=47) (k:=.u64) K_ (rL O_ O_)) ?_;refine ⟨_,Pc d.ts h3,?_⟩;refine zq (nL (ws:=xd d.ts 4) u3.at_ K_ (by rw [zI];omega)) λh4 u4=>?_;have n4:=u4.next;have f4:h4.m h2.next=some (.cells true (.one 33) (.agg (zd (xZ (xM 224) 15 (xd d.ts 4))))):=u4.at_;have l4:(xZ (xM 224) 15 (xd d.ts 4)).length=224:=wm (zI 224) O_;have fd4:=(u4.other _ O_).trans fd;refine zg (eX (n:=224) f4 K_ (a:=19) (b:=224) rfl rfl O_ O_) ?_;refine zg (yM K_) ?_;refine zg (yM K_) ?_;refine zN (zR fd4 K_ (w:=.int .u16 d.pp) rfl) ?_;refine zg (t8 (d:=47) (k:=.u64) K_ (rL O_ O_)) ?_;refine ⟨_,Ye d.pp h4,?_⟩;refine zq (nL (ws:=xd d.pp 2) f4 K_ O_) λh5 u5=>?_;have n5:=u5.next;have f5:h5.m h2.next=some (.cells true (.one 33) (.agg (zd (xZ (xZ (xM 224) 15 (xd d.ts 4)) 19 (xd d.pp 2))))):=u5.at_;have l5:(xZ (xZ (xM 224) 15 (xd d.ts 4)) 19 (xd d.pp 2)).length=224:=wm l4 O_;have fd5:=(u5.other _ O_).trans fd4;refine z6 (yM K_) ?_;refine z6 (yM K_) ?_;refine ze (zR fd5 K_ (w:=.int .u8 d.ps.toNat) rfl) ?_;refine z6 (show zy Pg 33 (.ptr (some ⟨h2.next,.one 33,[]⟩)) (.int .i64 21)=some _ from pF 224 5 K_ O_ O_) ?_;refine zq (zM f5 K_ (mJ (i:=21) O_) K_ (Qk (i:=21) O_ d.ps)) λh6 u6=>?_;have n6:=u6.next;have l6:((xZ (xZ (xM 224) 15 (xd d.ts 4)) 19 (xd d.pp 2)).set 21 d.ps).length=224:=by rw [List.length_set];exact l5
 have fd6:=(u6.other _ O_).trans fd5;refine zg (eX (n:=224) u6.at_ K_ (a:=22) (b:=224) rfl rfl O_ O_) ?_;refine zg (yM K_) ?_;refine zg (SN (P:=Pg) 64 5 fd6 K_ (l:=zd d.body) rfl (a:=0) (b:=64) rfl rfl O_ O_) ?_;have eb:xY Pg h6 5 (.y8 (some (⟨xD.next,.one 163,[]++[3]⟩,0)) (64-0))=some (zd d.body):=by
  have:=Yk (P:=Pg) (e:=5) fd6 K_ (p:=[]++[3]) (l:=zd d.body) rfl (a:=0) (k:=64-0) (by rw [yV];omega);rw [this,List.drop_zero,List.take_of_length_le (by rw [yV];omega)]
 refine zq (aO (ws:=d.body) u6.at_ K_ eb O_) λh7 u7=>?_;have n7:=u7.next;have f7:h7.m h2.next=some (.cells true (.one 33) (.agg (zd (xZ ((xZ (xZ (xM 224) 15 (xd d.ts 4)) 19 (xd d.pp 2)).set 21 d.ps) 22 d.body)))):=u7.at_;have l7:=wm (s:=d.body) (a:=22) l6 O_;have fd7:=(u7.other _ O_).trans fd6;refine z6 (yM K_) ?_;refine ze (zR fd7 K_ (w:=.int .u64 d.zZ) rfl) ?_;refine ze (zR (p:=[]) f7 K_ rfl) ?_;refine yf (MY (kind:=1) l7 vk k1 h7) ?_;have fr7:h7.m h1.next=some (.cells true (.one 33) (.agg (zd (xM 224)))):=(u7.other _ O_).trans ((u6.other _ O_).trans ((u5.other _ O_).trans ((u4.other _ O_).trans fr)));refine zq (zM (p:=[]) fr7 K_ rfl (xf (pL no (d:=d))) rfl) λh8 u8=>?_;have q1:=zR (P:=Pg) (t:=33) (p:=[]) u8.at_ K_ (w:=.agg (zd (rF no d))) rfl;simp only [z9] at q1;have q2:=(zK q1).1;refine yr (show zX Pg _ _ R97=some [.agg (zd (rF no d))] by simp [R97,zX,zJ.get,q2]) ?_;rfl
theorem uI (s:List UInt8) (a n:Nat):xB s a n<256 ^ n :=
 Nat.lt_of_lt_of_le (cT _) (Nat.pow_le_pow_right D_ (by simp;omega))
def Aw (P:Program) (t:TypeId) (t0 e:Nat):Bool:=(match ul P t with | some (.slice e')=>e' == e | _=>false)&&(match Go.Ab.rowAt P (.one t0) [] with | some (_,e')=>e' == e | none=>false)&&(ul P e).isSome
theorem EO {t e t0:Nat} {m s len:Nat} {k:IntKind} {i:Int} (hc:Aw Pg t t0 e=true) (h0:0<=i) (h1:i<(len:Int)) :
 zy Pg t (.y8 (some (⟨m,.one t0,[]⟩,s)) len) (.int k i)=some (.ptr (some ⟨m,.one t0,[s+i.toNat]⟩)):=by
 simp only [Aw,Bool.and_eq_true] at hc;obtain ⟨⟨h2,h3⟩,h4⟩:=hc;split at h2
 ·rename_i e' hu;simp only [beq_iff_eq] at h2;subst h2;split at h3
  ·rename_i o e2 hr;simp only [beq_iff_eq] at h3;subst h3;simp only [zy,hu,hr];rw [if_pos (by simp [h4,h0,h1])];rfl
  ·cases h3
 ·cases h2
def Xk (l:List UInt8):Prop:=∀ i,i<l.length->l.getD i 0=0
instance (l:List UInt8):Decidable (Xk l):=by unfold Xk;infer_instance
def rq (p:List UInt8):Dt:=⟨xB p 7 8,xB p 15 4,xB p 19 2,p.getD 21 0,(p.drop 22).take 64⟩
def ur (no:Nat) (p:List UInt8):Prop:=oF 1 no p/\Xk (p.drop 86)
instance (no:Nat) (p:List UInt8):Decidable (ur no p):=by unfold ur;infer_instance
def qK (no:Nat) (p:List UInt8):V:=if ur no p then .yX [(rq p).v,.int .i64 0] else .yX [Dt.z.v,.int .i64 2]
theorem rZ {p:List UInt8} (hp:p.length=224):(rq p).ok:=⟨ib D_,uI p 15 4,uI p 19 2,by show ((p.drop 22).take 64).length=64;simp;omega⟩
section
variable {no:Nat} {p:List UInt8} {h:AH} {n1 n2 m:Nat}
abbrev dtP (n:Nat):V:=.ptr (some ⟨n,.one 163,[]⟩)
theorem Mi (vk:¬ ur no p) (f2:∃ w,h.m n2=some (.cells true (.one 163) w)):z0 (z03 (zD Pg 163 []) h) (λv11 NH=>z0 (zh Pg NH 163 (dtP n2) v11) λ_ JQ=>yq (zX Pg [(4,dtP n2),(5,.int .i64 2)] JQ MW) λv=>(λ(e:yO) (_:AH)=>e=.ret (qK no p)) (.ret v) JQ):=by
 obtain ⟨w,f2⟩:=f2;refine z6 bDt ?_;refine zq (zM (p:=[]) f2 K_ rfl (tL kW) rfl) λh1 u1=>?_;have q1:=zR (P:=Pg) (t:=163) (p:=[]) u1.at_ K_ (w:=Dt.z.v) rfl;simp only [z9] at q1;have q2:=(zK q1).1;refine yr (show zX Pg _ _ MW=some [Dt.z.v,.int .i64 2] by simp [MW,zX,zJ.get,q2]) ?_;rw [qK,if_neg vk];rfl
theorem FG (hp:p.length=224) (hok:ur no p) (o:n1<h.next/\n2<h.next) (f1:h.m n1=some (.cells true (.one 33) (.agg (zd p)))) (f2:∃ w,h.m n2=some (.cells true (.one 163) w)):z6n (λe _=>e=.ret (qK no p)) (PF n1) (dtP n2) h:=by
 obtain ⟨w,f2⟩:=f2;rw [E6];have cv:=am f1 K_;rw [hp] at cv;have b4:=uI p 15 4;have b2:=uI p 19 2;refine z6 (eX (n:=224) f1 K_ (a:=0) (b:=224) rfl rfl O_ O_) ?_;refine z6 cv ?_;refine ze (zR (p:=[]) f1 K_ rfl) ?_;refine yf (II hp h) ?_;refine z6 (show zD Pg 163 [(0,.int .u64 (xB p 7 8:Nat))]=some (Dt.v ⟨xB p 7 8,0,0,0,xM 64⟩) from K_) ?_;refine zq (yA PD (tL kW)) λh1 u1=>?_;have m1:=u1.next;refine zq (zM (p:=[]) u1.at_ K_ rfl (tL (d:=⟨xB p 7 8,0,0,0,xM 64⟩) ⟨ib D_,Nat.zero_lt_succ _,Nat.zero_lt_succ _,zI 64⟩) (v':=Dt.v ⟨xB p 7 8,0,0,0,xM 64⟩) rfl) λh2 u2=>?_;have m2:=u2.next;refine yf (kx (a:=15) (n:=4) O_ O_ O_ h2) ?_;refine z6 (show zm _ _=some _ from rfl) ?_;refine z6 (show zm _ _=some _ from rfl) ?_;refine yf (kx (a:=19) (n:=2) O_ O_ O_ h2) ?_;refine z6 (show zm _ _=some _ from rfl) ?_;refine z6 (show zm _ _=some _ from rfl) ?_;refine z6 (t8 (d:=56) (k:=.u32) K_ (XN O_ O_)) ?_;refine z6 (yM K_) ?_;refine zq (zM u2.at_ K_ (w:=.int .u32 0) rfl K_ (v':=Dt.v ⟨xB p 7 8,xB p 15 4,0,0,xM 64⟩) rfl) λh3 u3=>?_;have m3:=u3.next;refine z6 (t8 (d:=41) (k:=.u16) K_ (jq O_ O_)) ?_;have f13:h3.m n1=some (.cells true (.one 33) (.agg (zd p))):=(u3.other _ O_).trans ((u2.other _ O_).trans ((u1.other _ O_).trans f1));have f23:h3.m n2=some (.cells true (.one 163) w):=(u3.other _ O_).trans ((u2.other _ O_).trans ((u1.other _ O_).trans f2));refine z6 (show zy Pg 33 (.ptr (some ⟨n1,.one 33,[]⟩)) (.int .i64 21)=some _ from pF 224 5 K_ O_ O_) ?_;refine ze (zR f13 K_ (mJ (i:=21) O_)) ?_;refine z6 (show zD Pg 58 [(0,.int .u16 (xB p 19 2:Nat)),(1,.int .u8 ((p.getD 21 0).toNat:Nat))]=some (.agg [.int .u16 (xB p 19 2:Nat),.int .u8 ((p.getD 21 0).toNat:Nat)]) by kernel_rfl) ?_;refine z6 (yM K_) ?_;refine zq (zM u3.at_ K_ (w:=.agg [.int .u16 0,.int .u8 0]) rfl K_ (v':=Dt.v ⟨xB p 7 8,xB p 15 4,xB p 19 2,p.getD 21 0,xM 64⟩) rfl) λh4 u4=>?_;have m4:=u4.next;refine zg (yM K_) ?_;refine zg (SN (P:=Pg) 64 5 u4.at_ K_ (l:=zd (xM 64)) rfl (a:=0) (b:=64) rfl rfl O_ O_) ?_;have f14:=(u4.other _ O_).trans f13;refine zg (eX (n:=224) f14 K_ (a:=22) (b:=224) rfl rfl O_ O_) ?_;have el:=elB (a:=22) (k:=224-22) f14 K_ O_;have eb:(zd (xM 64)).take 0++(zd ((p.drop 22).take (224-22))).take (min (zd ((p.drop 22).take (224-22))).length (64-0))++(zd (xM 64)).drop (0+min (zd ((p.drop 22).take (224-22))).length (64-0))=zd ((p.drop 22).take 64):=by
  have l1:(zd ((p.drop 22).take (224-22))).length=202:=by rw [yV];simp;omega
  have e2:(zd ((p.drop 22).take (224-22))).take (min 202 (64-0))=zd ((p.drop 22).take 64):=by rw [eR,List.take_take,show min (min 202 (64-0)) (224-22)=64 by decide]
  rw [l1,e2];simp [zd,xM]
 refine zq (Xl (P:=Pg) (t:=154) (xt:=154) (e:=5) K_ K_ K_ u4.at_ (p:=[]++[3]) (l:=zd (xM 64)) rfl el (by rw [yV,zI];omega) (v':=(rq p).v) (by rw [eb];rfl)) λh5 u5=>?_;have m5:=u5.next;refine ze (zR (p:=[]) u5.at_ K_ (w:=(rq p).v) rfl) ?_;have f25:=(u5.other _ O_).trans ((u4.other _ O_).trans f23);refine zq (zM (p:=[]) f25 K_ rfl (tL (rZ hp)) rfl) λh6 u6=>?_;have q1:=zR (P:=Pg) (t:=163) (p:=[]) u6.at_ K_ (w:=(rq p).v) rfl;simp only [z9] at q1;have q2:=(zK q1).1;refine yr (show zX Pg _ _ MW=some [(rq p).v,.int .i64 0] by simp [MW,zX,zJ.get,q2]) ?_;rw [qK,if_pos hok];rfl
theorem PN (hp:p.length=224) (qU:oF 1 no p) (o:n1<h.next/\n2<h.next) (f1:h.m n1=some (.cells true (.one 33) (.agg (zd p)))) (f2:∃ w,h.m n2=some (.cells true (.one 163) w)):∀ (j i m:Nat),i+j=138->j<m->(∀ k,k<i->(p.drop 86).getD k 0=0)->MR (λe _=>e=.ret (qK no p)) m (PF n1) (dtP n2) (.y8 (some (⟨n1,.one 33,[]⟩,86)) 138) (.int .i64 138) (.int .i64 i) h
 | j,i,0,sT,hm,_=>by omega
 | 0,i,m+1,sT,hm,hz=>by
  obtain rfl:i=138:=O_;rw [XF];refine z6 vq ?_;rw [decide_eq_false O_];apply yZ;exact z7.of (FG hp ⟨qU,λk hk=>hz k (by simp at hk;omega)⟩ o f1 f2)
 | j+1,i,m+1,sT,hm,hz=>by
  rw [XF];refine z6 vq ?_;rw [decide_eq_true O_];apply xz;refine sm (G7 _ _ _ _ _ _ _ _) ?_;have hg:(p.drop 86).getD i 0=p.getD (86+i) 0:=by simp only [List.getD_eq_getElem?_getD,List.getElem?_drop]
  refine z6 (EO (e:=5) K_ O_ O_) ?_;refine ze (zR f1 K_ (w:=.int .u8 ((p.getD (86+i) 0).toNat:Nat)) (by
   rw [show 86+((i:Nat):Int).toNat=86+i by omega];exact v7 (by simp [zd,List.getElem?_eq_getElem (show 86+i<p.length from O_)]))) ?_
  refine z6 nl ?_;refine wJ (λq=>?_) (λq=>?_)
  ·replace q:=oO q
   refine Mi (λw=>q ?_) f2;have:=w.2 i (by simp;omega);rw [hg] at this;rw [this];rfl
  ·replace q:=uY q
   refine sm (FR _ _ _ _ _ _ _ _) ?_;refine z6 (vu (zW O_ O_)) ?_;refine z7.of (PN hp qU o f1 f2 j (i+1) m O_ O_ λk hk=>?_);by_cases e:k=i
   ·subst e;rw [hg];exact UInt8.toNat_inj.1 (by show _=0;omega)
   ·exact hz k O_
end
theorem ME {no:Nat} {p:List UInt8} (hp:p.length=224) (vk:no<65536) (h:AH):z0q 69 [.int .u16 no,.agg (zd p)] h (zO (qK no p) h):=by
 refine xa (by simp only [xU,xS,yW,Bool.and_self]) (by unfold qK;split <;> simp only [xS,xU,KL,Bool.and_self]) ?_ h;refine C69 _ _ _ _ ?_;refine zq (yl (xf hp)) λh1 u1=>?_;have n1:=u1.next;refine zq (yA PD (tL kW)) λh2 u2=>?_;have n2:=u2.next;have f1:=(u2.other _ O_).trans u1.at_;refine ze (zR (p:=[]) f1 K_ rfl) ?_;refine yf (Ko (kind:=1) hp vk h2) ?_;refine z6 mT ?_;by_cases qU:oF 1 no p
 ·rw [decide_eq_true qU];apply yZ;refine sm (CP _ _ _ _) ?_;refine z6 (eX (n:=224) f1 K_ (a:=86) (b:=224) rfl rfl O_ O_) ?_;refine ze (wa K_) ?_;exact ⟨139,z7.of (PN hp qU ⟨O_,O_⟩ f1 ⟨_,u2.at_⟩ 138 0 139 O_ O_ λk hk=>by omega)⟩
 ·rw [decide_eq_false qU];apply xz;exact Mi (λw=>qU w.1) ⟨_,u2.at_⟩
end Go.Proofs.YtdbgifdfdhhjcaaGreat.Sh
namespace Go.Ab
section
open Go Go.RowKit
variable {P:Program}
theorem Uu {K X:V->AH->Prop} {v:V} {h:AH} (c:K v h):zS K X (.ret v) h:=c
theorem cX (a b:V):zm (.yX [a,b]) 0=some a:=rfl
theorem cP (a b:V):zm (.yX [a,b]) 1=some b:=rfl
theorem u_nt:qd .not (.bool true)=some (.bool false):=rfl
theorem u_nf:qd .not (.bool false)=some (.bool true):=rfl
theorem Zd {a:PA} {h:AH}:y7 (.ptr (some a)) h=some (.ptr (some a),h):=rfl
theorem pA {x:Option V} {v:V} {h:AH} (hx:x=some v):z03 x h=some (v,h):=by rw [hx];rfl
section
variable {K:V->AH->Prop} {KO:V->Prop} {h:AH} {t s d:TypeId} {k k0:IntKind} {a b n:Int} {c:Bool}
theorem zx {n:Nat} {ty:nC} {p:List Nat} {f:Nat} (hc:D9 P s ty p f=true) (q:K (.ptr (some ⟨n,ty,p++[f]⟩)) h):z0 (z03 (z5 P s (.ptr (some ⟨n,ty,p⟩)) f) h) K:=z6 (yM hc) q
theorem ym {n:Nat} {ty:nC} {p:List Nat} {f:Nat} (hc:D9 P s ty p f=true) (q:KO (.ptr (some ⟨n,ty,p++[f]⟩))):zc (zj (z03 (z5 P s (.ptr (some ⟨n,ty,p⟩)) f) h)) KO:=zg (yM hc) q
theorem wj {x y:V} (q:K x h):z0 (z03 (zm (.yX [x,y]) 0) h) K:=z6 (cX x y) q
theorem z8M {x y:V} (q:KO x):zc (zj (z03 (zm (.yX [x,y]) 0) h)) KO:=zg (cX x y) q
theorem wl {x y:V} (q:K y h):z0 (z03 (zm (.yX [x,y]) 1) h) K:=z6 (cP x y) q
theorem zb3 {x y:V} (q:KO y):zc (zj (z03 (zm (.yX [x,y]) 1) h)) KO:=zg (cP x y) q
theorem xn (hb:a=b) (q:K (.bool true) h):z0 (z03 (zi P .eql t (.int k a) (.int k b) c) h) K:=z6 (Qc hb) q
theorem U3 (hb:a=b) (q:KO (.bool true)):zc (zj (z03 (zi P .eql t (.int k a) (.int k b) c) h)) KO:=zg (Qc hb) q
theorem yB (hb:¬ a=b) (q:K (.bool false) h):z0 (z03 (zi P .eql t (.int k a) (.int k b) c) h) K:=z6 (Pz hb) q
theorem U4 (hb:¬ a=b) (q:KO (.bool false)):zc (zj (z03 (zi P .eql t (.int k a) (.int k b) c) h)) KO:=zg (Pz hb) q
theorem xe (hb:¬ a=b) (q:K (.bool true) h):z0 (z03 (zi P .neq t (.int k a) (.int k b) c) h) K:=z6 (Ps hb) q
theorem L5 (hb:¬ a=b) (q:KO (.bool true)):zc (zj (z03 (zi P .neq t (.int k a) (.int k b) c) h)) KO:=zg (Ps hb) q
theorem yx (hb:a=b) (q:K (.bool false) h):z0 (z03 (zi P .neq t (.int k a) (.int k b) c) h) K:=z6 (RF hb) q
theorem Mx (hb:a=b) (q:KO (.bool false)):zc (zj (z03 (zi P .neq t (.int k a) (.int k b) c) h)) KO:=zg (RF hb) q
theorem xH (hb:a<b) (q:K (.bool true) h):z0 (z03 (zi P .lss t (.int k a) (.int k b) c) h) K:=z6 (cE hb) q
theorem UG (hb:a<b) (q:KO (.bool true)):zc (zj (z03 (zi P .lss t (.int k a) (.int k b) c) h)) KO:=zg (cE hb) q
theorem yD (hb:¬ a<b) (q:K (.bool false) h):z0 (z03 (zi P .lss t (.int k a) (.int k b) c) h) K:=z6 (cq hb) q
theorem VH (hb:¬ a<b) (q:KO (.bool false)):zc (zj (z03 (zi P .lss t (.int k a) (.int k b) c) h)) KO:=zg (cq hb) q
theorem lu (hb:a<=b) (q:K (.bool true) h):z0 (z03 (zi P .leq t (.int k a) (.int k b) c) h) K:=z6 (Iu hb) q
theorem bY (hb:¬ a<=b) (q:K (.bool false) h):z0 (z03 (zi P .leq t (.int k a) (.int k b) c) h) K:=z6 (E0 hb) q
theorem vT (hb:a>b) (q:K (.bool true) h):z0 (z03 (zi P .gtr t (.int k a) (.int k b) c) h) K:=z6 (Qe hb) q
theorem Ma (hb:a>b) (q:KO (.bool true)):zc (zj (z03 (zi P .gtr t (.int k a) (.int k b) c) h)) KO:=zg (Qe hb) q
theorem xA (hb:¬ a>b) (q:K (.bool false) h):z0 (z03 (zi P .gtr t (.int k a) (.int k b) c) h) K:=z6 (Qr hb) q
theorem Ka (hb:¬ a>b) (q:KO (.bool false)):zc (zj (z03 (zi P .gtr t (.int k a) (.int k b) c) h)) KO:=zg (Qr hb) q
theorem rj (hb:a>=b) (q:K (.bool true) h):z0 (z03 (zi P .geq t (.int k a) (.int k b) c) h) K:=z6 (QO hb) q
theorem qm (hb:¬ a>=b) (q:K (.bool false) h):z0 (z03 (zi P .geq t (.int k a) (.int k b) c) h) K:=z6 (GT hb) q
theorem wq  (q:K (.bool false) h):z0 (z03 (qd .not (.bool true)) h) K:=z6 (u_nt) q
theorem tv  (q:K (.bool true) h):z0 (z03 (qd .not (.bool false)) h) K:=z6 (u_nf) q
theorem zE (h1:-9223372036854775808<=a+b) (h2:a+b<9223372036854775808) (q:K (.int .i64 (a+b)) h):z0 (z03 (zi P .add t (.int .i64 a) (.int .i64 b) c) h) K:=z6 (vu (zW h1 h2)) q
theorem rJ (h1:-9223372036854775808<=a+b) (h2:a+b<9223372036854775808) (q:KO (.int .i64 (a+b))):zc (zj (z03 (zi P .add t (.int .i64 a) (.int .i64 b) c) h)) KO:=zg (vu (zW h1 h2)) q
theorem Sy (h1:0<=a+b) (h2:a+b<18446744073709551616) (q:K (.int .u64 (a+b)) h):z0 (z03 (zi P .add t (.int .u64 a) (.int .u64 b) c) h) K:=z6 (vu (rL h1 h2)) q
theorem jr (h1:0<=a+b) (h2:a+b<4294967296) (q:K (.int .u32 (a+b)) h):z0 (z03 (zi P .add t (.int .u32 a) (.int .u32 b) c) h) K:=z6 (vu (XN h1 h2)) q
theorem rQ (h1:-9223372036854775808<=a-b) (h2:a-b<9223372036854775808) (q:K (.int .i64 (a-b)) h):z0 (z03 (zi P .sub t (.int .i64 a) (.int .i64 b) c) h) K:=z6 (j8 (zW h1 h2)) q
theorem bT (h1:-9223372036854775808<=a-b) (h2:a-b<9223372036854775808) (q:KO (.int .i64 (a-b))):zc (zj (z03 (zi P .sub t (.int .i64 a) (.int .i64 b) c) h)) KO:=zg (j8 (zW h1 h2)) q
theorem TQ (h1:-9223372036854775808<=a*b) (h2:a*b<9223372036854775808) (q:K (.int .i64 (a*b)) h):z0 (z03 (zi P .mul t (.int .i64 a) (.int .i64 b) c) h) K:=z6 (ij (zW h1 h2)) q
theorem z4i (h0:0<b) (h1:0<=a) (h2:a/b<9223372036854775808) (q:KO (.int .i64 (a/b))):zc (zj (z03 (zi P .quo t (.int .i64 a) (.int .i64 b) c) h)) KO:=zg (zcv h0 h1 (zW (by have:=Int.ediv_nonneg h1 (Int.le_of_lt h0);omega) h2)) q
theorem tQ (hc:gV P s d .i64=true) (h1:-9223372036854775808<=n) (h2:n<9223372036854775808) (q:K (.int .i64 n) h):z0 (z03 (y9 P h s d (.int k0 n)) h) K:=z6 (t8 hc (zW h1 h2)) q
theorem pk (hc:gV P s d .i64=true) (h1:-9223372036854775808<=n) (h2:n<9223372036854775808) (q:KO (.int .i64 n)):zc (zj (z03 (y9 P h s d (.int k0 n)) h)) KO:=zg (t8 hc (zW h1 h2)) q
theorem nh (hc:gV P s d .u64=true) (h1:0<=n) (h2:n<18446744073709551616) (q:K (.int .u64 n) h):z0 (z03 (y9 P h s d (.int k0 n)) h) K:=z6 (t8 hc (rL h1 h2)) q
theorem oU (hc:gV P s d .u64=true) (h1:0<=n) (h2:n<18446744073709551616) (q:KO (.int .u64 n)):zc (zj (z03 (y9 P h s d (.int k0 n)) h)) KO:=zg (t8 hc (rL h1 h2)) q
theorem YF (hc:gV P s d .u32=true) (h1:0<=n) (h2:n<4294967296) (q:KO (.int .u32 n)):zc (zj (z03 (y9 P h s d (.int k0 n)) h)) KO:=zg (t8 hc (XN h1 h2)) q
theorem kh (hc:gV P s d .u16=true) (h1:0<=n) (h2:n<65536) (q:K (.int .u16 n) h):z0 (z03 (y9 P h s d (.int k0 n)) h) K:=z6 (t8 hc (jq h1 h2)) q
theorem YO (hc:gV P s d .u16=true) (h1:0<=n) (h2:n<65536) (q:KO (.int .u16 n)):zc (zj (z03 (y9 P h s d (.int k0 n)) h)) KO:=zg (t8 hc (jq h1 h2)) q
theorem bX (hc:gV P s d .u8=true) (h1:0<=n) (h2:n<256) (q:K (.int .u8 n) h):z0 (z03 (y9 P h s d (.int k0 n)) h) K:=z6 (t8 hc (AA h1 h2)) q
theorem Zg (hc:gV P s d .u8=true) (h1:0<=n) (h2:n<256) (q:KO (.int .u8 n)):zc (zj (z03 (y9 P h s d (.int k0 n)) h)) KO:=zg (t8 hc (AA h1 h2)) q
theorem zl {n:Nat} {ty:nC} {p:List Nat} {b:Bool} {v w:V} (hm:h.m n=some (.cells b ty v)) (hc:my P ty p t=true) (hg:yF v p=some w) (q:K w h):z0 (z9 P h t (.ptr (some ⟨n,ty,p⟩))) K:=ze (zR hm hc hg) q
theorem zY {n:Nat} {ty:nC} {p:List Nat} {b:Bool} {v w:V} (hm:h.m n=some (.cells b ty v)) (hc:my P ty p t=true) (hg:yF v p=some w) (q:KO w):zc (zj (z9 P h t (.ptr (some ⟨n,ty,p⟩)))) KO:=zN (zR hm hc hg) q
theorem yb {x:PA} (q:K (.ptr (some x)) h):z0 (y7 (.ptr (some x)) h) K:=ze (Zd) q
theorem xy {x:PA} (q:KO (.ptr (some x))):zc (zj (y7 (.ptr (some x)) h)) KO:=zN (Zd) q
theorem xq {x:List UInt8} (hc:(match ul P t with | some .string=>true | _=>false)=true) (q:K (.int .i64 x.length) h):z0 (zr P h .len [t] [.str x]) K:=ze (ue hc) q
theorem jP {x:List UInt8} (hc:(match ul P t with | some .string=>true | _=>false)=true) (q:KO (.int .i64 x.length)):zc (zj (zr P h .len [t] [.str x])) KO:=zN (ue hc) q
theorem jX {x:Option (PA × Nat)} {n:Nat} (hc:(match ul P t with | some (.slice _)=>true | _=>false)=true) (q:K (.int .i64 n) h):z0 (zr P h .len [t] [.y8 x n]) K:=ze (wa hc) q
theorem WK {x:Option (PA × Nat)} {n:Nat} (hc:(match ul P t with | some (.slice _)=>true | _=>false)=true) (q:KO (.int .i64 n)):zc (zj (zr P h .len [t] [.y8 x n])) KO:=zN (wa hc) q
theorem wc {x y:V} (q:K x h):z0 (yc (.bool true) x y h) K:=ze gD q
theorem yi {x y:V} (q:K y h):z0 (yc (.bool false) x y h) K:=ze j9 q
theorem ox {Q:Prop} {n:Nat} {ty:nC} {p:List Nat} {b:Bool} {v w:V} (hm:h.m n=some (.cells b ty v)) (hc:my P ty p t=true) (hg:yF v p=some w) (q:Q):z9 P h t (.ptr (some ⟨n,ty,p⟩))=some (w,h)/\Q:=⟨zR hm hc hg,q⟩
theorem Iz {Q:Prop} {x:List UInt8} (hc:(match ul P t with | some .string=>true | _=>false)=true) (q:Q):zr P h .len [t] [.str x]=some (.int .i64 x.length,h)/\Q:=⟨ue hc,q⟩
theorem z9J {Q:Prop} (hc:gV P s d .u64=true) (h1:0<=n) (h2:n<18446744073709551616) (q:Q):z03 (y9 P h s d (.int k0 n)) h=some (.int .u64 n,h)/\Q:=⟨pA (t8 hc (rL h1 h2)),q⟩
end
end
end Go.Ab
namespace Go.Proofs.YtdbgifdfdhhjcaaGreat.Sh
open Go Go.Ab Go.RowKit
open Go.Proofs.YtdbgifdfdhhjcaaGreat.Ru (Pg yL)
set_option maxRecDepth 10000
set_option linter.unusedSectionVars false
abbrev VC (n3:Nat):V:=.ptr (some ⟨n3,.one 33,[]⟩)
def vM (u:Bool) (n:Nat):V:=.agg [.bool u,.int .u16 n]
theorem je (u:Bool) (n:Nat):zf Pg (vM u n) 43=true:=K_
theorem Bp {no:Nat} {p:List UInt8} (hp:p.length=224) (vk:no<65536) (h:AH):z0q 60 [vM false no,.agg (zd p)] h (zO (.bool (decide (ur no p))) h):=by
 refine xa (by simp only [vM,xU,xS,yW,Bool.and_self]) rfl ?_ h;refine C60 _ _ _ _ ?_;refine zq (yl (je false no)) λh1 u1=>?_;have n1:=u1.next;refine zq (yl (xf hp)) λh2 u2=>?_;have n2:=u2.next;have f1:=(u2.other _ O_).trans u1.at_;refine z6 (yM K_) ?_;refine ze (zR f1 K_ (w:=.bool false) rfl) ?_;apply yZ;refine sm (DR _ _ _ _) ?_;refine z6 (yM K_) ?_;refine ze (zR f1 K_ (w:=.int .u16 no) rfl) ?_;refine ze (zR (p:=[]) u2.at_ K_ rfl) ?_;refine yf (ME hp vk h2) ?_;have fin:∀ (d:Dt) (e:Int),d.ok->(e == 0)=decide (ur no p)->qK no p=.yX [d.v,.int .i64 e]->z0 (z03 (zm (qK no p) 0) h2) λv35 h36 =>
  z0 (z03 (zm (qK no p) 1) h36) λv37 h38=>z0 (zV Pg h38 163) λv39 h40=>z0 (zh Pg h40 163 v39 v35) λ_ h42 =>
  z0 (z03 (zi Pg .eql 36 v37 (V.int .i64 0) true) h42) λv43 h44=>(λ(e:yO) (_:AH)=>e=.ret (.bool (decide (ur no p)))) (.ret v43) h44:=by
  intro d e od he hv;rw [hv];refine z6 (cX _ _) ?_;refine z6 (cP _ _) ?_;refine zq (yA PD (tL kW)) λh3 u3=>?_;refine zq (zM (p:=[]) u3.at_ K_ rfl (tL od) rfl) λh4 u4=>?_;refine z6 qe ?_;rw [he]
 by_cases c:ur no p
 ·exact fin (rq p) 0 (rZ hp) (by rw [decide_eq_true c];rfl) (by rw [qK,if_pos c])
 ·exact fin Dt.z 2 kW (by rw [decide_eq_false c];rfl) (by rw [qK,if_neg c])
theorem I9 {no:Nat} (vk:no<65536) (h:AH):z0q 44 [vM false no] h (zO (.agg (zd (rF no Dt.z))) h):=by
 refine xa (by simp only [vM,xU,xS,Bool.and_self]) (by simp only [xS,yW]) ?_ h;refine C44 _ _ _ ?_;refine zq (yl (je false no)) λh1 u1=>?_;have n1:=u1.next;refine zq (yA na (xf (zI 224))) λh2 u2=>?_;have n2:=u2.next;have f1:=(u2.other _ O_).trans u1.at_;refine z6 (yM K_) ?_;refine ze (zR f1 K_ (w:=.bool false) rfl) ?_;apply yZ;refine sm (GW _ _ _ _) ?_;refine z6 (yM K_) ?_;refine ze (zR f1 K_ (w:=.int .u16 no) rfl) ?_;refine z6 bDt ?_;refine yf (At vk kW h2) ?_;refine zq (zM (p:=[]) u2.at_ K_ rfl (xf (pL no (d:=Dt.z))) rfl) λh3 u3=>?_;have q1:=zR (P:=Pg) (t:=33) (p:=[]) u3.at_ K_ (w:=.agg (zd (rF no Dt.z))) rfl;simp only [z9] at q1;have q2:=(zK q1).1;refine yr (show zX Pg _ _ An=some [.agg (zd (rF no Dt.z))] by simp [An,zX,zJ.get,q2]) ?_;rfl
section
set_option maxRecDepth 100000
noncomputable section
variable (Q:yO->AH->Prop) (ds:List AD) (n n1 n2:Nat) (x0 x1 x2 x3 x4 x5 x6 x7 x9 x11 x12 x13 x14 x15 x17 x21 x23 x27 x28 x29 x30 x31 x57 x58 x59:V) (a0 a1 a2 a3 a4 a5 a6:V) (h:AH)
def B32:=bd Tryz.f32
def R32:List ResultVar:=[.tmp 2]
abbrev N32:=9
def K32:KT:=(sQ lF (jN (sQ lF (.two (sQ lF lF [2]) lF) [0,4]) (sQ lF lF [2]) [0]) [0])
def z8U:Prop:=xG Pg N32 B32 K32 [1,1] [] (zn Pg R32 Q) [(0,x0)] h
theorem C5:z8U Q x0 h=(
 z0 (y7 x0 h) λb c =>
 z0 (z03 (z0e 179 b 8) c) λd e =>
 z0 (z0o e 47 d) λf g =>
 Q (.ret f) g):=K_
theorem C32 (c :
 z0 (z03 (z0s .eql 83 a0 (V.ptr none) true) h) λb c =>
 zP b (
 Q (.ret (V.int .u64 0)) c) (
 z7 (z8U Q a0 c))):z0q 32 [a0] h Q :=
 mkC Tryz.func32 B32 N32 K32 R32 c
def B33:=bd Tryz.f33
def R33:List ResultVar:=[.tmp 2]
abbrev N33:=88
def K33:KT:=(sQ lF (jN (sQ lF (.two (sQ lF lF [2]) lF) [0,9]) (jN (sQ lF (.two lF lF) [0,14]) (jN (sQ lF (.two (sQ lF lF [2]) lF) [0,27]) (sQ lF (jN (sQ lF (.two (jN (sQ lF (sQ lF (.two (sQ lF lF [2]) lF) [0,3,4,41]) [0,3,4]) (sQ lF lF [0,3]) [0,3]) lF) [0,3,35]) (jN (sQ lF (sQ lF (.two (sQ lF lF [2]) lF) [0,5,52]) [0,5]) (jN (sQ lF (.one (.loop (sQ lF (jN (.two lF lF) (jN (.one (sQ lF (.nG [10,11,14]) [0,7,57,58,59])) lF [0,57,58,59]) [0,57,58,59]) [0,57,58,59,60]) [0,57,58,59])) [0,57,58,59]) (sQ lF (sQ lF (sQ lF lF [2]) []) [0]) [0]) [0]) [0,3]) [0,3]) [0]) [0]) [0]) [0])
def EN (p l:List Nat) (e:zJ):Prop:=xG Pg N33 B33 K33 p l (zn Pg R33 Q) e h
def Hk:Prop:=EN Q h [1,1,1,1,1,1,1,0,1,0,0,1,1,1] [n] [(0,x0),(57,x57),(58,x58),(59,x59)]
def zaM:Prop:=EN Q h [1,1,1,1,1,1,1,0,1,0,0,1,1] [n] [(0,x0),(57,x57),(58,x58),(59,x59)]
def zai:Prop:=EN Q h [1,1,1,1,1,1,1,1] [] [(0,x0)]
def LQ:Prop:=xX Pg N33 B33 K33 [1,1,1,1,1,1,1,0,1,0] [] n (zn Pg R33 Q) [(0,x0),(57,x57),(58,x58),(59,x59)] h
def z6t:Prop:=EN Q h [1,1,1,1,1,1,1] [] [(0,x0)]
def z9G:Prop:=EN Q h [1,1,1,1,1,1] [] [(0,x0),(3,x3)]
def zc3:Prop:=EN Q h [1,1,1,1,1,0,1,0,1] [] [(0,x0),(3,x3)]
def zch:Prop:=EN Q h [1,1,1,1] [] [(0,x0)]
def zar:Prop:=EN Q h [1,1,1] [] [(0,x0)]
def z9S:Prop:=EN Q h [1,1] [] [(0,x0)]
theorem CX:Hk Q n x0 x57 x58 x59 h=(
 z0 (z03 (z0s .add 3 x59 (V.int .i64 1) true) h) λb c =>
 z7 (LQ Q n x0 x57 x58 b c)):=K_
theorem HE:zaM Q n x0 x57 x58 x59 h=(
 z0 (z03 (z0w 177 x57 x59) h) λb c =>
 z0 (z0o c 182 b) λd e =>
 z0 (z0D e 182) λf g =>
 z0 (z0t g 182 f d) λ_ i =>
 zc (zj (y7 x0 i)) λj =>
 zc (zj (z03 (z0e 179 j 4) i)) λk =>
 zc (zj (z0o i 176 k)) λl =>
 (
 zc (zj (z03 (z0e 182 f 1) i)) λm =>
 zc (zj (z0o i 56 m)) λo =>
 (
 zc (zj (z03 (z0e 182 f 2) i)) λp =>
 zc (zj (z0o i 47 p)) λq =>
 (
 zc (zj (z03 (z0y 184 [(0,o),(1,q)]) i)) λr =>
 z0 (yp Pg i 176 1 [(0,r)]) λs t=>(z0o t 176 k=some (l,t))/\(
 z0 (z0u t .append [176,176] [l,s]) λu w=>(
 zc (zj (y7 x0 w)) λy =>
 zc (zj (z03 (z0e 179 y 4) w)) λz =>
 z0 (z0t w 176 z u) λ_ A=>(
 z7 (Hk Q n x0 x57 x58 x59 A)))))))):=K_
theorem Iq:zai Q x0 h=(
 z0 (y7 x0 h) λb c =>
 z0 (z03 (z0e 179 b 5) c) λd e =>
 z0 (z0t e 177 d (V.y8 none 0)) λ_ f =>
 z0 (y7 x0 f) λg i =>
 z0 (z03 (z0e 179 g 8) i) λj k =>
 z0 (z0o k 47 j) λl m =>
 z0 (y7 x0 m) λo p =>
 z0 (z03 (z0e 179 o 9) p) λq r =>
 z0 (z0t r 47 q l) λ_ s =>
 Q (.ret (V.int .i64 0)) s):=K_
theorem PM:LQ Q (n+1) x0 x57 x58 x59 h=(
 z0 (z03 (z0s .lss 3 x59 x58 false) h) λb c =>
 zP b (
 z7 (zaM Q n x0 x57 x58 x59 c)) (
 z7 (zai Q x0 c))):=K_
theorem Ix:z6t Q x0 h=(
 z0 (y7 x0 h) λb c =>
 z0 (z03 (z0e 179 b 5) c) λd e =>
 z0 (z0o e 177 d) λf g =>
 z0 (z0u g .len [177] [f]) λi j =>
 ∃ n,z7 (LQ Q n x0 f i (V.int .i64 0) j)):=K_
theorem EQ:z9G Q x0 x3 h=(
 z0q 79 [x0,x3] h (zS (λb c =>
 z0 (z03 (z0s .neq 36 b (V.int .i64 0) true) c) λd e =>
 zP d (
 Q (.ret b) e) (
 z7 (z6t Q x0 e))) λv h=>Q (.panic v) h)):=K_
theorem cF:zc3 Q x0 x3 h=(
 z0 (y7 x0 h) λb c =>
 z0 (z03 (z0e 179 b 10) c) λd e =>
 z0 (z0t e 4 d (V.bool false)) λ_ f =>
 z0 (z03 (yC Pg f 177 x3 (some (V.int .i64 1)) none) f) λg i =>
 z7 (z9G Q x0 g i)):=K_
theorem Bm:zch Q x0 h=(
 z0 (y7 x0 h) λb c =>
 z0 (z03 (z0e 179 b 5) c) λd e =>
 z0 (z0o e 177 d) λf g =>
 z0 (y7 x0 g) λi j =>
 z0 (z03 (z0e 179 i 10) j) λk l =>
 z0 (z0o l 4 k) λm o =>
 zP m (
 z0 (z03 (yC Pg o 177 f none (some (V.int .i64 1))) o) λp q =>
 z0q 79 [x0,p] q (zS (λr s =>
 z0 (z03 (z0s .neq 36 r (V.int .i64 0) true) s) λt u =>
 zP t (
 Q (.ret r) u) (
 z7 (zc3 Q x0 f u))) λv h=>Q (.panic v) h)) (
 z7 (z9G Q x0 f o))):=K_
theorem D5:zar Q x0 h=(
 z0 (y7 x0 h) λb c =>
 z0 (z03 (z0e 179 b 5) c) λd e =>
 z0 (z0o e 177 d) λf g =>
 z0 (z0u g .len [177] [f]) λi j =>
 z0 (z03 (z0s .eql 3 i (V.int .i64 0) true) j) λk l =>
 zP k (
 Q (.ret (V.int .i64 0)) l) (
 z7 (zch Q x0 l))):=K_
theorem GX:z9S Q x0 h=(
 z0 (y7 x0 h) λb c =>
 z0 (z03 (z0e 179 b 6) c) λd e =>
 z0 (z0o e 9 d) λf g =>
 z0 (z03 (z0s .neq 9 f (V.str []) true) g) λi j =>
 zP i (
 z0 (y7 x0 j) λk l =>
 z0 (z03 (z0e 179 k 6) l) λm o =>
 z0 (z0o o 9 m) λp q =>
 z0 (z0u q .len [9] [p]) λr s =>
 z0q 78 [x0,r] s (zS (λt u =>
 z7 (zar Q x0 u)) λv h=>Q (.panic v) h)) (
 z7 (zar Q x0 j))):=K_
theorem C33 (c :
 z0 (z03 (z0s .eql 83 a0 (V.ptr none) true) h) λb c =>
 zP b (
 Q (.ret (V.int .i64 1)) c) (
 z7 (z9S Q a0 c))):z0q 33 [a0] h Q :=
 mkC Tryz.func33 B33 N33 K33 R33 c
def B36:=bd Tryz.f36
def R36:List ResultVar:=[.tmp 2]
abbrev N36:=9
def K36:KT:=(sQ lF (jN (sQ lF (.two (sQ lF lF [2]) lF) [0,4]) (sQ lF lF [2]) [0]) [0])
def zaT:Prop:=xG Pg N36 B36 K36 [1,1] [] (zn Pg R36 Q) [(0,x0)] h
theorem Eu:zaT Q x0 h=(
 z0 (y7 x0 h) λb c =>
 z0 (z03 (z0e 179 b 9) c) λd e =>
 z0 (z0o e 47 d) λf g =>
 Q (.ret f) g):=K_
theorem C36 (c :
 z0 (z03 (z0s .eql 83 a0 (V.ptr none) true) h) λb c =>
 zP b (
 Q (.ret (V.int .u64 0)) c) (
 z7 (zaT Q a0 c))):z0q 36 [a0] h Q :=
 mkC Tryz.func36 B36 N36 K36 R36 c
def B78:=bd Tryz.f78
def R78:List ResultVar:=[]
abbrev N78:=57
def K78:KT:=(sQ (.nG [26,27]) (sQ (.nG [6,7,10]) (sQ lF lF [0]) [0,1]) [0,1,4])
theorem C78 (c :
 zc (zj (y7 a0 h)) λb =>
 zc (zj (z03 (z0e 179 b 3) h)) λc =>
 zc (zj (z0o h 56 c)) λd =>
 (
 zc (zj (y7 a0 h)) λe =>
 zc (zj (z03 (z0e 179 e 7) h)) λf =>
 zc (zj (z0o h 56 f)) λg =>
 (
 zc (zj (y7 a0 h)) λi =>
 zc (zj (z03 (z0e 179 i 8) h)) λj =>
 zc (zj (z0o h 47 j)) λk =>
 (
 zc (zj (y7 a0 h)) λl =>
 zc (zj (z03 (z0e 179 l 6) h)) λm =>
 zc (zj (z0o h 9 m)) λo =>
 (
 zc (zj (z0u h .len [9] [o])) λp =>
 (
 zc (zj (z03 (z0F h 3 47 p) h)) λq =>
 (
 zc (zj (z03 (z0s .sub 47 k q false) h)) λr =>
 zc (zj (y7 a0 h)) λs =>
 zc (zj (z03 (z0e 179 s 6) h)) λt =>
 zc (zj (z0o h 9 t)) λu =>
 (
 zc (zj (z03 (yC Pg h 9 u none (some a1)) h)) λw =>
 (
 zc (zj (z03 (z0y 182 [(0,d),(1,g),(2,r),(3,w)]) h)) λy =>
 z0 (z0D h 182) λz A=>(z03 (yC Pg A 9 u none (some a1)) A=some (w,A))/\(z0o A 9 t=some (u,A))/\(z03 (z0F A 3 47 p) A=some (q,A))/\(z0u A .len [9] [o]=some (p,A))/\(z0o A 9 m=some (o,A))/\(z0o A 47 j=some (k,A))/\(z0o A 56 f=some (g,A))/\(z0o A 56 c=some (d,A))/\(
 z0 (z0t A 182 z y) λ_ B=>(
 zc (zj (y7 a0 B)) λC =>
 zc (zj (z03 (z0e 179 C 5) B)) λD =>
 zc (zj (z0o B 177 D)) λE =>
 (
 zc (zj (z0o B 182 z)) λF =>
 (
 z0 (yp Pg B 177 1 [(0,F)]) λG H=>(z0o H 177 D=some (E,H))/\(
 z0 (z0u H .append [177,177] [E,G]) λI J=>(
 zc (zj (y7 a0 J)) λK =>
 zc (zj (z03 (z0e 179 K 5) J)) λL =>
 z0 (z0t J 177 L I) λ_ M=>(
 z0 (y7 a0 M) λO P =>
 z0 (z03 (z0e 179 O 6) P) λR S =>
 z0 (z0o S 9 R) λT U =>
 z0 (z03 (yC Pg U 9 T (some a1) none) U) λW X =>
 z0 (y7 a0 X) λY Z =>
 z0 (z03 (z0e 179 Y 6) Z) λba bb =>
 z0 (z0t bb 9 ba W) λ_ bc =>
 z0 (y7 a0 bc) λbd be =>
 z0 (z03 (z0e 179 bd 7) be) λbf bg =>
 z0 (z0o bg 56 bf) λbh bi =>
 z0 (z03 (z0s .add 56 bh (V.int .u32 1) true) bi) λbj bk =>
 z0 (y7 a0 bk) λbl bm =>
 z0 (z03 (z0e 179 bl 7) bm) λbn bo =>
 z0 (z0t bo 56 bn bj) λ_ bp =>
 Q (.ret (V.yX [])) bp)))))))))))))))):z0q 78 [a0,a1] h Q :=
 mkC Tryz.func78 B78 N78 K78 R78 c
def B88:=bd Tryz.f88
def R88:List ResultVar:=[.tmp 4,.tmp 5]
abbrev N88:=75
def K88:KT:=(sQ lF (sQ lF (jN (jN (.rm [[0,6,12,14]]) (.two (sQ lF lF [4,5]) lF) [0,6,15]) (jN (sQ lF (.two (sQ lF lF [4,5]) lF) [0,6,43]) (sQ lF (sQ lF (sQ lF (jN (.one (.loop (jN (sQ lF (.two lF lF) [0,7,71]) (.one lF) [0,7]) [0,7])) (sQ lF lF [4,5]) [7]) [0,7]) [0,6,7]) [0,6,7]) [0,6]) [0,6]) [0,6]) [0,1])
def W88 (p l:List Nat) (e:zJ):Prop:=xG Pg N88 B88 K88 p l (zn Pg R88 Q) e h
def zav:Prop:=W88 Q h [1,1,1,1,1,1,1,0,0,0,1] [n] [(0,x0),(7,x7)]
def EM:Prop:=W88 Q h [1,1,1,1,1,1,1,1] [] [(7,x7)]
def z4V:Prop:=xX Pg N88 B88 K88 [1,1,1,1,1,1,1,0,0] [] n (zn Pg R88 Q) [(0,x0),(7,x7)] h
def z80:Prop:=W88 Q h [1,1,1,1] [] [(0,x0),(6,x6)]
def z6C:Prop:=W88 Q h [1,1,1] [] [(0,x0),(6,x6)]
def zbu:Prop:=W88 Q h [1,1,0,1] [] [(0,x0),(6,x6),(15,x15)]
def z2E:Prop:=yu Pg N88 B88 K88 [1,1,0,0] 2 1 [] (zn Pg R88 Q) [(0,x0),(6,x6),(12,x12),(14,x14)] h
theorem jL:zav Q n x0 x7 h=(
 z0q 78 [x0,(V.int .i64 214)] h (zS (λb c =>
 z7 (z4V Q n x0 x7 c)) λv h=>Q (.panic v) h)):=K_
theorem dX:EM Q x7 h=(
 Q (.ret (V.yX [x7,(V.int .i64 0)])) h):=K_
theorem z4v:z4V Q (n+1) x0 x7 h=(
 z0 (y7 x0 h) λb c =>
 z0 (z03 (z0e 179 b 6) c) λd e =>
 z0 (z0o e 9 d) λf g =>
 z0 (z0u g .len [9] [f]) λi j =>
 z0 (z03 (z0s .geq 3 i (V.int .i64 214) true) j) λk l =>
 zP k (
 z7 (zav Q n x0 x7 l)) (
 z7 (EM Q x7 l))):=K_
theorem i7:z80 Q x0 x6 h=(
 z0 (y7 x0 h) λb c =>
 z0 (z03 (z0e 179 b 8) c) λd e =>
 z0 (z0o e 47 d) λf g =>
 z0 (y7 x0 g) λi j =>
 z0 (z03 (z0e 179 i 6) j) λk l =>
 z0 (z0o l 9 k) λm o =>
 z0 (z03 (z0s .add 9 m x6 false) o) λp q =>
 z0 (y7 x0 q) λr s =>
 z0 (z03 (z0e 179 r 6) s) λt u =>
 z0 (z0t u 9 t p) λ_ w =>
 z0 (y7 x0 w) λy z =>
 z0 (z03 (z0e 179 y 8) z) λA B =>
 z0 (z0o B 47 A) λC D =>
 z0 (z0u D .len [9] [x6]) λE F =>
 z0 (z03 (z0F F 3 47 E) F) λG H =>
 z0 (z03 (z0s .add 47 C G false) H) λI J =>
 z0 (y7 x0 J) λK L =>
 z0 (z03 (z0e 179 K 8) L) λM O =>
 z0 (z0t O 47 M I) λ_ P =>
 ∃ n,z7 (z4V Q n x0 f P)):=K_
theorem H1:z6C Q x0 x6 h=(
 zc (zj (y7 x0 h)) λb =>
 zc (zj (z03 (z0e 179 b 4) h)) λc =>
 zc (zj (z0o h 176 c)) λd =>
 zc (zj (z0u h .len [176] [d])) λe =>
 zc (zj (y7 x0 h)) λf =>
 zc (zj (z03 (z0e 179 f 5) h)) λg =>
 zc (zj (z0o h 177 g)) λi =>
 zc (zj (z0u h .len [177] [i])) λj =>
 zc (zj (z03 (z0s .add 3 e j false) h)) λk =>
 zc (zj (y7 x0 h)) λl =>
 zc (zj (z03 (z0e 179 l 6) h)) λm =>
 zc (zj (z0o h 9 m)) λo =>
 zc (zj (z0u h .len [9] [o])) λp =>
 zc (zj (z0u h .len [9] [x6])) λq =>
 zc (zj (z03 (z0s .add 3 p q false) h)) λr =>
 zc (zj (z03 (z0s .add 3 r (V.int .i64 214) true) h)) λs =>
 zc (zj (z03 (z0s .sub 3 s (V.int .i64 1) true) h)) λt =>
 zc (zj (z03 (z0s .quo 3 t (V.int .i64 214) true) h)) λu =>
 zc (zj (z03 (z0s .add 3 k u false) h)) λw =>
 zc (zj (y7 x0 h)) λy =>
 zc (zj (z03 (z0e 179 y 2) h)) λz =>
 zc (zj (z0o h 3 z)) λA =>
 zc (zj (z03 (z0s .gtr 3 w A false) h)) λB =>
 zP B (
 Q (.ret (V.yX [(V.int .u64 0),(V.int .i64 5)])) h) (
 z7 (z80 Q x0 x6 h))):=K_
theorem GG:zbu Q x0 x6 x15 h=(
 zP x15 (
 Q (.ret (V.yX [(V.int .u64 0),(V.int .i64 1)])) h) (
 z7 (z6C Q x0 x6 h))):=K_
theorem cr:z2E Q x0 x6 x12 x14 h=(
 z0 (yc x12 (V.bool true) x14 h) λb c =>
 z7 (zbu Q x0 x6 b c)):=K_
theorem C88 (c :
 z0q 132 [a1] h (zS (λb c =>
 z0 (z03 (z0s .eql 9 b (V.str []) true) c) λd e =>
 vp d false (
 z0 (z03 (z0s .eql 83 a0 (V.ptr none) true) e) λf g =>
 z7 (z2E Q a0 b d f g)) (z7 (z2E Q a0 b d yw e))) λv h=>Q (.panic v) h)):z0q 88 [a0,a1] h Q :=
 mkC Tryz.func88 B88 N88 K88 R88 c
def B98:=bd Tryz.f98
def R98:List ResultVar:=[.tmp 14]
abbrev N98:=72
def K98:KT:=(sQ lF (jN (jN (.rm [[0,1,2,3,4,5,6,23,27]]) (.two (sQ lF lF [14]) lF) [0,1,2,3,4,5,6,28]) (sQ lF (jN (sQ lF (.one (.loop (sQ lF (jN (.two lF lF) (jN (.one (sQ lF (jN (jN (.rm [[0,1,2,3,4,5,6,17,29,30,31,46,50],[0,1,2,3,4,5,6,17,29,30,31,52,56]]) (.two (sQ lF lF [14]) lF) [0,1,2,3,4,5,6,17,29,30,31,57]) lF [0,1,2,3,4,5,6,17,29,30,31]) [0,1,2,3,4,5,6,15,16,17,29,30,31])) lF [0,1,2,3,4,5,6,15,29,30,31]) [0,1,2,3,4,5,6,15,29,30,31]) [0,1,2,3,4,5,6,15,29,30,31,32]) [0,1,2,3,4,5,6,15,29,30,31])) [0,1,2,3,4,5,6,15,29,30,31]) (sQ lF lF [14]) [0,1,2,3,4,5,6]) [0,1,2,3,4,5,6,15]) [0,1,2,3,4,5,6]) [0,1,2,3,4,5,6])
def W98 (p l:List Nat) (e:zJ):Prop:=xG Pg N98 B98 K98 p l (zn Pg R98 Q) e h
def Jzas:Prop:=W98 Q h [1,1,1,0,1,0,0,1,1] [n] [(0,x0),(1,x1),(2,x2),(3,x3),(4,x4),(5,x5),(6,x6),(15,x15),(29,x29),(30,x30),(31,x31)]
def zel:Prop:=W98 Q h [1,1,1,1] [] [(0,x0),(1,x1),(2,x2),(3,x3),(4,x4),(5,x5),(6,x6)]
def zdg:Prop:=xX Pg N98 B98 K98 [1,1,1,0,1,0] [] n (zn Pg R98 Q) [(0,x0),(1,x1),(2,x2),(3,x3),(4,x4),(5,x5),(6,x6),(15,x15),(29,x29),(30,x30),(31,x31)] h
def z6m:Prop:=W98 Q h [1,1] [] [(0,x0),(1,x1),(2,x2),(3,x3),(4,x4),(5,x5),(6,x6)]
def z6w:Prop:=W98 Q h [1,0,1] [] [(0,x0),(1,x1),(2,x2),(3,x3),(4,x4),(5,x5),(6,x6),(28,x28)]
def z2M:Prop:=yu Pg N98 B98 K98 [1,0,0] 2 1 [] (zn Pg R98 Q) [(0,x0),(1,x1),(2,x2),(3,x3),(4,x4),(5,x5),(6,x6),(23,x23),(27,x27)] h
theorem z4Q:zel Q x0 x1 x2 x3 x4 x5 x6 h=(
 z0 (z0u h .append [176,176] [(V.y8 none 0),x4]) λb c =>
 z0 (z03 (z0y 179 [(0,x0),(1,x1),(2,x2),(3,x3),(4,b),(7,x5),(8,x6),(9,x6),(10,(V.bool true))]) c) λd e =>
 z0 (z0G e 179 d) λf g =>
 Q (.ret f) g):=K_
theorem z4r:zdg Q (n+1) x0 x1 x2 x3 x4 x5 x6 x15 x29 x30 x31 h=(
 z0 (z03 (z0s .lss 3 x31 x30 false) h) λb c =>
 zP b (
 z7 (Jzas Q n x0 x1 x2 x3 x4 x5 x6 x15 x29 x30 x31 c)) (
 z7 (zel Q x0 x1 x2 x3 x4 x5 x6 c))):=K_
theorem Ex:z6m Q x0 x1 x2 x3 x4 x5 x6 h=(
 z0 (z0u h .len [176] [x4]) λb c =>
 ∃ n,z7 (zdg Q n x0 x1 x2 x3 x4 x5 x6 (V.int .u64 0) x4 b (V.int .i64 0) c)):=K_
theorem Ey:z6w Q x0 x1 x2 x3 x4 x5 x6 x28 h=(
 zP x28 (
 Q (.ret (V.ptr none)) h) (
 z7 (z6m Q x0 x1 x2 x3 x4 x5 x6 h))):=K_
theorem iJ:z2M Q x0 x1 x2 x3 x4 x5 x6 x23 x27 h=(
 z0 (yc x23 (V.bool true) x27 h) λb c =>
 z7 (z6w Q x0 x1 x2 x3 x4 x5 x6 b c)):=K_
theorem C98 (c :
 z0q 122 [a0,a1,a2] h (zS (λb c =>
 z0 (z03 (qd .not b) c) λd e =>
 vp d false (
 z0 (z0u e .len [176] [a4]) λf g =>
 z0 (z03 (z0s .gtr 3 f a2 false) g) λi j =>
 z7 (z2M Q a0 a1 a2 a3 a4 a5 a6 d i j)) (z7 (z2M Q a0 a1 a2 a3 a4 a5 a6 d yw e))) λv h=>Q (.panic v) h)):z0q 98 [a0,a1,a2,a3,a4,a5,a6] h Q :=
 mkC Tryz.func98 B98 N98 K98 R98 c
def CW:=bd Tryz.f121
def SR:List ResultVar:=[.cell 2 111,.tmp 3]
abbrev z3K:=40
def CT:KT:=(sQ lF (jN (jN (.rm [[1,2,9,13]]) (.two (sQ lF lF [2,3]) lF) [1,2,14]) (sQ lF (sQ (.nG [13]) (sQ lF lF [2,3]) [1,2,4]) [1,2,4]) [1,2]) [1,2])
def zbs (p l:List Nat) (e:zJ):Prop:=xG Pg z3K CW CT p l (zn Pg SR Q) e h
def z8a:Prop:=zbs Q h [1,1] [] [(1,x1),(2,x2)]
def z7V:Prop:=zbs Q h [1,0,1] [] [(1,x1),(2,x2),(14,x14)]
def Gz8:Prop:=yu Pg z3K CW CT [1,0,0] 2 1 [] (zn Pg SR Q) [(1,x1),(2,x2),(9,x9),(13,x13)] h
theorem W9:z8a Q x1 x2 h=(
 z0 (z0D h 33) λb c =>
 zc (zj (z03 (yC Pg c 33 b none none) c)) λd =>
 (
 zc (zj (z03 (z0e 182 x1 2) c)) λe =>
 zc (zj (z0o c 47 e)) λf =>
 (
 ∃ g,z0q 129 [f,(V.int .i64 8)] c (zO g c)/\(
 (
 zc (zj (z03 (z0e 182 x1 3) c)) λi =>
 zc (zj (z0o c 9 i)) λj =>
 (
 zc (zj (z0u c .len [9] [j])) λk =>
 (
 zc (zj (z03 (z0F c 3 47 k) c)) λl =>
 (
 ∃ m,z0q 129 [l,(V.int .i64 2)] c (zO m c)/\(
 (
 zc (zj (z03 (z0s .add 9 g m false) c)) λo =>
 zc (zj (z03 (z0e 182 x1 3) c)) λp =>
 zc (zj (z0o c 9 p)) λq =>
 (
 zc (zj (z03 (z0s .add 9 o q false) c)) λr =>
 z0 (z0u c .copy [154,9] [d,r]) λs t=>(
 z0 (z03 (z0e 182 x1 0) t) λu w =>
 z0 (z0o w 56 u) λy z =>
 z0 (z03 (z0F z 56 47 y) z) λA B =>
 z0 (z03 (z0s .shl 47 A (V.int .u64 32) true) B) λC D =>
 z0 (z03 (z0e 182 x1 1) D) λE F =>
 z0 (z0o F 56 E) λG H =>
 z0 (z03 (z0F H 56 47 G) H) λI J =>
 z0 (z03 (z0s .or 47 C I false) J) λK L =>
 z0 (z0o L 33 b) λM O =>
 z0q 43 [K,M] O (zS (λP R =>
 z0 (z0t R 111 x2 P) λ_ S =>
 yq (zX Pg [(2,x2),(3,(V.int .i64 0))] S SR) λv=>Q (.ret v) S) λv h=>Q (.panic v) h))))))))))))):=K_
theorem Hs:z7V Q x1 x2 x14 h=(
 zP x14 (
 z0 (z03 (z0y 111 []) h) λb c =>
 z0 (z0t c 111 x2 b) λ_ d =>
 yq (zX Pg [(2,x2),(3,(V.int .i64 1))] d SR) λv=>Q (.ret v) d) (
 z7 (z8a Q x1 x2 h))):=K_
theorem z3v:Gz8 Q x1 x2 x9 x13 h=(
 z0 (yc x9 (V.bool true) x13 h) λb c =>
 z7 (z7V Q x1 x2 b c)):=K_
theorem C121 (c :
 z0 (z0G h 182 a0) λb c =>
 z0 (z0D c 111) λd e =>
 z0 (z03 (z0e 182 b 3) e) λf g =>
 z0 (z0o g 9 f) λi j =>
 z0 (z0u j .len [9] [i]) λk l =>
 z0 (z03 (z0s .lss 3 k (V.int .i64 1) true) l) λm o =>
 vp m false (
 z0 (z03 (z0e 182 b 3) o) λp q =>
 z0 (z0o q 9 p) λr s =>
 z0 (z0u s .len [9] [r]) λt u =>
 z0 (z03 (z0s .gtr 3 t (V.int .i64 214) true) u) λw y =>
 z7 (Gz8 Q b d m w y)) (z7 (Gz8 Q b d m yw o))):z0q 121 [a0] h Q :=
 mkC Tryz.func121 CW z3K CT SR c
def Tm:=bd Tryz.f122
def OV:List ResultVar:=[.tmp 6]
abbrev OH:=31
def TE:KT:=(sQ lF (jN (.rm [[0,1,2,9,11],[0,1,2,13,15],[0,1,2,17,21],[23,29]]) lF [6]) [0,1,2])
def z4Z (p:List Nat) (i g:Nat) (l:List Nat) (e:zJ):Prop:=yu Pg OH Tm TE p i g l (zn Pg OV Q) e h
def z8f:Prop:=xG Pg OH Tm TE [1,1] [] (zn Pg OV Q) [(6,x6)] h
def Gzc:Prop:=z4Z Q h [1,0] 8 4 [] [(23,x23),(29,x29)]
def Gzb:Prop:=z4Z Q h [1,0] 6 3 [] [(0,x0),(1,x1),(2,x2),(17,x17),(21,x21)]
def Gza:Prop:=z4Z Q h [1,0] 4 2 [] [(0,x0),(1,x1),(2,x2),(13,x13),(15,x15)]
def Gz9:Prop:=z4Z Q h [1,0] 2 1 [] [(0,x0),(1,x1),(2,x2),(9,x9),(11,x11)]
theorem HO:z8f Q x6 h=(
 Q (.ret x6) h):=K_
theorem z41:Gzc Q x23 x29 h=(
 z0 (yc x23 x29 (V.bool false) h) λb c =>
 z7 (z8f Q b c)):=K_
theorem z20:Gzb Q x0 x1 x2 x17 x21 h=(
 z0 (yc x17 x21 (V.bool false) h) λb c =>
 vp b true (
 z0q 138 [x0] c (zS (λd e =>
 z0 (z03 (z0s .sub 3 d x2 false) e) λf g =>
 z0 (z03 (z0s .leq 3 x1 f false) g) λi j =>
 z7 (Gzc Q b i j)) λv h=>Q (.panic v) h)) (z7 (Gzc Q b yw c))):=K_
theorem z3L:Gza Q x0 x1 x2 x13 x15 h=(
 z0 (yc x13 x15 (V.bool false) h) λb c =>
 vp b true (
 z0q 138 [x0] c (zS (λd e =>
 z0 (z03 (z0s .leq 3 x2 d false) e) λf g =>
 z7 (Gzb Q x0 x1 x2 b f g)) λv h=>Q (.panic v) h)) (z7 (Gzb Q x0 x1 x2 b yw c))):=K_
theorem z2G:Gz9 Q x0 x1 x2 x9 x11 h=(
 z0 (yc x9 x11 (V.bool false) h) λb c =>
 vp b true (
 z0 (z03 (z0s .geq 3 x2 (V.int .i64 1) true) c) λd e =>
 z7 (Gza Q x0 x1 x2 b d e)) (z7 (Gza Q x0 x1 x2 b yw c))):=K_
theorem C122 (c :
 z0 (z03 (z0s .neq 23 a0 (V.ptr none) true) h) λb c =>
 vp b true (
 z0 (z03 (z0s .geq 3 a1 (V.int .i64 0) true) c) λd e =>
 z7 (Gz9 Q a0 a1 a2 b d e)) (z7 (Gz9 Q a0 a1 a2 b yw c))):z0q 122 [a0,a1,a2] h Q :=
 mkC Tryz.func122 Tm OH TE OV c
end
end
section
set_option maxRecDepth 100000
noncomputable section
variable (Q:yO->AH->Prop) (ds:List AD) (n n1 n2:Nat) (x0 x1 x2 x3 x4 x5 x6 x7 x8 x9 x10 x11 x15 x17 x21 x23 x28 x31 x37 x38:V) (a0:V) (h:AH)
def B87:=bd Tryz.f87
def R87:List ResultVar:=[.tmp 2,.tmp 3]
abbrev N87:=115
def K87:KT:=(sQ lF (jN (sQ lF (.two (sQ lF lF [2,3]) lF) [1,11]) (sQ lF (sQ lF (sQ lF (jN (sQ lF (.one (sQ lF (.two (sQ lF (jN (.one (.loop (jN (jN (.rm [[1,4,5,7,31,37]]) (.two lF lF) [1,4,5,7,38]) (.one lF) [1,4,5,7]) [1,4,5,7])) (sQ lF (jN (sQ lF (.two lF lF) [1,4,5,7,8,43]) (sQ lF lF [2,3]) [1,4,5,7,8]) [1,4,5,7,8]) [1,4,5,7]) [1,4,5,7]) (sQ lF (.two (sQ lF lF [2,3]) (sQ lF (.two (sQ lF lF [2,3]) (sQ lF (.two (sQ lF lF [2,3]) lF) [1,4,5,6,102])) [1,4,5,6,26,70])) [1,4,5,6,26,55])) [1,4,5,6,26,27])) [1,4,5,6,26]) (sQ lF lF [2,3]) [1,4,5]) [1,4,5,6]) [1,4,5]) [1,4]) [1]) [1])
def W87 (p l:List Nat) (e:zJ):Prop:=xG Pg N87 B87 K87 p l (zn Pg R87 Q) e h
def zaz:Prop:=W87 Q h [1,1,1,1,1,0,1,0,1,0,1,0,0,0,1] [n] [(1,x1),(4,x4),(5,x5),(7,x7)]
def z89:Prop:=W87 Q h [1,1,1,1,1,0,1,0,1,0,1,1,1,1] [] [(1,x1),(4,x4),(5,x5),(7,x7),(8,x8)]
def zcl:Prop:=W87 Q h [1,1,1,1,1,0,1,0,1,0,1,1] [] [(1,x1),(4,x4),(5,x5),(7,x7)]
def za7:Prop:=W87 Q h [1,1,1,1,1,0,1,0,1,0,1,0,0,0,0,1] [n] [(1,x1),(4,x4),(5,x5),(7,x7),(38,x38)]
def z47:Prop:=yu Pg N87 B87 K87 [1,1,1,1,1,0,1,0,1,0,1,0,0,0,0,0] 2 1 [n] (zn Pg R87 Q) [(1,x1),(4,x4),(5,x5),(7,x7),(31,x31),(37,x37)] h
def z4R:Prop:=xX Pg N87 B87 K87 [1,1,1,1,1,0,1,0,1,0,1,0,0] [] n (zn Pg R87 Q) [(1,x1),(4,x4),(5,x5),(7,x7)] h
def z9c:Prop:=W87 Q h [1,1,1,1,1,1] [] [(1,x1),(4,x4),(5,x5)]
def Ie:Prop:=W87 Q h [1,1] [] [(1,x1)]
theorem RD:zaz Q n x1 x4 x5 x7 h=(
 z0 (z03 (z0s .sub 3 x7 (V.int .i64 1) true) h) λb c =>
 z7 (z4R Q n x1 x4 x5 b c)):=K_
theorem Ht:z89 Q x1 x4 x5 x7 x8 h=(
 z0 (z03 (z0s .add 9 x4 x8 false) h) λb c =>
 z0 (z03 (z0s .add 9 b x5 false) c) λd e =>
 z0 (z03 (z0e 95 x1 2) e) λf g =>
 z0 (z03 (yC Pg g 33 f none (some x7)) g) λi j =>
 z0 (z03 (z0F j 154 9 i) j) λk l =>
 z0q 130 [k] l (zS (λm o =>
 z0 (z03 (z0s .add 9 d m false) o) λp q =>
 Q (.ret (V.yX [p,(V.int .i64 0)])) q) λv h=>Q (.panic v) h)):=K_
theorem It:zcl Q x1 x4 x5 x7 h=(
 z0 (z03 (z0e 95 x1 1) h) λb c =>
 z0 (z03 (z0e 43 b 0) c) λd e =>
 z0 (z0o e 4 d) λf g =>
 zP f (
 z7 (z89 Q x1 x4 x5 x7 (V.str [1]) g)) (
 z7 (z89 Q x1 x4 x5 x7 (V.str [0]) g))):=K_
theorem FW:za7 Q n x1 x4 x5 x7 x38 h=(
 zP x38 (
 z7 (zaz Q n x1 x4 x5 x7 h)) (
 z7 (zcl Q x1 x4 x5 x7 h))):=K_
theorem kF:z47 Q n x1 x4 x5 x7 x31 x37 h=(
 z0 (yc x31 x37 (V.bool false) h) λb c =>
 z7 (za7 Q n x1 x4 x5 x7 b c)):=K_
theorem z15:z4R Q (n+1) x1 x4 x5 x7 h=(
 z0 (z03 (z0s .gtr 3 x7 (V.int .i64 0) true) h) λb c =>
 vp b true (
 z0 (z03 (z0s .sub 3 x7 (V.int .i64 1) true) c) λd e =>
 z0 (z03 (z0e 95 x1 2) e) λf g =>
 z0 (z03 (z0w 33 f d) g) λi j =>
 z0 (z0o j 5 i) λk l =>
 z0 (z03 (z0s .eql 5 k (V.int .u8 0) true) l) λm o =>
 z7 (z47 Q n x1 x4 x5 x7 b m o)) (z7 (z47 Q n x1 x4 x5 x7 b yw c))):=K_
theorem GR:z9c Q x1 x4 x5 h=(
 z0 (z03 (z0s .add 9 x4 x5 false) h) λb c =>
 z0 (z03 (z0e 95 x1 6) c) λd e =>
 z0 (z0o e 5 d) λf g =>
 z0 (yp Pg g 154 1 [(0,f)]) λi j =>
 z0 (z03 (z0F j 154 9 i) j) λk l =>
 z0 (z03 (z0s .add 9 b k false) l) λm o =>
 Q (.ret (V.yX [m,(V.int .i64 0)])) o):=K_
theorem QE:Ie Q x1 h=(
 z0 (z03 (z0e 95 x1 0) h) λb c =>
 z0 (z0o c 5 b) λd e =>
 z0 (yp Pg e 154 1 [(0,d)]) λf g =>
 z0 (z03 (z0F g 154 9 f) g) λi j =>
 z0 (z03 (z0e 95 x1 1) j) λk l =>
 z0 (z03 (z0e 43 k 1) l) λm o =>
 z0 (z0o o 41 m) λp q =>
 z0 (z03 (z0F q 41 47 p) q) λr s =>
 z0q 129 [r,(V.int .i64 2)] s (zS (λt u =>
 z0 (z03 (z0e 95 x1 3) u) λw y =>
 z0 (z0o y 56 w) λz A =>
 z0 (z03 (z0F A 56 47 z) A) λB C =>
 z0q 129 [B,(V.int .i64 4)] C (zS (λD E =>
 z0 (z03 (z0e 95 x1 0) E) λF G =>
 z0 (z0o G 5 F) λH I =>
 z0 (z03 (z0s .eql 5 H (V.int .u8 1) true) I) λJ K =>
 zP J (
 ∃ n,z7 (z4R Q n x1 i t (V.int .i64 224) K)) (
 z0 (z03 (z0s .eql 5 H (V.int .u8 2) true) K) λL M =>
 zP L (
 zc (zj (z03 (z0s .add 9 i t false) M)) λO =>
 zc (zj (z03 (z0s .add 9 O D false) M)) λP =>
 zc (zj (z03 (z0e 95 x1 4) M)) λR =>
 zc (zj (z0o M 58 R)) λS =>
 ∃ T,z0q 131 [S] M (zO T M)/\(
 zc (zj (z03 (z0s .add 9 P T false) M)) λU =>
 zc (zj (z03 (z0e 95 x1 5) M)) λW =>
 zc (zj (z0o M 9 W)) λX =>
 ∃ Y,z0q 130 [X] M (zO Y M)/\(
 zc (zj (z03 (z0s .add 9 U Y false) M)) λZ =>
 Q (.ret (V.yX [Z,(V.int .i64 0)])) M))) (
 z0 (z03 (z0s .eql 5 H (V.int .u8 3) true) M) λba bb =>
 zP ba (
 zc (zj (z03 (z0s .add 9 i t false) bb)) λbc =>
 zc (zj (z03 (z0e 95 x1 6) bb)) λbd =>
 zc (zj (z0o bb 5 bd)) λbe =>
 zc (oB Pg 154 1 [(0,be)] 154 9) λbf =>
 zc (zj (z03 (z0s .add 9 bc bf false) bb)) λbg =>
 zc (zj (z03 (z0e 95 x1 7) bb)) λbh =>
 zc (zj (z03 (z0e 60 bh 1) bb)) λbi =>
 zc (zj (z0o bb 41 bi)) λbj =>
 zc (zj (z03 (z0F bb 41 47 bj) bb)) λbk =>
 ∃ bl,z0q 129 [bk,(V.int .i64 2)] bb (zO bl bb)/\(
 zc (zj (z03 (z0s .add 9 bg bl false) bb)) λbm =>
 zc (zj (z03 (z0e 95 x1 7) bb)) λbn =>
 zc (zj (z03 (z0e 60 bn 2) bb)) λbo =>
 zc (zj (z0o bb 56 bo)) λbp =>
 zc (zj (z03 (z0F bb 56 47 bp) bb)) λbq =>
 ∃ br,z0q 129 [bq,(V.int .i64 4)] bb (zO br bb)/\(
 zc (zj (z03 (z0s .add 9 bm br false) bb)) λbs =>
 zc (zj (z03 (z0e 95 x1 7) bb)) λbt =>
 zc (zj (z03 (z0e 60 bt 3) bb)) λbu =>
 zc (zj (z0o bb 58 bu)) λbv =>
 ∃ bw,z0q 131 [bv] bb (zO bw bb)/\(
 zc (zj (z03 (z0s .add 9 bs bw false) bb)) λbx =>
 zc (zj (z03 (z0e 95 x1 7) bb)) λbz =>
 zc (zj (z03 (z0e 60 bz 4) bb)) λca =>
 zc (zj (z0o bb 9 ca)) λcb =>
 ∃ cc,z0q 130 [cb] bb (zO cc bb)/\(
 zc (zj (z03 (z0s .add 9 bx cc false) bb)) λcd =>
 Q (.ret (V.yX [cd,(V.int .i64 0)])) bb))))) (
 z0 (z03 (z0s .eql 5 H (V.int .u8 6) true) bb) λce cf =>
 zP ce (
 z0 (z03 (z0s .add 9 i D false) cf) λcg ch =>
 Q (.ret (V.yX [cg,(V.int .i64 0)])) ch) (
 z7 (z9c Q x1 i t cf)))))) λv h=>Q (.panic v) h)) λv h=>Q (.panic v) h)):=K_
theorem C87 (c :
 z0 (z0G h 95 a0) λb c =>
 z0 (z0o c 95 b) λd e =>
 z0q 89 [d] e (zS (λf g =>
 z0 (z03 (qd .not f) g) λi j =>
 zP i (
 Q (.ret (V.yX [(V.str []),(V.int .i64 1)])) j) (
 z7 (Ie Q b j))) λv h=>Q (.panic v) h)):z0q 87 [a0] h Q :=
 mkC Tryz.func87 B87 N87 K87 R87 c
def B89:=bd Tryz.f89
def R89:List ResultVar:=[.tmp 2]
abbrev N89:=30
def K89:KT:=(sQ lF (jN (.rm [[1,6,9],[1,11,15],[1,17,21],[23,28]]) lF [2]) [1])
def z9W:Prop:=xG Pg N89 B89 K89 [1,1] [] (zn Pg R89 Q) [(2,x2)] h
def z3d:Prop:=bH Pg N89 B89 K89 [1,0] 8 4 26 [] (zn Pg R89 Q) [(23,x23),(28,x28)] h
def z1t:Prop:=bH Pg N89 B89 K89 [1,0] 6 3 19 [] (zn Pg R89 Q) [(1,x1),(17,x17),(21,x21)] h
def z3s:Prop:=bH Pg N89 B89 K89 [1,0] 4 2 13 [] (zn Pg R89 Q) [(1,x1),(11,x11),(15,x15)] h
def z2i:Prop:=bH Pg N89 B89 K89 [1,0] 2 1 7 [] (zn Pg R89 Q) [(1,x1),(6,x6),(9,x9)] h
theorem Ww:z9W Q x2 h=(
 Q (.ret x2) h):=K_
theorem Ws:z3d Q x23 x28 h=(
 zc (zj (yc x23 x28 (V.bool false) h)) λb =>
 z7 (z9W Q b h)):=K_
theorem Wf:z1t Q x1 x17 x21 h=(
 zc (zj (yc x17 x21 (V.bool false) h)) λb =>
 vp b true (
 zc (zj (z03 (z0e 95 x1 7) h)) λc =>
 zc (zj (z03 (z0e 60 c 4) h)) λd =>
 zc (zj (z0o h 9 d)) λe =>
 zc (zj (z0u h .len [9] [e])) λf =>
 zc (zj (z03 (z0s .leq 3 f (V.int .i64 66) true) h)) λg =>
 z7 (z3d Q b g h)) (z7 (z3d Q b yw h))):=K_
theorem Wx:z3s Q x1 x11 x15 h=(
 zc (zj (yc x11 x15 (V.bool false) h)) λb =>
 vp b true (
 zc (zj (z03 (z0e 95 x1 5) h)) λc =>
 zc (zj (z0o h 9 c)) λd =>
 zc (zj (z0u h .len [9] [d])) λe =>
 zc (zj (z03 (z0s .leq 3 e (V.int .i64 66) true) h)) λf =>
 z7 (z1t Q x1 b f h)) (z7 (z1t Q x1 b yw h))):=K_
theorem dW:z2i Q x1 x6 x9 h=(
 zc (zj (yc x6 x9 (V.bool false) h)) λb =>
 vp b true (
 zc (zj (z0o h 95 x1)) λc =>
 ∃ d,z0q 133 [c] h (zO d h)/\(
 zc (zj (z0o h 95 x1)) λe =>
 zc (zj (z03 (z0s .eql 95 d e false) h)) λf =>
 z7 (z3s Q x1 b f h))) (z7 (z3s Q x1 b yw h))):=K_
theorem C89 (c :
 z0 (z0G h 95 a0) λb c =>
 zc (zj (z03 (z0e 95 b 0) c)) λd =>
 zc (zj (z0o c 5 d)) λe =>
 zc (zj (z03 (z0s .geq 5 e (V.int .u8 1) true) c)) λf =>
 vp f true (
 zc (zj (z03 (z0e 95 b 0) c)) λg =>
 zc (zj (z0o c 5 g)) λi =>
 zc (zj (z03 (z0s .leq 5 i (V.int .u8 6) true) c)) λj =>
 z7 (z2i Q b f j c)) (z7 (z2i Q b f yw c))):z0q 89 [a0] h Q :=
 mkC Tryz.func89 B89 N89 K89 R89 c
def B130:=bd Tryz.f130
def R130:List ResultVar:=[.tmp 2]
abbrev N130:=10
def K130:KT:=(sQ lF (sQ lF lF [2]) [0])
theorem C130 (c :
 z0 (z0u h .len [9] [a0]) λb c =>
 z0 (z03 (z0F c 3 5 b) c) λd e =>
 z0 (yp Pg e 154 1 [(0,d)]) λf g =>
 z0 (z03 (z0F g 154 9 f) g) λi j =>
 z0 (z03 (z0s .add 9 i a0 false) j) λk l =>
 Q (.ret k) l):z0q 130 [a0] h Q :=
 mkC Tryz.func130 B130 N130 K130 R130 c
def B131:=bd Tryz.f131
def R131:List ResultVar:=[.tmp 2]
abbrev N131:=12
def K131:KT:=(sQ lF (sQ lF lF [2]) [1])
theorem C131 (c :
 z0 (z0G h 58 a0) λb c =>
 zc (zj (z03 (z0e 58 b 0) c)) λd =>
 zc (zj (z0o c 41 d)) λe =>
 zc (zj (z03 (z0F c 41 47 e) c)) λf =>
 ∃ g,z0q 129 [f,(V.int .i64 2)] c (zO g c)/\(
 zc (zj (z03 (z0e 58 b 1) c)) λi =>
 zc (zj (z0o c 5 i)) λj =>
 zc (oB Pg 154 1 [(0,j)] 154 9) λk =>
 zc (zj (z03 (z0s .add 9 g k false) c)) λl =>
 Q (.ret l) c)):z0q 131 [a0] h Q :=
 mkC Tryz.func131 B131 N131 K131 R131 c
def Ih:=bd Tryz.f132
def z2K:List ResultVar:=[.tmp 2]
abbrev z3h:=22
def ET:KT:=(sQ lF (jN (jN (.rm [[0,6,9]]) (.two (sQ lF lF [2]) lF) [0,10]) (sQ lF lF [2]) [0]) [0])
def z7Y (p l:List Nat) (e:zJ):Prop:=xG Pg z3h Ih ET p l (zn Pg z2K Q) e h
def zaP:Prop:=z7Y Q h [1,1] [] [(0,x0)]
def z7s:Prop:=z7Y Q h [1,0,1] [] [(0,x0),(10,x10)]
def Gzd:Prop:=yu Pg z3h Ih ET [1,0,0] 2 1 [] (zn Pg z2K Q) [(0,x0),(6,x6),(9,x9)] h
theorem IH:zaP Q x0 h=(
 z0 (z0u h .len [9] [x0]) λb c =>
 z0 (z03 (z0F c 3 47 b) c) λd e =>
 z0q 129 [d,(V.int .i64 2)] e (zS (λf g =>
 z0q 150 [x0] g (zS (λi j =>
 z0 (z03 (z0F j 56 47 i) j) λk l =>
 z0q 129 [k,(V.int .i64 4)] l (zS (λm o =>
 z0 (z03 (z0s .add 9 f m false) o) λp q =>
 z0 (z03 (z0s .add 9 p x0 false) q) λr s =>
 Q (.ret r) s) λv h=>Q (.panic v) h)) λv h=>Q (.panic v) h)) λv h=>Q (.panic v) h)):=K_
theorem XX:z7s Q x0 x10 h=(
 zP x10 (
 Q (.ret (V.str [])) h) (
 z7 (zaP Q x0 h))):=K_
theorem Sl:Gzd Q x0 x6 x9 h=(
 z0 (yc x6 (V.bool true) x9 h) λb c =>
 z7 (z7s Q x0 b c)):=K_
theorem C132 (c :
 z0 (z0u h .len [9] [a0]) λb c =>
 z0 (z03 (z0s .lss 3 b (V.int .i64 1) true) c) λd e =>
 vp d false (
 z0 (z0u e .len [9] [a0]) λf g =>
 z0 (z03 (z0s .gtr 3 f (V.int .i64 400) true) g) λi j =>
 z7 (Gzd Q a0 d i j)) (z7 (Gzd Q a0 d yw e))):z0q 132 [a0] h Q :=
 mkC Tryz.func132 Ih z3h ET z2K c
def z2V:=bd Tryz.f133
def z3a:List ResultVar:=[.cell 2 95]
abbrev z6G:=57
def z49:KT:=(sQ lF (sQ lF (jN (sQ lF (.one (jN (.one (jN (.one (jN (.one (jN (.one (jN (.one (jN (jN (sQ lF (.two lF lF) [1,2,3,8,9]) (jN (sQ lF (.two lF lF) [1,2,3,8,11]) (jN (sQ lF (.two lF lF) [1,2,3,8,13]) (jN (jN (sQ lF (.two lF lF) [1,2,3,8,15]) (.two lF lF) [1,2,3,8,15]) (sQ lF (.two lF lF) [1,2,3,18]) [1,2,3,8]) [1,2,3,8]) [1,2,3,8]) [1,2,3,8]) lF [2,3])) (sQ (.nG [5,7]) lF [2,3]) [1,2,3])) (sQ (.nG [11,13,15,17]) lF [2,3]) [1,2,3])) (sQ lF lF [1,2,3]) [1,2,3])) (sQ (.nG [7,9]) lF [2,3]) [1,2,3])) (sQ lF lF [2,3]) [1,2,3])) [1,2,3,8]) (sQ lF lF [2]) [2,3]) [1,2,3]) [1,2])
def dJ (p l:List Nat) (e:zJ):Prop:=xG Pg z6G z2V z49 p l (zn Pg z3a Q) e h
def zb4:Prop:=dJ Q h [1,1,1] [] [(2,x2),(3,x3)]
def zaZ:Prop:=dJ Q h [1,1,0,1,0,0,0,0,0,0,0,0,0,1] [] [(1,x1),(2,x2),(3,x3)]
def z71:Prop:=dJ Q h [1,1,0,1,0,0,0,0,0,0,0,1] [] [(1,x1),(2,x2),(3,x3)]
def z1i:Prop:=dJ Q h [1,1,0,1,0,0,0,1] [] [(1,x1),(2,x2),(3,x3)]
def zaK:Prop:=dJ Q h [1,1,0,1,0,0,0,0,0,1] [] [(1,x1),(2,x2),(3,x3)]
def z8G:Prop:=dJ Q h [1,1,0,1,0,1] [] [(1,x1),(2,x2),(3,x3)]
def zbB:Prop:=dJ Q h [1,1,0,1,0,0,0,0,0,0,0,0,0,0,0,1] [] [(2,x2),(3,x3)]
def z7q:Prop:=dJ Q h [1,1,0,1,0,0,0,0,0,0,0,0,0,0,0,0,1,1,1,1] [] [(1,x1),(2,x2),(3,x3),(8,x8)]
def zcd:Prop:=dJ Q h [1,1,0,1,0,0,0,0,0,0,0,0,0,0,0,0,1,1,1,0,1] [] [(1,x1),(2,x2),(3,x3),(8,x8),(15,x15)]
def zaF:Prop:=dJ Q h [1,1,0,1,0,0,0,0,0,0,0,0,0,0,0,0,1,1,1] [] [(1,x1),(2,x2),(3,x3),(8,x8)]
def zaU:Prop:=dJ Q h [1,1,0,1,0,0,0,0,0,0,0,0,0,0,0,0,1,1] [] [(1,x1),(2,x2),(3,x3),(8,x8)]
def zco:Prop:=dJ Q h [1,1,0,1,0,0,0,0,0,0,0,0,0,0,0,0,1] [] [(1,x1),(2,x2),(3,x3),(8,x8)]
theorem FN:zb4 Q x2 x3 h=(
 z0 (z0o h 95 x3) λb c =>
 z0 (z0t c 95 x2 b) λ_ d =>
 yq (zX Pg [(2,x2)] d z3a) λv=>Q (.ret v) d):=K_
theorem HD:zaZ Q x1 x2 x3 h=(
 zc (zj (z03 (z0e 95 x1 1) h)) λb =>
 zc (zj (z0o h 43 b)) λc =>
 (
 zc (zj (z03 (z0e 95 x1 2) h)) λd =>
 zc (zj (z0o h 33 d)) λe =>
 (
 zc (zj (z03 (z0e 95 x3 1) h)) λf =>
 z0 (z0t h 43 f c) λ_ g=>(z0o g 33 d=some (e,g))/\(
 zc (zj (z03 (z0e 95 x3 2) g)) λi =>
 z0 (z0t g 33 i e) λ_ j=>(
 z7 (zb4 Q x2 x3 j)))))):=K_
theorem EU:z71 Q x1 x2 x3 h=(
 zc (zj (z03 (z0e 95 x1 1) h)) λb =>
 zc (zj (z03 (z0e 43 b 1) h)) λc =>
 zc (zj (z0o h 41 c)) λd =>
 (
 zc (zj (z03 (z0e 95 x1 3) h)) λe =>
 zc (zj (z0o h 56 e)) λf =>
 (
 zc (zj (z03 (z0e 95 x1 4) h)) λg =>
 zc (zj (z0o h 58 g)) λi =>
 (
 zc (zj (z03 (z0e 95 x1 5) h)) λj =>
 zc (zj (z0o h 9 j)) λk =>
 (
 zc (zj (z03 (z0e 95 x3 1) h)) λl =>
 zc (zj (z03 (z0e 43 l 1) h)) λm =>
 z0 (z0t h 41 m d) λ_ o=>(z0o o 9 j=some (k,o))/\(z0o o 58 g=some (i,o))/\(z0o o 56 e=some (f,o))/\(
 zc (zj (z03 (z0e 95 x3 3) o)) λp =>
 z0 (z0t o 56 p f) λ_ q=>(z0o q 9 j=some (k,q))/\(z0o q 58 g=some (i,q))/\(
 zc (zj (z03 (z0e 95 x3 4) q)) λr =>
 z0 (z0t q 58 r i) λ_ s=>(z0o s 9 j=some (k,s))/\(
 zc (zj (z03 (z0e 95 x3 5) s)) λt =>
 z0 (z0t s 9 t k) λ_ u=>(
 z7 (zb4 Q x2 x3 u)))))))))):=K_
theorem Iv:z1i Q x1 x2 x3 h=(
 zc (zj (z03 (z0e 95 x1 1) h)) λb =>
 zc (zj (z03 (z0e 43 b 1) h)) λc =>
 zc (zj (z0o h 41 c)) λd =>
 (
 zc (zj (z03 (z0y 43 [(0,(V.bool true)),(1,d)]) h)) λe =>
 zc (zj (z03 (z0e 95 x1 6) h)) λf =>
 zc (zj (z0o h 5 f)) λg =>
 (
 zc (zj (z03 (z0e 95 x3 1) h)) λi =>
 z0 (z0t h 43 i e) λ_ j=>(z0o j 5 f=some (g,j))/\(
 zc (zj (z03 (z0e 95 x3 6) j)) λk =>
 z0 (z0t j 5 k g) λ_ l=>(
 z7 (zb4 Q x2 x3 l)))))):=K_
theorem Be:zaK Q x1 x2 x3 h=(
 z0 (z03 (z0e 95 x1 7) h) λb c =>
 z0 (z0o c 60 b) λd e =>
 z0 (z03 (z0e 95 x3 7) e) λf g =>
 z0 (z0t g 60 f d) λ_ i =>
 z0 (z03 (z0e 95 x3 7) i) λj k =>
 z0 (z03 (z0e 60 j 0) k) λl m =>
 z0 (z0t m 4 l (V.bool true)) λ_ o =>
 z7 (z1i Q x1 x2 x3 o)):=K_
theorem Gc:z8G Q x1 x2 x3 h=(
 z0 (z03 (z0e 95 x1 3) h) λb c =>
 z0 (z0o c 56 b) λd e =>
 z0 (z03 (z0e 95 x3 3) e) λf g =>
 z0 (z0t g 56 f d) λ_ i =>
 z7 (zb4 Q x2 x3 i)):=K_
theorem IM:zbB Q x2 x3 h=(
 z7 (zb4 Q x2 x3 h)):=K_
theorem z3T:z7q Q x1 x2 x3 x8 h=(
 z0 (z03 (z0s .eql 5 x8 (V.int .u8 6) true) h) λb c =>
 zP b (
 z7 (z8G Q x1 x2 x3 c)) (
 z7 (zbB Q x2 x3 c))):=K_
theorem EC:zcd Q x1 x2 x3 x8 x15 h=(
 zP x15 (
 z7 (z1i Q x1 x2 x3 h)) (
 z7 (z7q Q x1 x2 x3 x8 h))):=K_
theorem Fb:zaF Q x1 x2 x3 x8 h=(
 z0 (z03 (z0s .eql 5 x8 (V.int .u8 4) true) h) λb c =>
 zP b (
 z7 (zcd Q x1 x2 x3 x8 b c)) (
 z0 (z03 (z0s .eql 5 x8 (V.int .u8 5) true) c) λd e =>
 z7 (zcd Q x1 x2 x3 x8 d e))):=K_
theorem Ev:zaU Q x1 x2 x3 x8 h=(
 z0 (z03 (z0s .eql 5 x8 (V.int .u8 3) true) h) λb c =>
 zP b (
 z7 (zaK Q x1 x2 x3 c)) (
 z7 (zaF Q x1 x2 x3 x8 c))):=K_
theorem Fc:zco Q x1 x2 x3 x8 h=(
 z0 (z03 (z0s .eql 5 x8 (V.int .u8 2) true) h) λb c =>
 zP b (
 z7 (z71 Q x1 x2 x3 c)) (
 z7 (zaU Q x1 x2 x3 x8 c))):=K_
theorem C133 (c :
 z0 (z0G h 95 a0) λb c =>
 z0 (z0D c 95) λd e =>
 z0 (z03 (z0e 95 b 0) e) λf g =>
 z0 (z0o g 5 f) λi j =>
 z0 (z03 (z0y 95 [(0,i)]) j) λk l =>
 z0 (z0D l 95) λm o =>
 z0 (z0t o 95 m k) λ_ p =>
 z0 (z03 (z0e 95 b 0) p) λq r =>
 z0 (z0o r 5 q) λs t =>
 z0 (z03 (z0s .eql 5 s (V.int .u8 1) true) t) λu w =>
 zP u (
 z7 (zaZ Q b d m w)) (
 z7 (zco Q b d m s w))):z0q 133 [a0] h Q :=
 mkC Tryz.func133 z2V z6G z49 z3a c
end
end
end Go.Proofs.YtdbgifdfdhhjcaaGreat.Sh
end
