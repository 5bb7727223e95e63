import Derived.Test.YtdbgifdfdhhjcaaGreatV00
import Derived.Laws.BytesArg
set_option linter.unusedVariables false
set_option linter.unusedSimpArgs false
set_option linter.unusedSectionVars false
noncomputable section
namespace Go.Ab
section
open Go Go.RowKit
variable {P:Program} {ι:zw} {W:World} {B:wy} {h:AH}
theorem Wd (H:uF P) {own:Bool} {ty:nC} {v:V} {l:List V} {L:Loc} {p:List Nat} {o:Nat} {e:TypeId} (ho:pG P ι W L (.cells own ty v)) (hl:rowAt P ty p=some (o,e)) (hg:yF v p=some (.agg l)) :
 L.ty=ty/\zF P l e=true/\∃ a m c elem fr,W.heap[L.wC]?=some (.cells (a++m++c).toArray elem fr)/\a.length=L.off+o/\(a++m++c).length=L.size/\y5 P ι l m/\(own=true->pq fr (a++m++c).length) /\
  (∀ (l':List V) (m':List Value) (v':V),zF P l' e=true->l'.length=l.length->y5 P ι l' m'->tX v p (.agg l')=some v'->pG P ι (World.wQ W L.wC (a++m'++c) elem fr) L (.cells own ty v')):=by
 have arr:∀ u n,tN P ty p=some (o,u)->ul P u=some (.array n e)->L.ty=ty/\zF P l e=true/\∃ a m c elem fr,W.heap[L.wC]?=some (.cells (a++m++c).toArray elem fr)/\a.length=L.off+o/\(a++m++c).length=L.size/\y5 P ι l m/\(own=true->pq fr (a++m++c).length) /\
  (∀ (l':List V) (m':List Value) (v':V),zF P l' e=true->l'.length=l.length->y5 P ι l' m'->tX v p (.agg l')=some v'->pG P ι (World.wQ W L.wC (a++m'++c) elem fr) L (.cells own ty v')):=by
  intro u n oK hu;obtain ⟨h1,h2,a,m,c,elem,fr,h3,h4,h5,h6,h7⟩:=aG H ho oK hg;have h2':=h2;simp only [zf,hu,Bool.and_eq_true,beq_iff_eq] at h2';have hsz:(a++m++c).length=L.size:=by
   obtain ⟨_,_,a1,b1,c1,e1,f1,k3,_,k5,_⟩:=ho;rw [h3] at k3;simp only [Option.some.injEq,Obj.cells.injEq] at k3;have:=congrArg Array.size k3.1;simp at this;simp at k5 ⊢;omega
  refine ⟨h1,h2'.2,a,m,c,elem,fr,h3,h4,hsz,by simpa [zL] using h5,h6,?_⟩;intro l' m' v' g1 g2 g3 g4;exact h7 (.agg l') m' v' (by simp only [zf,hu,Bool.and_eq_true,beq_iff_eq];exact ⟨by rw [g2,h2'.1],g1⟩) (by simpa [zL] using g3) g4
 unfold rowAt at hl;split at hl
 ·simp only [Option.some.injEq,Prod.mk.injEq] at hl;obtain ⟨rfl,rfl⟩:=hl;simp only [yF,Option.some.injEq] at hg;subst hg;obtain ⟨h1,h2,a,b,c,elem,fr,h3,h4,h5,h6,h7⟩:=ho;simp only [rT] at h2;simp only [zL] at h6;refine ⟨h1,h2,a,b,c,elem,fr,h3,by simp [h4],h5,h6,λe=>by rw [h5];exact (h7 e).1,?_⟩;intro l' m' v' g1 g2 g3 g4;simp only [tX,Option.some.injEq] at g4;subst g4;have s1:=yJ H l _ b h2 h6;have s2:=yJ H l' _ m' g1 g3;refine ⟨h1,by simpa [rT] using g1,a,m',c,elem,fr,km (vl h3),h4,?_,by simpa [zL] using g3,h7⟩;rw [<- h5];simp [s1,s2,g2]
 ·split at hl
  ·rename_i o' t oK;split at hl
   ·rename_i n e' hu;simp only [Option.some.injEq,Prod.mk.injEq] at hl;obtain ⟨rfl,rfl⟩:=hl;exact arr t n oK hu
   ·cases hl
  ·cases hl
def zd (s:List UInt8):List V:=s.map λb=>.int .u8 b.toNat
def xY (P:Program) (h:AH) (e:TypeId) (x:V):Option (List V) :=
 match x with
 | .y8 none _=>some []
 | .y8 (some (a,s)) len=>match h.m a.n with
  | some (.cells _ ty v)=>if ty=a.ty then match rowAt P ty a.p,yF v a.p with
   | some (_,e'),some (.agg l)=>if e=e'/\s+len<=l.length then some ((l.drop s).take len) else none
   | _,_=>none
   else none
  | _=>none
 | .str s=>match ul P e with
  | some (.int .u8)=>some (zd s)
  | _=>none
 | _=>none
theorem kj {l:List V} {m:List Value} (s n:Nat) (hr:y5 P ι l m):∃ m1 m2 m3,m=m1++m2++m3/\y5 P ι (l.take s) m1/\y5 P ι ((l.drop s).take n) m2/\y5 P ι (l.drop (s+n)) m3:=by
 have h1:l=l.take s++((l.drop s).take n++l.drop (s+n)):=by
  rw [<- List.drop_drop,List.take_append_drop,List.take_append_drop]
 rw [h1] at hr;obtain ⟨a,b,k1,k2,rfl⟩:=ov hr;obtain ⟨c,d,k3,k4,rfl⟩:=ov k2;exact ⟨a,c,d,S_,k1,k3,k4⟩
theorem eK:∀ (s:List UInt8),y5 P ι (zd s) (s.map λb=>Value.int .u8 b.toNat)
 | []=>by simp [zd,y5]
 | b :: s=>by
  have:=eK s;simp only [zd,List.map_cons] at this ⊢;exact rO (a:=[.int .u8 b.toNat]) (by simp [zL]) this
theorem mu {e:TypeId} (he:ul P e=some (.int .u8)):∀ (s:List UInt8),zF P (zd s) e=true
 | []=>by simp [zd,zF]
 | b :: s=>by
  have:=mu he s;simp only [zd,List.map_cons,zF] at this ⊢;simp [zf,si,he,this]
theorem qk (K:Ok P) (F:ye P B ι h W) {e:TypeId} {x:V} {es:List V} {y:Value} (he:xY P h e x=some es) (hx:rel P ι x y) :
 zF P es e=true/\(Builtin.lenOf y).run P W=.ok es.length W/\∀ n,n<=es.length->∃ cs,(Builtin.firstCells (P.cellsOf e) n y).run P W=.ok cs.toArray W/\y5 P ι (es.take n) cs:=by
 unfold xY at he;split at he
 ·cases he;obtain ⟨_,rfl⟩:=va hx;refine ⟨by simp [zF],rfl,λn hn=>⟨[],rfl,by simp [y5]⟩⟩
 ·rename_i a s len;split at he
  ·rename_i own ty v hm;split at he
   ·rename_i V2;split at he
    ·rename_i o e' l mC hg;split at he
     ·rename_i hc;obtain ⟨rfl,hc⟩:=hc;cases he;obtain ⟨L,hL,sS⟩:=F.obj _ _ hm;obtain ⟨h1,h2,a1,m,c,elem,fr,h3,h4,h4',h5,h6,h7⟩:=Wd K.lay sS mC hg;obtain ⟨z,cap,rfl,V3,hz⟩:=tP hx;have hlen:((l.drop s).take len).length=len:=by simp;omega
      refine ⟨yI len (ve s h2),by simp [Builtin.lenOf,hlen],λn hn=>?_⟩;rw [hlen] at hn;obtain ⟨m1,m2,m3,rfl,k1,k2,k3⟩:=kj s n h5;rw [List.take_take,Nat.min_eq_left hn];refine ⟨m2,?_,k2⟩;have s1:=yJ K.lay _ _ m1 (yI s h2) k1;have s2:=yJ K.lay _ _ m2 (yI n (ve s h2)) k2;have hsl:(l.take s).length=s:=by simp;omega
      have hnl:((l.drop s).take n).length=n:=by simp;omega
      rw [hsl] at s1;rw [hnl] at s2;simp only [Builtin.firstCells];rw [<- s2];by_cases NB:n=0
      ·subst NB;obtain rfl:m2=[]:=List.length_eq_zero_iff.1 (by simpa using s2);rfl
      ·obtain ⟨L',o',e',g1,g2,g3,rfl,g4⟩:=hz O_;rw [hL] at g1;cases g1;rw [<- V2,mC] at g3;simp only [Option.some.injEq,Prod.mk.injEq] at g3;obtain ⟨rfl,rfl⟩:=g3;have:(⟨L.wC,L.off+o+s*P.cellsOf e,none⟩:Addr)=⟨L.wC,(a1++m1).length,none⟩:=by rw [List.length_append,h4,s1]
       rw [this];exact nf (a:=a1++m1) (c:=m3++c) (elem:=elem) (fr:=fr) (by rw [h3];simp)
     ·cases he
    ·cases he
   ·cases he
  ·cases he
 ·rename_i s;obtain rfl:=tS hx;split at he
  ·rename_i hu;cases he;refine ⟨mu hu s,by simp [Builtin.lenOf,zd,ByteArray.size],λn hn=>?_⟩;have e1:(zd s).take n=zd (s.take n):=by simp [zd,List.map_take]
   rw [e1];refine ⟨_,?_,eK (s.take n)⟩;have qA:n<=s.length:=by simpa [zd] using hn
   simp only [Builtin.firstCells,Sem.run_pure];congr 1;apply Array.ext';simp [ByteArray.extract,ByteArray.copySlice,List.map_take]
  ·cases he
 ·cases he
theorem KG {ty:nC} {p:List Nat} {o n:Nat} {u e:TypeId} (h:tN P ty p=some (o,u)) (hu:ul P u=some (.array n e)):rowAt P ty p=some (o,e):=by
 cases ty with
 | row f =>
  cases p with
  | nil=>simp [tN] at h
  | cons i p=>simp [rowAt,h,hu]
 | one f=>simp [rowAt,h,hu]
def gJ (x:Option V) (d:Nat):Option Nat :=
 match x with
 | none=>some d
 | some (.int _ i)=>if 0<=i then some i.toNat else none
 | _=>none
def Wo (P:Program) (ι:zw):Option V->Option Value->Prop
 | none,none=>True
 | some v,some x=>rel P ι v x
 | _,_=>False
theorem PO {x:Option V} {y:Option Value} {d n:Nat} (hb:gJ x d=some n) (hx:Wo P ι x y):(x=none/\y=none/\n=d)\/(∃ k i,x=some (.int k i)/\y=some (.int k i)/\0<=i/\n=i.toNat):=by
 unfold gJ at hb;split at hb
 ·cases hb;cases y with
  | none=>exact .inl ⟨rfl,rfl,rfl⟩
  | some y=>simp [Wo] at hx
 ·split at hb
  ·cases hb;cases y with
   | none=>simp [Wo] at hx
   | some y =>
    simp only [Wo] at hx;obtain rfl:=vA hx;exact .inr ⟨_,_,rfl,rfl,by assumption,rfl⟩
  ·cases hb
 ·cases hb
theorem su {lo hi:Option V} {lo' vK:Option Value} {isSlice:Bool} {len cap l k:Nat} (h1:gJ lo 0=some l) (h2:gJ hi len=some k) (r1:Wo P ι lo lo') (r2:Wo P ι hi vK) (hlk:l<=k) (hk:k<=len) (hc:len<=cap) (W:World) :
 (Instr.sliceBounds isSlice len cap lo' vK none).run P W=.ok (l,k,cap) W:=by
 rcases PO h1 r1 with ⟨rfl,rfl,rfl⟩ | ⟨kk,i,rfl,rfl,hi0,rfl⟩ <;> rcases PO h2 r2 with ⟨rfl,rfl,rfl⟩ | ⟨kk',j,rfl,rfl,hj0,rfl⟩
 ·simp [Instr.sliceBounds]
 ·have:0<=j/\j<=(cap:Int):=⟨hj0,O_⟩
  simp [Instr.sliceBounds,Instr.sliceBound,asIntOf,this]
 ·have:0<=i/\i<=(k:Int):=⟨hi0,O_⟩
  simp [Instr.sliceBounds,Instr.sliceBound,asIntOf,this]
 ·have h3:0<=j/\j<=(cap:Int):=⟨hj0,O_⟩
  have h4:0<=i/\i<=(j.toNat:Int):=⟨hi0,O_⟩
  simp only [Instr.sliceBounds,Instr.sliceBound,asIntOf,Sem.run_bind,Sem.run_pure,Result.andThen_ok,h3,and_self,if_true,h4,Option.isSome_none,Bool.false_eq_true,if_false]
def Ur (P:Program) (u:TypeId) (n:Nat) (e:TypeId):Bool :=
 match ul P u with
 | some (.array n' e')=>decide (n'=n)&&decide (e'=e)
 | _=>false
def yC (P:Program) (h:AH) (t:TypeId) (x:V) (lo hi:Option V):Option V :=
 match x with
 | .str s=>match ul P t,gJ lo 0,gJ hi s.length with
  | some .string,some l,some k=>if l<=k/\k<=s.length then some (.str ((s.drop l).take (k-l))) else none
  | _,_,_=>none
 | .y8 none _=>match ul P t,gJ lo 0,gJ hi 0 with
  | some (.slice e),some l,some k=>if l=0/\k=0/\(ul P e).isSome then some (.y8 none 0) else none
  | _,_,_=>none
 | .y8 (some (a,s)) len=>match ul P t,gJ lo 0,gJ hi len,rowAt P a.ty a.p with
  | some (.slice e),some l,some k,some (_,e')=>if e=e'/\l<=k/\k<=len/\(ul P e).isSome then some (.y8 (some (a,s+l)) (k-l)) else none
  | _,_,_,_=>none
 | .ptr (some a)=>match h.m a.n with
  | some (.cells _ ty v)=>match ul P t with
   | some (.array n e)=>match tN P ty a.p,yF v a.p,gJ lo 0,gJ hi n with
    | some (_,u),some (.agg _),some l,some k=>if ty=a.ty/\l<=k/\k<=n/\(ul P e).isSome/\Ur P u n e then some (.y8 (some (a,l)) (k-l)) else none
    | _,_,_,_=>none
   | _=>none
  | _=>none
 | _=>none
theorem z1f (K:Ok P) (F:ye P B ι h W) {t:TypeId} {x v:V} {lo hi:Option V} {y:Value} {lo' vK:Option Value} (hl:yC P h t x lo hi=some v) (hx:rel P ι x y) (r1:Wo P ι lo lo') (r2:Wo P ι hi vK) :
 ∃ z,(Instr.sliceAt t y lo' vK none).run P W=.ok z W/\rel P ι v z:=by
 unfold yC at hl;split at hl
 ·rename_i s;obtain rfl:=tS hx;split at hl
  ·rename_i l k hu NX Y1;split at hl
   ·rename_i hc;cases hl;have hsz:(⟨s.toArray⟩:ByteArray).size=s.length:=by simp [ByteArray.size]
    refine ⟨.string ((⟨s.toArray⟩:ByteArray).extract l k),?_,?_⟩
    ·simp only [Instr.sliceAt,Instr.slice,Sem.run_bind,zo hu,Result.andThen_ok,Option.isSome_none,Bool.false_eq_true,if_false,Sem.run_pure,hsz,
      su (isSlice:=false) NX Y1 r1 r2 hc.1 hc.2 (Nat.le_refl _)]
    ·have:(⟨s.toArray⟩:ByteArray).extract l k=⟨((s.drop l).take (k-l)).toArray⟩:=by
      cases hq:(⟨s.toArray⟩:ByteArray).extract l k with
      | mk arr =>
       have h1:=congrArg (λb:ByteArray=>b.data.toList) hq;simp only [ByteArray.data_extract,Array.toList_extract,List.extract_eq_take_drop] at h1;congr 1;apply Array.ext';rw [<- h1]
     rw [this];exact mk_str _
   ·cases hl
  ·cases hl
 ·obtain ⟨rfl,rfl⟩:=va hx;split at hl
  ·rename_i e l k hu NX Y1;split at hl
   ·rename_i hc;cases hl;obtain ⟨rfl,rfl,hs⟩:=hc;obtain ⟨d,hd⟩:=Option.isSome_iff_exists.1 hs;refine ⟨.slice none 0 0,?_,.inr ⟨rfl,by simp [zL,Value.cells]⟩⟩;simp only [Instr.sliceAt,Instr.slice,Sem.run_bind,zo hu,Result.andThen_ok,Sem.run_pure,xg hd,
     su (isSlice:=true) NX Y1 r1 r2 (Nat.le_refl _) (Nat.le_refl _) (Nat.le_refl _),if_true,Nat.sub_self]
   ·cases hl
  ·cases hl
 ·rename_i a s len;obtain ⟨z,cap,rfl,V3,hz⟩:=tP hx;split at hl
  ·rename_i e l k o e' hu NX Y1 mC;split at hl
   ·rename_i hc;cases hl;obtain ⟨rfl,hc1,Tg,hs⟩:=hc;obtain ⟨d,hd⟩:=Option.isSome_iff_exists.1 hs;have pM:(Instr.sliceAt t (.slice (some z) len cap) lo' vK none).run P W=.ok (.slice (some (if cap=l then z else z.add (l*P.cellsOf e))) (k-l) (cap-l)) W:=by
     simp only [Instr.sliceAt,Instr.slice,Sem.run_bind,zo hu,Result.andThen_ok,Sem.run_pure,xg hd,
      su (isSlice:=true) NX Y1 r1 r2 hc1 Tg V3]
     split <;> simp
    refine ⟨_,pM,XQ O_ (Wa hx) λJ1=>?_⟩;have wO:cap≠l:=O_;rw [if_neg wO];obtain ⟨L,o',e',g1,g2,g3,rfl,g4⟩:=hz O_;refine ⟨L,o',e',g1,g2,g3,?_,?_⟩
    ·rw [mC] at g3;simp only [Option.some.injEq,Prod.mk.injEq] at g3;obtain ⟨_,rfl⟩:=g3;rw [sn,Nat.add_mul];congr 1;omega
    ·have:s+l+(cap-l)=s+cap:=O_;rw [this];exact g4
   ·cases hl
  ·cases hl
 ·rename_i a;obtain ⟨z,rfl,hz⟩:=sw hx;split at hl
  ·rename_i own ty v0 hm;split at hl
   ·rename_i n e hu;split at hl
    ·rename_i o u vs l k oK hg NX Y1;split at hl
     ·rename_i hc;cases hl;obtain ⟨V2,hc1,Tg,hs,J0⟩:=hc;unfold Ur at J0;split at J0
      ·rename_i n' e' UN;simp only [Bool.and_eq_true,decide_eq_true_eq] at J0;obtain ⟨rfl,rfl⟩:=J0;obtain ⟨d,hd⟩:=Option.isSome_iff_exists.1 hs;have pM:(Instr.sliceAt t (.pointer (some z)) lo' vK none).run P W=.ok (.slice (some (if n'=l then z else z.add (l*P.cellsOf e'))) (k-l) (n'-l)) W:=by
        simp only [Instr.sliceAt,Instr.sureAddr,Sem.run_bind,zo hu,Result.andThen_ok,Sem.run_pure,xg hd,
         su (isSlice:=false) NX Y1 r1 r2 hc1 Tg (Nat.le_refl _)]
       refine ⟨_,pM,XQ O_ (let ⟨L,_,_,hL,_⟩:=hz;⟨L,hL⟩) λJ1=>?_⟩;rw [if_neg O_];obtain ⟨L,hL,sS⟩:=F.obj _ _ hm;obtain ⟨h1,h2,a1,m,c,elem,fr,h3,h4,h5,h6,h7⟩:=aG K.lay sS oK hg;obtain ⟨L',o',t',g1,g2,g3,rfl⟩:=hz;rw [hL] at g1;cases g1;rw [<- V2,oK] at g3;simp only [Option.some.injEq,Prod.mk.injEq] at g3;obtain ⟨rfl,rfl⟩:=g3;have hsz:=wB K.lay _ _ m h2 h5;rw [K.lay.array u n' e' UN] at hsz;have htot:(a1++m++c).length=L.size:=by
        obtain ⟨_,_,x1,x2,x3,e1,f1,k3,_,k5,_⟩:=sS;rw [h3] at k3;simp only [Option.some.injEq,Obj.cells.injEq] at k3;have:=congrArg Array.size k3.1;simp at this;simp at k5 ⊢;omega
       refine ⟨L,o,e',hL,g2,?_,?_,?_⟩
       ·rw [<- V2];exact KG oK UN
       ·rw [sn]
       ·have:l+(n'-l)=n':=O_;rw [this];rw [<- htot];simp [h4,hsz]
      ·cases J0
     ·cases hl
    ·cases hl
   ·cases hl
  ·cases hl
 ·cases hl
end
section
open Go Go.RowKit
variable {P:Program} {ι:zw} {W:World} {B:wy} {h:AH}
theorem nq {v:V} {cs:List Value} (hr:zL P ι v cs):∀ n,y5 P ι (List.replicate n v) (List.replicate n cs).flatten
 | 0=>by simp [y5]
 | n+1=>by
  simp only [List.replicate_succ,List.flatten_cons];exact rO hr (nq hr n)
theorem WU (z:Array Value) (hz:0<z.size):∀ n,(List.range (n*z.size)).map (λi=>z[i%z.size]!)=(List.replicate n z.toList).flatten
 | 0=>by simp
 | n+1=>by
  rw [Nat.add_mul,Nat.one_mul,List.range_add,List.map_append,WU z hz n,List.replicate_succ',List.flatten_append];congr 1;simp only [List.map_map,List.flatten_cons,List.flatten_nil,List.append_nil];apply List.ext_getElem
  ·simp
  ·intro i h1 h2;simp at h1 h2;simp [Nat.add_mod,Nat.mul_mod_left,Nat.mod_eq_of_lt h1,getElem!_pos z i h1]
theorem R0 {n:Int} (h0:0<=n) (h1:n<9223372036854775808):IntKind.i64.wrap n=n:=by
 have hm:n%(2 ^ IntKind.i64.bits:Int)=n:=Int.emod_eq_of_lt h0 (by show n<2 ^ 64;omega);unfold IntKind.wrap;simp only [hm];simp [IntKind.signed,IntKind.bits];omega
def wU (P:Program) (h:AH) (t:TypeId) (l c:V):Option (V × AH) :=
 match l,c with
 | .int _ n,.int _ n'=>match ul P t with
  | some (.slice e)=>match xk P e with
   | some z=>if n=n'/\0<=n/\1<=P.bytesOf e/\(P.bytesOf e:Int)*n<=140737488355328/\P.cellsOf e≠0 then
    some (.y8 (some (⟨h.next,.row e,[]⟩,0)) n.toNat,h.make (.cells true (.row e) (.agg (List.replicate n.toNat z)))) else none
   | none=>none
  | _=>none
 | _,_=>none
theorem Xu {e:TypeId} {d:TypeDesc} (h:ul P e=some d):∃ i,P.info? e=some i/\i.size=P.cellsOf e/\i.bytes=P.bytesOf e:=by
 have h:=sx h;cases hi:P.info? e with
 | none=>simp [Program.underlying,hi] at h
 | some i=>exact ⟨i,rfl,by simp [Program.cellsOf,hi],by simp [Program.bytesOf,hi]⟩
theorem XJ {ι':zw} {n s len cap:Nat} {e:TypeId} {L:Loc} (hL:ι' n=some L) (V2:L.ty=.row e) (h1:len<=cap) (hs:s=0) (hsz:L.off+cap*P.cellsOf e<=L.size) :
 rel P ι' (.y8 (some (⟨n,.row e,[]⟩,s)) len) (.slice (some ⟨L.wC,L.off,none⟩) len cap):=by
 subst hs;refine XQ h1 ⟨L,hL⟩ λ_=>⟨L,0,e,hL,V2,by simp [rowAt],S_,by simpa using hsz⟩
theorem ZT (K:Ok P) (F:ye P B ι h W) {t:TypeId} {l c v:V} {h':AH} {y z:Value} (hl:wU P h t l c=some (v,h')) (h1:rel P ι l y) (h2:rel P ι c z) :
 pD P B ι W (Instr.makeSlice t y z) v h':=by
 unfold wU at hl;split at hl
 ·rename_i k1 n k2 n';obtain rfl:=vA h1;obtain rfl:=vA h2;split at hl
  ·rename_i e hu;split at hl
   ·rename_i zv hz;split at hl
    ·rename_i hc;obtain ⟨rfl,h0,NX,Y1,hc0⟩:=hc;simp only [Option.some.injEq,Prod.mk.injEq] at hl;obtain ⟨rfl,rfl⟩:=hl;obtain ⟨zz,z1,z2,z3,z4⟩:=v8 K hz W;obtain ⟨d,hd⟩:=uB z4;obtain ⟨i,hi,hisz,hib⟩:=Xu hd;have hnb:n<=(P.bytesOf e:Int)*n:=by
      have:(1:Int)*n<=(P.bytesOf e:Int)*n:=Int.mul_le_mul_of_nonneg_right O_ h0;omega
     have hw:=R0 h0 O_;have hzs:zz.cells.size=P.cellsOf e:=by have:=wB K.lay _ _ _ z4 (z3 ι);simpa using this
     have fX:((Array.range (n.toNat*P.cellsOf e)).map (λi=>zz.cells[i%zz.cells.size]!))=((List.replicate n.toNat zz.cells.toList).flatten++[]).toArray:=by
      apply Array.ext';simp only [Array.toList_map,Array.toList_range,List.append_nil];rw [<- hzs];exact WU zz.cells O_ _
     obtain ⟨ι',L,r1,r2,r3,r4,r5⟩:=N6 (rest:=[]) (e:=e) (ty:=.row e) F (v:=.agg (List.replicate n.toNat zv)) (by simp only [rT];exact tZ z4 _) (cs:=(List.replicate n.toNat zz.cells.toList).flatten) (by simp only [zL];exact nq (z3 ι) _) rfl;have hlen:((List.replicate n.toNat zz.cells.toList).flatten++[]).length=n.toNat*P.cellsOf e:=by
      have:=yJ K.lay _ e _ (tZ z4 n.toNat) (nq (z3 ι) n.toNat);simpa using this
     refine ⟨ι',_,.slice (some ⟨W.heap.size,0,none⟩) n.toNat n.toNat,?_,r2,r3,?_⟩
     ·have e1:(n<0||decide ((i.bytes:Int)*n>2 ^ 48))=false:=by
       rw [hib];simp only [Bool.or_eq_false_iff,decide_eq_false_iff_not];constructor <;> omega
      simp only [Instr.makeSlice,Sem.run_bind,zo hu,Result.andThen_ok,asInt,asIntOf,Sem.run_pure,typeInfo,run_program,hi,hw];rw [if_neg (by
       simp only [Bool.or_eq_true,decide_eq_true_eq,e1];simp;omega)]
      simp only [Sem.run_bind,run_askRoom,Result.andThen_ok,xg hd,Sem.run_pure];by_cases NB:n.toNat*P.cellsOf e=0
      ·have hnn:n.toNat=0:=by
        rcases Nat.mul_eq_zero.1 NB with h | h
        ·exact h
        ·exact absurd h hc0
       rw [if_pos NB];simp only [Sem.run_bind,Sem.run_pure,Result.andThen_ok,NB];rw [hnn] at r1 ⊢;simp at r1;simp [r1,hnn,show Array.range 0=#[] from rfl]
      ·rw [if_neg NB];simp only [Sem.run_bind,z1,Sem.run_pure,Result.andThen_ok,fX,r1]
     ·subst r5;exact XJ r4 rfl (Nat.le_refl _) rfl (by simp only [Nat.zero_add];rw [hlen];exact Nat.le_refl _)
    ·cases hl
   ·cases hl
  ·cases hl
 ·cases hl
theorem ye.zcC (F:ye P B ι h W) (o:AO) (L:Loc) (z0r:∀ n o' L',h.m n=some o'->ι n=some L'->L'.wC≠L.wC) (hF:¬ B.F L.wC)
 (ho:pG P (zw.add ι h.next L) W L o):zw.le ι (zw.add ι h.next L)/\ye P B (zw.add ι h.next L) (h.make o) W:=by
 have hle:zw.le ι (zw.add ι h.next L):=zw.Zl (F.fresh _ (Nat.le_refl _));refine ⟨hle,?_,?_,?_,?_,F.frame,F.os,F.tape,F.output,F.size⟩
 ·intro k o' hk;simp only [AH.make] at hk;split at hk
  ·rename_i e;subst e;cases hk;exact ⟨L,by simp [zw.add],ho⟩
  ·obtain ⟨L',h1,h2⟩:=F.obj k o' hk;exact ⟨L',hle _ _ h1,vR hle rfl h2⟩
 ·intro k hk;simp only [AH.make] at hk;simp only [zw.add];rw [if_neg O_];exact F.fresh k O_
 ·intro i j o1 o2 Li Lj hi hj wO ux h1 h2;have get:∀ k o' Lk,(AH.make h o).m k=some o'->zw.add ι h.next L k=some Lk->(k=h.next/\Lk=L)\/(k≠h.next/\h.m k=some o'/\ι k=some Lk):=by
   intro k o' Lk a1 a2;by_cases e:k=h.next
   ·left;subst e;simp [zw.add] at a2;exact ⟨rfl,a2.symm⟩
   ·right
    simp only [AH.make,if_neg e] at a1;simp only [zw.add,if_neg e] at a2;exact ⟨e,a1,a2⟩
  rcases get i o1 Li hi h1 with ⟨e1,e2⟩ | ⟨e1,e2,e3⟩ <;> rcases get j o2 Lj hj h2 with ⟨f1,f2⟩ | ⟨f1,f2,f3⟩
  ·omega
  ·subst e2;exact λe=>z0r j o2 Lj f2 f3 e.symm
  ·subst f2;exact z0r i o1 Li e2 e3
  ·exact F.apart i j o1 o2 Li Lj e2 f2 wO ux e3 f3
 ·intro i o' Li hi ux h1;simp only [AH.make] at hi;simp only [zw.add] at h1;split at hi
  ·rename_i e;subst e;simp only [if_true,Option.some.injEq] at h1;subst h1;exact hF
  ·rename_i e;rw [if_neg e] at h1;exact F.free i o' Li hi ux h1
theorem ye.zcD (F:ye P B ι h W) {n:Nat} {o:AO} {L:Loc} (hm:h.m n=some o) (ux:o.w8=true) (hL:ι n=some L) (cs:List Value) (elem:TypeId) (fr:Nat × Nat) :
 ye P B ι (h.kill n) (World.wQ W L.wC cs elem fr):=by
 have Fk:=F.kill n;have live:∀ k o',(h.kill n).m k=some o'->k≠n/\h.m k=some o':=by
  intro k o' hk;simp only [AH.kill] at hk;split at hk
  ·cases hk
  ·exact ⟨by assumption,hk⟩
 refine ⟨?_,Fk.fresh,Fk.apart,Fk.free,?_,Fk.os,Fk.tape,Fk.output,by simpa [World.wQ] using Fk.size⟩
 ·intro k o' hk;obtain ⟨e,JH⟩:=live k o' hk;obtain ⟨Lk,h1,h2⟩:=F.obj k o' JH;exact ⟨Lk,h1,vR (zw.le_refl _) (ko λe'=>F.apart n k _ _ L Lk hm JH (λBD=>e BD.symm) ux hL h1 e'.symm) h2⟩
 ·intro b hb;obtain ⟨h1,h2⟩:=F.frame b hb;have:b≠L.wC:=λe=>F.free n _ L hm ux hL (e▸hb);exact ⟨by rw [ko this,h1],by simpa [World.wQ] using h2⟩
def kC (h:AH) (e:TypeId) (s:V):Option (List V × AH) :=
 match s with
 | .y8 none _=>some ([],h)
 | .y8 (some (a,i)) len=>match h.m a.n with
  | some (.cells true ty (.agg l))=>if ty=a.ty/\ty=.row e/\a.p=[]/\i+len<=l.length then some ((l.drop i).take len,h.kill a.n) else none
  | _=>none
 | _=>none
def oa (P:Program) (h:AH) (e:TypeId) (s x:V):Option (V × AH) :=
 match xY P h e x with
 | some []=>match s with
  | .y8 none _=>some (s,h)
  | .y8 (some _) _=>some (s,h)
  | _=>none
 | some (w :: ws)=>match kC h e s with
  | some (l,h1)=>if 1<=P.bytesOf e/\(l.length+(w :: ws).length)*P.bytesOf e<=140737488355328/\(xk P e).isSome then
   some (.y8 (some (⟨h1.next,.row e,[]⟩,0)) (l.length+(w :: ws).length),h1.make (.cells true (.row e) (.agg (l++w :: ws)))) else none
  | none=>none
 | none=>none
theorem Yn:∀ (n c z0L:Nat),c<=z0L->Builtin.growBy z0L n c<=z0L+(z0L+768)/4
 | 0,c,z0L,h=>by simp only [Builtin.growBy];omega
 | n+1,c,z0L,h=>by
  simp only [Builtin.growBy];split
  ·omega
  ·by_cases hc:c+(c+768)/4<=z0L
   ·exact Yn n _ z0L hc
   ·cases n with
    | zero=>simp only [Builtin.growBy];omega
    | succ n=>simp only [Builtin.growBy];rw [if_pos O_];omega
theorem S3 {fY kJ:Nat} (h:kJ<fY):Builtin.nextslicecap fY kJ<=2*fY:=by
 unfold Builtin.nextslicecap;split
 ·omega
 ·split
  ·omega
  ·have:=Yn 4 kJ fY O_;omega
def S1:TypeDesc->Bool
 | .int _=>true
 | _=>false
theorem uU (t xt e:TypeId) (s x:Value) (hu:ul P t=some (.slice e)) {dx:TypeDesc} (hx:ul P xt=some dx) (Th:S1 dx=false) {base:Option Addr} {uS hY:Nat} (hs:s=.slice base uS hY) {n:Nat} (hn:(Builtin.lenOf x).run P W=.ok n W) {de:TypeDesc} (he:ul P e=some de) (ty:TypeId) :
 (Builtin.append_ #[t,xt] ty #[s,x]).run P W =
  if uS+n<=hY then (do
   let new <- Builtin.firstCells (P.cellsOf e) n x
   if let some a:=base then storeCells (a.add (uS*P.cellsOf e)) new.toList
   pure (.slice base (uS+n) hY):Sem Value).run P W
  else (do
   if ((uS+n:Nat):Int)>IntKind.i64.max/\((false:Bool)=true\/(<- typeInfo e).bytes=0) then runtimePanic (.error "growslice: len out of range")
   if Builtin.nextslicecap (uS+n) hY*(<- typeInfo e).bytes>2 ^ 48 then (do
    if !(<- Builtin.mayShare (P.cellsOf e) uS n base x) then mark .noRoom
    unsupported (.resourceLimit "append: a slice or a string whose bytes no memory bears"))
   let th <- choose (.appendCap (uS+n) hY e)
   askRoom (th*(<- typeInfo e).bytes)
   let kJ <- Builtin.firstCells (P.cellsOf e) uS s
   let new <- Builtin.firstCells (P.cellsOf e) n x
   let rest:=Builtin.zeroCells (<- zeroValue e).cells (th-(uS+n))
   pure (.slice (some (<- newRow e (kJ++new++rest))) (uS+n) th):Sem Value).run P W:=by
 subst hs;obtain ⟨i,hi,h1,h2⟩:=Xu he;simp only [Builtin.append_,List.getElem?_toArray,List.getElem?_cons_zero,List.getElem?_cons_succ,Sem.run_bind,zo hu,Result.andThen_ok,xg he,zo hx,Sem.run_pure,hn];cases dx <;> simp [S1] at Th <;> simp only [Bool.false_eq_true,if_false,Bool.not_false,if_true,Sem.run_bind,hn,Result.andThen_ok,Sem.run_ite] <;> split <;> rfl
end
section
open Go Go.RowKit
variable {P:Program} {ι:zw} {W:World} {B:wy} {h:AH}
def ji (P:Program) (t:TypeId):Bool :=
 match ul P t with
 | some (.int _)=>false
 | some _=>true
 | none=>false
theorem N2 {h:AH} {a n:Nat} {o o':AO} (k:((h.kill a).make o).m n=some o'):(h.make o).m n=some o':=by
 by_cases e:n=h.next
 ·simp [AH.make,AH.kill,e] at k ⊢;exact k
 ·simp [AH.make,AH.kill,e] at k ⊢;exact k.2
theorem PR (K:Ok P) (F:ye P B ι h W) {e:TypeId} {de:TypeDesc} (he:ul P e=some de) {s x:Value} {base:Option Addr} {uS hY:Nat} {ss es:List V} (V3:hY<uS+es.length)
 (NX:1<=P.bytesOf e) (Y1:(uS+es.length)*P.bytesOf e<=140737488355328) {z:V} (hz:xk P e=some z)
 (hss:zF P ss e=true) (dP:zF P es e=true) (hl:ss.length=uS)
 (h1:∀ W':World,ye P B ι h W'->∃ c1,(Builtin.firstCells (P.cellsOf e) uS s).run P W'=.ok c1.toArray W'/\y5 P ι ss c1)
 (h2:∀ W':World,ye P B ι h W'->∃ c2,(Builtin.firstCells (P.cellsOf e) es.length x).run P W'=.ok c2.toArray W'/\y5 P ι es c2) :
 pD P B ι W (do
  if ((uS+es.length:Nat):Int)>IntKind.i64.max/\((false:Bool)=true\/(<- typeInfo e).bytes=0) then runtimePanic (.error "growslice: len out of range")
  if Builtin.nextslicecap (uS+es.length) hY*(<- typeInfo e).bytes>2 ^ 48 then (do
   if !(<- Builtin.mayShare (P.cellsOf e) uS es.length base x) then mark .noRoom
   unsupported (.resourceLimit "append: a slice or a string whose bytes no memory bears"))
  let th <- choose (.appendCap (uS+es.length) hY e)
  askRoom (th*(<- typeInfo e).bytes)
  let kJ <- Builtin.firstCells (P.cellsOf e) uS s
  let new <- Builtin.firstCells (P.cellsOf e) es.length x
  let rest:=Builtin.zeroCells (<- zeroValue e).cells (th-(uS+es.length))
  pure (.slice (some (<- newRow e (kJ++new++rest))) (uS+es.length) th):Sem Value)
  (.y8 (some (⟨h.next,.row e,[]⟩,0)) (ss.length+es.length)) (h.make (.cells true (.row e) (.agg (ss++es)))):=by
 obtain ⟨i,hi,hisz,hib⟩:=Xu he;have hti:∀ W':World,(typeInfo e).run P W'=.ok i W':=λW'=>by simp [typeInfo,hi]
 have hsmall:uS+es.length<=140737488355328:=Nat.le_trans (Nat.le_mul_of_pos_right _ O_) Y1;have hnc:=S3 V3;have hnb:Builtin.nextslicecap (uS+es.length) hY*P.bytesOf e<=2*((uS+es.length)*P.bytesOf e):=by
  rw [<- Nat.mul_assoc];exact Nat.mul_le_mul_right _ hnc
 generalize hq:Question.appendCap (uS+es.length) hY e=q;have hf:q.forced=false:=by rw [<- hq];rfl
 generalize hW1:({ W with drawn:=W.drawn+1 }:World)=W1;have hheap:W1.heap=W.heap:=by rw [<- hW1]
 have F1:ye P B ι h W1:=by rw [<- hW1];exact F.drew _
 generalize UP:q.cut (W.tape W.drawn q)=th;have Rb:uS+es.length<=th:=by
  rw [<- UP,<- hq];simp only [Question.cut];omega
 obtain ⟨zz,z1,z2,z3,z4⟩:=v8 K hz W1;have hzs:zz.cells.size=P.cellsOf e:=by have:=wB K.lay _ _ _ z4 (z3 ι);simpa using this
 obtain ⟨c1,h1,r1⟩:=h1 W1 F1;obtain ⟨c2,h2,r2⟩:=h2 W1 F1;have hrel:zL P ι (.agg (ss++es)) (c1++c2):=by simp only [zL];exact vY r1 r2
 obtain ⟨ι',L,k1,k2,k3,k4,k5⟩:=N6 (rest:=(Builtin.zeroCells zz.cells (th-(uS+es.length))).toList) (e:=e) (ty:=.row e) F1 (v:=.agg (ss++es)) (by simp only [rT,uJ,hss,dP,Bool.and_self]) hrel rfl;have hlen:(c1++c2++(Builtin.zeroCells zz.cells (th-(uS+es.length))).toList).length=th*P.cellsOf e:=by
  have s1:=yJ K.lay _ _ c1 hss r1;have s2:=yJ K.lay _ _ c2 dP r2;have s3:(Builtin.zeroCells zz.cells (th-(uS+es.length))).toList.length=(th-(uS+es.length))*P.cellsOf e:=by simp [Builtin.zeroCells,hzs]
  rw [List.length_append,List.length_append,s1,s2,s3,hl,<- Nat.add_mul,<- Nat.add_mul];congr 1;omega
 refine ⟨ι',_,.slice (some ⟨W1.heap.size,0,none⟩) (uS+es.length) th,?_,k2,k3,?_⟩
 ·have g1:¬ (((uS+es.length:Nat):Int)>IntKind.i64.max/\((false:Bool)=true\/i.bytes=0)):=by
   rintro ⟨_,h | h⟩
   ·cases h
   ·omega
  have g2:¬ (Builtin.nextslicecap (uS+es.length) hY*i.bytes>2 ^ 48):=by rw [hib];omega
  have O0:(choose q).run P W=.ok th W1:=by
   rw [run_choose,if_neg (by simp [hf]),UP,hW1]
  have J2:c1.toArray++c2.toArray++Builtin.zeroCells zz.cells (th-(uS+es.length))=(c1++c2++(Builtin.zeroCells zz.cells (th-(uS+es.length))).toList).toArray:=by
   apply Array.ext';simp
  simp only [Sem.run_bind,hti,Result.andThen_ok,g1,if_false,Sem.run_pure,g2,O0,run_askRoom,h1,h2,z1,J2,k1]
 ·subst k5;rw [hl];exact XJ k4 rfl Rb rfl (by simp only [Nat.zero_add];rw [hlen];exact Nat.le_refl _)
theorem R7 (K:Ok P) (F:ye P B ι h W) {t xt ty e:TypeId} {s x v:V} {h':AH} {y z:Value} (hu:ul P t=some (.slice e)) (hx:ji P xt=true) (hl:oa P h e s x=some (v,h')) (r1:rel P ι s y) (r2:rel P ι x z) (hse:(ul P e).isSome=true) :
 pD P B ι W (Builtin.append_ #[t,xt] ty #[y,z]) v h':=by
 obtain ⟨de,he⟩:=Option.isSome_iff_exists.1 hse;obtain ⟨dx,hdx,Th⟩:∃ dx,ul P xt=some dx/\S1 dx=false:=by
  unfold ji at hx;cases hq:ul P xt with
  | none=>rw [hq] at hx;cases hx
  | some dx=>rw [hq] at hx;exact ⟨dx,rfl,by cases dx <;> first | rfl | cases hx⟩
 unfold oa at hl;split at hl
 ·rename_i fZ;obtain ⟨e1,e2,e3⟩:=qk K F fZ r2;obtain ⟨cs,c1,c2⟩:=e3 0 (Nat.le_refl _);simp only [List.length_nil] at e2;simp only [List.take_nil,y5] at c2;subst c2;split at hl
  ·cases hl;obtain ⟨rfl,rfl⟩:=va r1;refine pD.z03 F (x:=.slice none 0 0) ?_ r1;rw [uU t xt e _ _ hu hdx Th rfl e2 he];simp [c1]
  ·cases hl;rename_i ap len;obtain ⟨pa,i⟩:=ap;obtain ⟨q,cap,rfl,hc,hq⟩:=tP r1;refine pD.z03 F (x:=.slice (some q) len cap) ?_ r1;rw [uU t xt e _ _ hu hdx Th rfl e2 he,if_pos O_];simp [c1,storeCells]
  ·cases hl
 ·rename_i w ws fZ;obtain ⟨e1,e2,e3⟩:=qk K F fZ r2;split at hl
  ·rename_i l h1 ux;split at hl
   ·rename_i hc;obtain ⟨NX,Y1,hz⟩:=hc;obtain ⟨zv,hz⟩:=Option.isSome_iff_exists.1 hz;simp only [Option.some.injEq,Prod.mk.injEq] at hl;obtain ⟨rfl,rfl⟩:=hl;unfold kC at ux;split at ux
    ·-- the slice is nil
     cases ux;obtain ⟨rfl,rfl⟩:=va r1;have:=PR K F he (s:=.slice none 0 0) (x:=z) (base:=none) (uS:=0) (hY:=0) (ss:=[]) (es:=w :: ws) S_ NX (by simpa using Y1) hz (by simp [zF]) e1 rfl
      (λW' _=>⟨[],rfl,by simp [y5]⟩)
      (λW' F'=>by
       obtain ⟨_,_,k⟩:=qk K F' fZ r2;obtain ⟨cs,k1,k2⟩:=k _ (Nat.le_refl _);exact ⟨cs,k1,by simpa using k2⟩)
     obtain ⟨ι',W',xx,g1,g2,g3,g4⟩:=this;refine ⟨ι',W',xx,?_,g2,g3,g4⟩;rw [uU t xt e _ _ hu hdx Th rfl e2 he,if_neg S_];exact g1
    ·rename_i a i len;split at ux
     ·rename_i bty row hm;split at ux
      ·rename_i hc;obtain ⟨V2,mC,hp,hil⟩:=hc;cases ux;obtain ⟨q,cap,rfl,V3,hq⟩:=tP r1;obtain ⟨L,hL,sS⟩:=F.obj _ _ hm;subst mC;obtain ⟨an,aty,ap⟩:=a;simp only at V2 hp hm hL hq r1;subst V2;subst hp;have Rd:rowAt P (.row e) []=some (0,e):=by simp [rowAt]
       obtain ⟨o1,o2,a1,m,c,elem,fr,o3,o4,o4',o5,o6,o7⟩:=Wd K.lay sS Rd (v:=.agg row) rfl;have hlen:((row.drop i).take len).length=len:=by simp;omega
       have z4t:=yI len (ve i o2);obtain ⟨m1,m2,m3,rfl,k1,k2,k3⟩:=kj i len o5;have s1:=yJ K.lay _ _ m1 (yI i o2) k1;have s2:=yJ K.lay _ _ m2 z4t k2;have hil':(row.take i).length=i:=by simp;omega
       rw [hil'] at s1;rw [hlen] at s2;by_cases UR:len+(w :: ws).length<=cap
       ·-- in place
        obtain ⟨L',o',e',g1,g2,g3,rfl,g4⟩:=hq (by simp at UR;omega);rw [hL] at g1;cases g1;simp only [Rd,Option.some.injEq,Prod.mk.injEq] at g3;obtain ⟨rfl,rfl⟩:=g3;obtain ⟨cs,c1,c2⟩:=e3 _ (Nat.le_refl _);rw [List.take_length] at c2;have s4:=yJ K.lay _ _ cs e1 c2;have BE:cs.length<=(m3++c).length:=by
         have t1:(a1++(m1++m2++m3)++c).length=L.size:=o4';simp only [List.length_append] at t1 ⊢;rw [s4];have t2:(i+cap)*P.cellsOf e=i*P.cellsOf e+cap*P.cellsOf e:=Nat.add_mul _ _ _;have t3:(len+(w :: ws).length)*P.cellsOf e<=cap*P.cellsOf e:=Nat.mul_le_mul_right _ UR;have t4:(len+(w :: ws).length)*P.cellsOf e=len*P.cellsOf e+(w :: ws).length*P.cellsOf e:=Nat.add_mul _ _ _;omega
        obtain ⟨d1,d2,hd,NY⟩:∃ d1 d2,m3++c=d1++d2/\d1.length=cs.length:=⟨(m3++c).take cs.length,(m3++c).drop cs.length,(List.take_append_drop _ _).symm,by simp at BE ⊢;omega⟩
        have o3':W.heap[L.wC]?=some (.cells ((a1++m1++m2)++d1++d2).toArray elem fr):=by
         rw [o3];congr 3;have:a1++(m1++m2++m3)++c=a1++m1++m2++(m3++c):=S_;rw [this,hd];simp
        have jK:((a1++m1++m2)++d1++d2).length=L.size:=by
         rw [<- o4'];have:a1++(m1++m2++m3)++c=a1++m1++m2++(m3++c):=S_;rw [this,hd];simp
        have pN:=vS (P:=P) (b:=L.wC) cs (a1++m1++m2) d1 d2 W 0 o3' NY.symm (by rw [jK,<- o4'];exact o6 rfl) (qp _ _ _ e1 c2) (a1++m1++m2).length S_;have wO:∀ (W:World),ye P B ι h W->True:=λ_ _=>trivial;let Y2:Loc:=⟨L.wC,L.off+i*P.cellsOf e,L.size,.row e⟩
        have Fk:=F.zcD hm rfl hL (a1++m1++m2++cs++d2) elem fr;have hle:zw.le ι (zw.add ι h.next Y2):=zw.Zl (F.fresh _ (Nat.le_refl _));have had:=Fk.zcC (.cells true (.row e) (.agg ((row.drop i).take len++w :: ws))) Y2
         (by
          intro n' o' L' qA X6;simp only [AH.kill] at qA;split at qA
          ·cases qA
          ·rename_i hne';exact λe'=>F.apart an n' _ _ L L' hm qA (λBD=>hne' BD.symm) rfl hL X6 e'.symm)
         (F.free an _ L hm rfl hL)
         ⟨rfl,by simp only [rT,uJ,z4t,e1,Bool.and_self],a1++m1,m2++cs,d2,elem,fr,by
          rw [show Y2.wC=L.wC from rfl,km (vl o3)];simp,by simp [Y2,o4,s1],by
          rw [show Y2.size=L.size from rfl,<- jK];simp [NY],by
          simp only [zL];exact vY (jO hle _ _ k2) (jO hle _ _ c2),λ_=>⟨by rw [show Y2.size=L.size from rfl,<- o4'];exact o6 rfl,(show elem=e from Np (ty:=.row e) (L:=L) sS o3)⟩⟩
        obtain ⟨had1,had2⟩:=had;refine ⟨_,_,.slice (some ⟨L.wC,L.off+0+i*P.cellsOf e,none⟩) (len+(w :: ws).length) cap,?_,had1,had2,?_⟩
        ·rw [uU t xt e _ _ hu hdx Th rfl e2 he,if_pos UR];have Re:(⟨L.wC,L.off+0+i*P.cellsOf e,none⟩:Addr).add (len*P.cellsOf e)=⟨L.wC,(a1++m1++m2).length,none⟩:=by
          rw [sn];congr 1;rw [List.length_append,List.length_append,o4,s1,s2]
         simp only [Sem.run_bind,c1,Result.andThen_ok,Re,pN,Sem.run_pure]
        ·rw [hlen];have zcH:L.off+0+i*P.cellsOf e=Y2.off:=by simp [Y2]
         rw [zcH];refine XJ (L:=Y2) (by simp [zw.add,AH.kill]) rfl UR rfl ?_;have t2:(i+cap)*P.cellsOf e=i*P.cellsOf e+cap*P.cellsOf e:=Nat.add_mul _ _ _;simp only [Y2];omega
       ·-- grown
        have:=PR K F he (s:=.slice (some q) len cap) (x:=z) (base:=some q) (uS:=len) (hY:=cap) (ss:=(row.drop i).take len) (es:=w :: ws) O_ NX (by rw [hlen] at Y1;exact Y1) hz z4t e1 hlen
         (λW' F'=>by
          have J3:xY P h e (.y8 (some (⟨an,.row e,[]⟩,i)) len)=some ((row.drop i).take len):=by
           simp only [xY,hm,if_true,Rd,yF,true_and];rw [if_pos hil]
          obtain ⟨_,_,k⟩:=qk K F' J3 r1;obtain ⟨cs,k1,k2⟩:=k len (by rw [hlen];exact Nat.le_refl _);refine ⟨cs,k1,?_⟩;rw [List.take_take,Nat.min_self] at k2;exact k2)
         (λW' F'=>by
          obtain ⟨_,_,k⟩:=qk K F' fZ r2;obtain ⟨cs,k1,k2⟩:=k _ (Nat.le_refl _);exact ⟨cs,k1,by simpa using k2⟩)
        obtain ⟨ι',W',xx,g1,g2,g3,g4⟩:=this;refine ⟨ι',W',xx,?_,g2,?_,g4⟩
        ·rw [uU t xt e _ _ hu hdx Th rfl e2 he,if_neg UR];exact g1
        ·refine g3.sub rfl λn' o' qA=>?_;exact N2 qA
      ·cases ux
     ·cases ux
    ·cases ux
   ·cases hl
  ·cases hl
 ·cases hl
end
section
open Go Go.RowKit
variable {P:Program} {ι:zw} {W:World} {B:wy} {h:AH}
def Py (P:Program) (h:AH) (e:TypeId) (d x:V):Option (V × AH) :=
 match xY P h e x,d with
 | some _,.y8 none _=>some (.int .i64 0,h)
 | some es,.y8 (some (a,s)) len=>match h.m a.n with
  | some (.cells true ty v)=>match rowAt P ty a.p,yF v a.p with
   | some (_,e'),some (.agg l)=>if ty=a.ty/\e=e'/\s+len<=l.length then
    match tX v a.p (.agg (l.take s++es.take (min es.length len)++l.drop (s+min es.length len))) with
    | some v'=>some (.int .i64 (min es.length len:Nat),h.put a.n (.cells true ty v'))
    | none=>none
    else none
   | _,_=>none
  | _=>none
 | _,_=>none
theorem LH (K:Ok P) (F:ye P B ι h W) {t ty e:TypeId} {xt:TypeId} {d x v:V} {h':AH} {y z:Value} (hu:ul P t=some (.slice e)) (hse:(ul P e).isSome=true) (hl:Py P h e d x=some (v,h')) (r1:rel P ι d y) (r2:rel P ι x z) :
 pD P B ι W (Builtin.copy_ #[t,xt] ty #[y,z]) v h':=by
 obtain ⟨de,he⟩:=Option.isSome_iff_exists.1 hse;unfold Py at hl;split at hl
 ·rename_i es len fZ;cases hl;obtain ⟨e1,e2,e3⟩:=qk K F fZ r2;obtain ⟨rfl,rfl⟩:=va r1;obtain ⟨cs,c1,c2⟩:=e3 0 (Nat.zero_le _);refine pD.z03 F (x:=.int .i64 0) ?_ (mk_int _ _);have hm:Nat.min es.length 0=0:=Nat.min_eq_right (Nat.zero_le _);simp only [Builtin.copy_,List.getElem?_toArray,List.getElem?_cons_zero,List.getElem?_cons_succ,Sem.run_bind,zo hu,Result.andThen_ok,xg he,e2,hm,c1,Sem.run_pure];rfl
 ·rename_i es a s len fZ;obtain ⟨e1,e2,e3⟩:=qk K F fZ r2;split at hl
  ·rename_i bty v0 hm;split at hl
   ·rename_i o e' l mC hg;split at hl
    ·rename_i hc;obtain ⟨V2,rfl,hsl⟩:=hc;split at hl
     ·rename_i v' qz;simp only [Option.some.injEq,Prod.mk.injEq] at hl;obtain ⟨rfl,rfl⟩:=hl;obtain ⟨L,hL,sS⟩:=F.obj _ _ hm;obtain ⟨h1,h2,a1,m,c,elem,fr,h3,h4,h4',h5,h6,h7⟩:=Wd K.lay sS mC hg;obtain ⟨q,cap,rfl,V3,hq⟩:=tP r1;generalize hn:min es.length len=n at qz;have wO:n<=es.length:=O_;have hnl:n<=len:=O_;obtain ⟨cs,c1,c2⟩:=e3 n wO;obtain ⟨m1,m2,m3,rfl,k1,k2,k3⟩:=kj s n h5;have s1:=yJ K.lay _ _ m1 (yI s h2) k1;have s2:=yJ K.lay _ _ m2 (yI n (ve s h2)) k2;have dP:=yI n e1;have s4:=yJ K.lay _ _ cs dP c2;have l1:(l.take s).length=s:=by simp;omega
      have l2:((l.drop s).take n).length=n:=by simp;omega
      have l3:(es.take n).length=n:=by simp;omega
      rw [l1] at s1;rw [l2] at s2;rw [l3] at s4;have o3':W.heap[L.wC]?=some (.cells ((a1++m1)++m2++(m3++c)).toArray elem fr):=by rw [h3];simp
      have jK:((a1++m1)++m2++(m3++c)).length=(a1++(m1++m2++m3)++c).length:=S_;have pN:=vS (P:=P) (b:=L.wC) cs (a1++m1) m2 (m3++c) W 0 o3' (by rw [s4,s2]) (by rw [jK];exact h6 rfl) (qp _ _ _ dP c2) (a1++m1).length S_;have J4:(Builtin.copy_ #[t,xt] ty #[.slice (some q) len cap,z]).run P W=.ok (.int .i64 n) (World.wQ W L.wC ((a1++m1)++cs++(m3++c)) elem fr):=by
       have hmin:Nat.min es.length len=n:=hn;simp only [Builtin.copy_,List.getElem?_toArray,List.getElem?_cons_zero,List.getElem?_cons_succ,Sem.run_bind,zo hu,Result.andThen_ok,xg he,e2,hmin,c1,Sem.run_pure];by_cases NB:n=0
       ·subst NB;obtain rfl:cs=[]:=List.length_eq_zero_iff.1 (by simpa using s4);obtain rfl:m2=[]:=List.length_eq_zero_iff.1 (by simpa using s2);rw [ls o3'];rfl
       ·obtain ⟨L',o',e',g1,g2,g3,rfl,g4⟩:=hq O_;rw [hL] at g1;cases g1;rw [<- V2,mC] at g3;simp only [Option.some.injEq,Prod.mk.injEq] at g3;obtain ⟨rfl,rfl⟩:=g3;have Re:(⟨L.wC,L.off+o+s*P.cellsOf e,none⟩:Addr)=⟨L.wC,(a1++m1).length,none⟩:=by rw [List.length_append,h4,s1]
        simp only [Re,pN,Result.andThen_ok];rfl
      have US:=h7 _ (m1++cs++m3) v' (by simp only [uJ,yI s h2,dP,ve _ h2,Bool.and_self]) (by simp;omega) (vY (vY k1 c2) k3) qz;have J2:a1++(m1++cs++m3)++c=(a1++m1)++cs++(m3++c):=S_;rw [J2] at US;exact ⟨ι,_,_,J4,zw.le_refl _,F.store hm hL US,mk_int _ _⟩
     ·cases hl
    ·cases hl
   ·cases hl
  ·cases hl
 ·cases hl
def SG (P:Program) (h:AH) (e:TypeId) (d:V):Option AH :=
 match d with
 | .y8 (some (a,s)) len=>match h.m a.n with
  | some (.cells true ty v)=>match rowAt P ty a.p,yF v a.p,xk P e with
   | some (_,e'),some (.agg l),some z=>if ty=a.ty/\e=e'/\s+len<=l.length/\P.cellsOf e≠0 then
    match tX v a.p (.agg (l.take s++List.replicate len z++l.drop (s+len))) with
    | some v'=>some (h.put a.n (.cells true ty v'))
    | none=>none
    else none
   | _,_,_=>none
  | _=>none
 | _=>none
theorem Ns (K:Ok P) (F:ye P B ι h W) {t ty e:TypeId} {d:V} {h':AH} {y:Value} (hu:ul P t=some (.slice e)) (hl:SG P h e d=some h') (r1:rel P ι d y) :
 pD P B ι W (Builtin.clear_ #[t] ty #[y]) (.yX []) h':=by
 unfold SG at hl;split at hl
 ·rename_i a s len;split at hl
  ·rename_i bty v0 hm;split at hl
   ·rename_i o e' l zv mC hg hz;split at hl
    ·rename_i hc;obtain ⟨V2,rfl,hsl,hc0⟩:=hc;split at hl
     ·rename_i v' qz;simp only [Option.some.injEq] at hl;subst hl;obtain ⟨zz,z1,z2,z3,z4⟩:=v8 K hz W;have hzs:zz.cells.size=P.cellsOf e:=by have:=wB K.lay _ _ _ z4 (z3 ι);simpa using this
      have fX:(Builtin.zeroCells zz.cells len).toList=(List.replicate len zz.cells.toList).flatten:=by
       simp only [Builtin.zeroCells,Array.toList_map,Array.toList_range];exact WU zz.cells O_ _
      obtain ⟨L,hL,sS⟩:=F.obj _ _ hm;obtain ⟨h1,h2,a1,m,c,elem,fr,h3,h4,h4',h5,h6,h7⟩:=Wd K.lay sS mC hg;obtain ⟨q,cap,rfl,V3,hq⟩:=tP r1;have dP:=tZ z4 len;have c2:=nq (z3 ι) len;generalize Ny:(List.replicate len zz.cells.toList).flatten=cs at c2 fX;obtain ⟨m1,m2,m3,rfl,k1,k2,k3⟩:=kj s len h5;have s1:=yJ K.lay _ _ m1 (yI s h2) k1;have s2:=yJ K.lay _ _ m2 (yI len (ve s h2)) k2;have s4:=yJ K.lay _ _ cs dP c2;have l1:(l.take s).length=s:=by simp;omega
      have l2:((l.drop s).take len).length=len:=by simp;omega
      have l3:(List.replicate len zv).length=len:=S_;rw [l1] at s1;rw [l2] at s2;rw [l3] at s4;have o3':W.heap[L.wC]?=some (.cells ((a1++m1)++m2++(m3++c)).toArray elem fr):=by rw [h3];simp
      have jK:((a1++m1)++m2++(m3++c)).length=(a1++(m1++m2++m3)++c).length:=S_;have pN:=vS (P:=P) (b:=L.wC) cs (a1++m1) m2 (m3++c) W 0 o3' (by rw [s4,s2]) (by rw [jK];exact h6 rfl) (qp _ _ _ dP c2) (a1++m1).length S_;have J4:(Builtin.clear_ #[t] ty #[.slice (some q) len cap]).run P W=.ok (.tuple #[]) (World.wQ W L.wC ((a1++m1)++cs++(m3++c)) elem fr):=by
       by_cases NB:len=0
       ·subst NB;obtain rfl:cs=[]:=List.length_eq_zero_iff.1 (by simpa using s4);obtain rfl:m2=[]:=List.length_eq_zero_iff.1 (by simpa using s2);rw [ls o3'];simp only [Builtin.clear_,List.getElem?_toArray,List.getElem?_cons_zero,Sem.run_bind,zo hu,Result.andThen_ok];rfl
       ·obtain ⟨L',o',e',g1,g2,g3,rfl,g4⟩:=hq O_;rw [hL] at g1;cases g1;rw [<- V2,mC] at g3;simp only [Option.some.injEq,Prod.mk.injEq] at g3;obtain ⟨rfl,rfl⟩:=g3;have Re:(⟨L.wC,L.off+o+s*P.cellsOf e,none⟩:Addr)=⟨L.wC,(a1++m1).length,none⟩:=by rw [List.length_append,h4,s1]
        obtain ⟨k,rfl⟩:∃ k,len=k+1:=⟨len-1,O_⟩
        simp only [Builtin.clear_,List.getElem?_toArray,List.getElem?_cons_zero,Sem.run_bind,zo hu,Result.andThen_ok,z1,fX,Re,pN];rfl
      have US:=h7 _ (m1++cs++m3) v' (by simp only [uJ,yI s h2,dP,ve _ h2,Bool.and_self]) (by simp;omega) (vY (vY k1 c2) k3) qz;have J2:a1++(m1++cs++m3)++c=(a1++m1)++cs++(m3++c):=S_;rw [J2] at US;exact ⟨ι,_,_,J4,zw.le_refl _,F.store hm hL US,.inr ⟨rfl,[],by simp [wo],by simp [Value.cells]⟩⟩
     ·cases hl
    ·cases hl
   ·cases hl
  ·cases hl
 ·cases hl
def Kw (P:Program) (t:TypeId) (x:V):Option V :=
 match ul P t with
 | some .string=>match x with
  | .str s=>some (.int .i64 s.length)
  | _=>none
 | some (.slice _)=>match x with
  | .y8 _ n=>some (.int .i64 n)
  | _=>none
 | some (.array n _)=>some (.int .i64 n)
 | some (.pointer a)=>match ul P a with
  | some (.array n _)=>some (.int .i64 n)
  | _=>none
 | _=>none
theorem Gu {t ty:TypeId} {x v:V} {y:Value} (hl:Kw P t x=some v) (r:rel P ι x y) (W:World):∃ z,(Builtin.len_ #[t] ty #[y]).run P W=.ok z W/\rel P ι v z:=by
 unfold Kw at hl;split at hl
 ·rename_i hu;split at hl
  ·cases hl;obtain rfl:=tS r;refine ⟨_,?_,mk_int _ _⟩;simp only [Builtin.len_,List.getElem?_toArray,List.getElem?_cons_zero,Sem.run_bind,zo hu,Result.andThen_ok,Sem.run_pure];rfl
  ·cases hl
 ·rename_i e hu;split at hl
  ·rename_i a n;cases hl;cases a with
   | none =>
    obtain ⟨rfl,rfl⟩:=va r;refine ⟨_,?_,mk_int _ _⟩;simp [Builtin.len_,zo hu,goInt]
   | some p =>
    obtain ⟨p,s⟩:=p;obtain ⟨q,cap,rfl,_⟩:=tP r;refine ⟨_,?_,mk_int _ _⟩;simp [Builtin.len_,zo hu,goInt]
  ·cases hl
 ·rename_i n e hu;cases hl;refine ⟨.int .i64 n,?_,mk_int _ _⟩;simp only [Builtin.len_,List.getElem?_toArray,List.getElem?_cons_zero,Sem.run_bind,zo hu,Result.andThen_ok,Sem.run_pure];rfl
 ·rename_i a hu;split at hl
  ·rename_i n e UN;cases hl;refine ⟨.int .i64 n,?_,mk_int _ _⟩;simp only [Builtin.len_,List.getElem?_toArray,List.getElem?_cons_zero,Sem.run_bind,zo hu,zo UN,Result.andThen_ok,Sem.run_pure];rfl
  ·cases hl
 ·cases hl
def tM:List V->Option (List UInt8)
 | []=>some []
 | .int .u8 n :: vs=>match tM vs with
  | some s=>some (UInt8.ofNat n.toNat :: s)
  | none=>none
 | _=>none
theorem jf:∀ {l:List V} {s:List UInt8} {cs:List Value},tM l=some s->y5 P ι l cs->∃ ns:List Int,cs=ns.map (Value.int .u8)/\s=ns.map λn=>UInt8.ofNat n.toNat
 | [],s,cs,h,r=>by
  simp only [tM,Option.some.injEq] at h;subst h;simp only [y5] at r;subst r;exact ⟨[],rfl,rfl⟩
 | v :: vs,s,cs,h,r=>by
  unfold tM at h;split at h
  ·rename_i e;cases e
  ·rename_i n ws e;simp only [List.cons.injEq] at e;obtain ⟨rfl,rfl⟩:=e;split at h
   ·rename_i s' dO;cases h;simp only [y5,zL] at r;obtain ⟨a,b,rfl,r2,rfl⟩:=r;obtain ⟨ns,rfl,rfl⟩:=jf dO r2;exact ⟨n :: ns,rfl,rfl⟩
   ·cases h
  ·cases h
def ph (P:Program) (h:AH) (src dst:TypeId) (x:V):Option V :=
 match ul P src,ul P dst with
 | some (.slice e),some .string=>match ul P e with
  | some (.int .u8)=>match x with
   | .y8 _ _=>match xY P h e x with
    | some es=>match tM es with
     | some s=>some (.str s)
     | none=>none
    | none=>none
   | _=>none
  | _=>none
 | _,_=>none
theorem Xt (K:Ok P) (F:ye P B ι h W) {src dst:TypeId} {x v:V} {y:Value} (hl:ph P h src dst x=some v) (r:rel P ι x y) :
 ∃ z,(convert src dst y).run P W=.ok z W/\rel P ι v z:=by
 unfold ph at hl;split at hl
 ·rename_i e hu hd;split at hl
  ·rename_i he;split at hl
   ·rename_i a len;split at hl
    ·rename_i es fZ;split at hl
     ·rename_i s hs;cases hl;obtain ⟨e1,e2,e3⟩:=qk K F fZ r;obtain ⟨cs,c1,c2⟩:=e3 es.length (Nat.le_refl _);rw [List.take_length] at c2;have hsz:P.cellsOf e=1:=K.lay.leaf e _ he S_ S_;rw [hsz] at c1;obtain ⟨ns,rfl,rfl⟩:=jf hs c2;cases a with
      | none =>
       obtain ⟨rfl,rfl⟩:=va r;simp only [xY,Option.some.injEq] at fZ;subst fZ;have hns:ns=[]:=by
        simp only [tM,Option.some.injEq] at hs;cases ns <;> simp_all
       subst hns;refine ⟨_,run_convert_bytes_nil W src e (sx hu) (sx he) 0 0 dst (sx hd),?_⟩;exact mk_str []
      | some p =>
       obtain ⟨p,s⟩:=p;obtain ⟨q,cap,rfl,V3,hq⟩:=tP r;have hlen:es.length=len:=by
        simp only [Builtin.lenOf,Sem.run_pure,Result.ok.injEq] at e2;exact e2.1.symm
       simp only [Builtin.firstCells,hlen,Nat.mul_one] at c1;refine ⟨.string ⟨(ns.map λn=>UInt8.ofNat n.toNat).toArray⟩,?_,mk_str _⟩;rw [run_convert_bytes_string W src dst e _ len cap (sx hu) (sx he) (sx hd),run_bytesToString W _ len cap ns c1,foldl_push_bytes];simp [ByteArray.empty,ByteArray.emptyWithCapacity];rfl
     ·cases hl
    ·cases hl
   ·cases hl
  ·cases hl
 ·cases hl
end
section
open Go Go.RowKit
variable {P:Program} {ι:zw} {W:World} {B:wy} {h:AH}
def mz (op:BinOp) (k:IntKind) (a b:Int):Int :=
 match op with
 | .and=>k.wrap ((BitVec.ofInt k.bits a &&& BitVec.ofInt k.bits b).toNat:Nat)
 | .or=>k.wrap ((BitVec.ofInt k.bits a ||| BitVec.ofInt k.bits b).toNat:Nat)
 | .xor=>k.wrap ((BitVec.ofInt k.bits a ^^^ BitVec.ofInt k.bits b).toNat:Nat)
 | _=>k.wrap ((BitVec.ofInt k.bits a &&& ~~~ BitVec.ofInt k.bits b).toNat:Nat)
def Vk (k:IntKind) (a b:Int):Int:=k.wrap (a*2 ^ min b.toNat k.bits)
def ZM (k:IntKind) (a b:Int):Int:=a/2 ^ min b.toNat k.bits
def tF (op:BinOp) (k:IntKind) (a b:Int):Option V :=
 match op with
 | .add=>some (.int k (k.wrap (a+b)))
 | .sub=>some (.int k (k.wrap (a-b)))
 | .mul=>some (.int k (k.wrap (a*b)))
 | .quo=>if b=0 then none else some (.int k (k.wrap (a.tdiv b)))
 | .rem=>if b=0 then none else some (.int k (a.tmod b))
 | .and=>some (.int k (mz .and k a b))
 | .or=>some (.int k (mz .or k a b))
 | .xor=>some (.int k (mz .xor k a b))
 | .andNot=>some (.int k (mz .andNot k a b))
 | .eql=>some (.bool (a == b))
 | .neq=>some (.bool (a != b))
 | .lss=>some (.bool (decide (a<b)))
 | .leq=>some (.bool (decide (a<=b)))
 | .gtr=>some (.bool (decide (a>b)))
 | .geq=>some (.bool (decide (a>=b)))
 | .shl=>none
 | .shr=>none
def WH (P:Program) (t:TypeId) (x y:V):Option Bool :=
 if yz P 20 t then if zf P x t&&zf P y t then wW x y else none
 else match ul P t with
  | some (.pointer _)=>match x,y with
   | .ptr none,.ptr b=>some b.isNone
   | .ptr (some _),.ptr none=>some false
   | _,_=>none
  | some (.slice _)=>match x,y with
   | .y8 none _,.y8 b _=>some b.isNone
   | .y8 (some _) _,.y8 none _=>some false
   | _,_=>none
  | some (.map _ _)=>match x,y with
   | .map none,.map b=>some b.isNone
   | .map (some _),.map none=>some false
   | _,_=>none
  | some (.interface _)=>match x,y with
   | .wb,.wb=>some true
   | .wb,.mB _ _=>some false
   | .mB _ _,.wb=>some false
   | _,_=>none
  | some (.func _ _ _)=>match x,y with
   | .uf,.uf=>some true
   | .uf,.fn _ _ _=>some false
   | .fn _ _ _,.uf=>some false
   | _,_=>none
  | _=>none
theorem gH {f:Fn} {a b:List V} {x:Value} (hx:rel P ι (.fn f a b) x):∃ a' b',x=.func f a'.toArray b'.toArray/\wo P ι a a'/\wo P ι b b':=by
 obtain ⟨h,_⟩:=yU S_ S_ hx;simp only [zL,List.cons.injEq,and_true] at h;obtain ⟨a',b',h1,h2,h3⟩:=h;exact ⟨a',b',h3,h1,h2⟩
theorem nV {t:TypeId} {v:V} {x:Value} (hx:rel P ι (.mB t v) x):∃ y,x=.iface t y/\rel P ι v y/\v≠.xF:=by
 obtain ⟨h,_⟩:=yU S_ S_ hx;simp only [zL,List.cons.injEq,and_true] at h;obtain ⟨y,h1,h2,h3⟩:=h;exact ⟨y,h3,.inr ⟨h1,h2⟩,by rintro rfl;simp [zL] at h2⟩
theorem cA {v:V} {x y:Value} (hv:∀ l,v≠.agg l) (hu:v≠.xF) (hx:rel P ι v x) (hc:zL P ι v [x]->x=y):x=y:=hc (yU hv hu hx).1
theorem nJ {x:Value} (hx:rel P ι (.ptr none) x):x=.pointer none:=cA S_ S_ hx λh=>by simpa [zL] using h
theorem sF {x:Value} (hx:rel P ι (.map none) x):x=.map none:=cA S_ S_ hx λh=>by simpa [zL] using h
theorem rH {x:Value} (hx:rel P ι .wb x):x=.nilIface:=cA S_ S_ hx λh=>by simpa [zL] using h
theorem oV {x:Value} (hx:rel P ι .uf x):x=.nilFunc:=cA S_ S_ hx λh=>by simpa [zL] using h
theorem dY {n:Nat} {x:Value} (hx:rel P ι (.map (some n)) x):∃ L,ι n=some L/\x=.map (some L.wC):=by
 obtain ⟨h,_⟩:=yU S_ S_ hx;simp only [zL,List.cons.injEq,and_true] at h;exact h
theorem OD {t:TypeId} {x y:V} {a b:Value} {r:Bool} (hp:yz P 20 t=false) (he:WH P t x y=some r) (hx:rel P ι x a) (hy:rel P ι y b) (d:Nat) (W:World):(Op.equalIn (d+1) t a b).run P W=.ok r W:=by
 unfold WH at he;rw [if_neg (by simp [hp])] at he;split at he
 ·rename_i e hu;split at he <;> first | (cases he;done) | skip
  ·rename_i b';obtain rfl:=nJ hx;cases b' with
   | none=>obtain rfl:=nJ hy;cases he;simp only [Op.equalIn,Sem.run_bind,zo hu,Result.andThen_ok];rfl
   | some p=>obtain ⟨q,rfl,_⟩:=sw hy;cases he;simp only [Op.equalIn,Sem.run_bind,zo hu,Result.andThen_ok];rfl
  ·obtain ⟨q,rfl,_⟩:=sw hx;obtain rfl:=nJ hy;cases he;simp only [Op.equalIn,Sem.run_bind,zo hu,Result.andThen_ok];rfl
 ·rename_i e hu;split at he <;> first | (cases he;done) | skip
  ·rename_i n b' m;obtain ⟨rfl,rfl⟩:=va hx;cases b' with
   | none=>obtain ⟨rfl,rfl⟩:=va hy;cases he;simp only [Op.equalIn,Sem.run_bind,zo hu,Result.andThen_ok];rfl
   | some p=>obtain ⟨p,s⟩:=p;obtain ⟨q,c,rfl,_⟩:=tP hy;cases he;simp only [Op.equalIn,Sem.run_bind,zo hu,Result.andThen_ok];rfl
  ·rename_i p n m;obtain ⟨p,s⟩:=p;obtain ⟨q,c,rfl,_⟩:=tP hx;obtain ⟨rfl,rfl⟩:=va hy;cases he;simp only [Op.equalIn,Sem.run_bind,zo hu,Result.andThen_ok];rfl
 ·rename_i k e hu;split at he <;> first | (cases he;done) | skip
  ·rename_i b';obtain rfl:=sF hx;cases b' with
   | none=>obtain rfl:=sF hy;cases he;simp only [Op.equalIn,Sem.run_bind,zo hu,Result.andThen_ok];rfl
   | some p=>obtain ⟨q,_,rfl⟩:=dY hy;cases he;simp only [Op.equalIn,Sem.run_bind,zo hu,Result.andThen_ok];rfl
  ·obtain ⟨q,_,rfl⟩:=dY hx;obtain rfl:=sF hy;cases he;simp only [Op.equalIn,Sem.run_bind,zo hu,Result.andThen_ok];rfl
 ·rename_i ms hu;split at he <;> first | (cases he;done) | skip
  ·obtain rfl:=rH hx;obtain rfl:=rH hy;cases he;simp only [Op.equalIn,Sem.run_bind,zo hu,Result.andThen_ok];rfl
  ·obtain rfl:=rH hx;obtain ⟨q,rfl,_⟩:=nV hy;cases he;simp only [Op.equalIn,Sem.run_bind,zo hu,Result.andThen_ok];rfl
  ·obtain ⟨q,rfl,_⟩:=nV hx;obtain rfl:=rH hy;cases he;simp only [Op.equalIn,Sem.run_bind,zo hu,Result.andThen_ok];rfl
 ·rename_i ps rs v hu;split at he <;> first | (cases he;done) | skip
  ·obtain rfl:=oV hx;obtain rfl:=oV hy;cases he;simp only [Op.equalIn,Sem.run_bind,zo hu,Result.andThen_ok];rfl
  ·obtain rfl:=oV hx;obtain ⟨_,_,rfl,_⟩:=gH hy;cases he;simp only [Op.equalIn,Sem.run_bind,zo hu,Result.andThen_ok];rfl
  ·obtain ⟨_,_,rfl,_⟩:=gH hx;obtain rfl:=oV hy;cases he;simp only [Op.equalIn,Sem.run_bind,zo hu,Result.andThen_ok];rfl
 ·cases he
theorem z3j (H:uF P) {t:TypeId} {x y:V} {a b:Value} {r:Bool} (he:WH P t x y=some r) (hx:rel P ι x a) (hy:rel P ι y b) (W:World):(Op.equal t a b).run P W=.ok r W:=by
 cases hp:yz P 20 t with
 | false=>exact OD hp he hx hy 9999 W
 | true =>
  unfold WH at he;rw [if_pos hp] at he;split at he
  ·rename_i hs;simp only [Bool.and_eq_true] at hs;exact qP H x y t 20 Op.maxDepth a b r W hp D_ hs.1 hs.2 hx hy he
  ·cases he
theorem jW {x:V} (h:rel P ι x .nilIface):x=.wb\/x=.xF:=by
 rcases h with h | ⟨h1,h2⟩
 ·exact .inr h
 ·cases x with
  | ptr a=>cases a <;> simp [zL,Value.cells] at h2
  | y8 a n=>cases a with
   | none=>simp [zL,Value.cells] at h2
   | some p=>obtain ⟨p,s⟩:=p;simp [zL,Value.cells] at h2
  | map a=>cases a <;> simp [zL,Value.cells] at h2
  | wb=>exact .inl rfl
  | xF=>exact .inr rfl
  | agg l=>simp [mj] at h1
  | _=>simp [zL,Value.cells] at h2
theorem RJ {x:V} {cs:Array Value} (h:rel P ι x (.agg cs)):(∃ l,x=.agg l)\/x=.xF:=by
 rcases h with h | ⟨h1,h2⟩
 ·exact .inr h
 ·cases x <;> first | exact .inl ⟨_,rfl⟩ | exact .inr rfl | (simp [mj] at h1)
def jj (op:BinOp) (a b:List UInt8):Option V :=
 match op with
 | .add=>if a.length+b.length<=9223372036854775807 then some (.str (a++b)) else none
 | .eql=>some (.bool (a == b))
 | .neq=>some (.bool (!(a == b)))
 | .lss=>some (.bool (Op.bytesLess a b))
 | .leq=>some (.bool (Op.bytesLess a b||(a == b)))
 | .gtr=>some (.bool (!(Op.bytesLess a b||(a == b))))
 | .geq=>some (.bool (!Op.bytesLess a b))
 | _=>none
def kT (P:Program) (t:TypeId) (x y:V) (const:Bool):Bool :=
 match x,y with
 | .wb,.wb=>const
 | .agg _,.agg _=>!(P.eqGuardType P.depth t)
 | .xF,_=>false
 | _,.xF=>false
 | _,_=>true
def zi (P:Program) (op:BinOp) (t:TypeId) (x y:V) (const:Bool):Option V :=
 match x,y with
 | .int k a,.int k' b=>match op with
  | .shl=>if b<0 then none else some (.int k (Vk k a b))
  | .shr=>if b<0 then none else some (.int k (ZM k a b))
  | op=>if k=k' then tF op k a b else none
 | .str a,.str b=>jj op a b
 | x,y=>match op with
  | .eql=>if kT P t x y const then (WH P t x y).map .bool else none
  | .neq=>if kT P t x y const then (WH P t x y).map λb=>.bool (!b) else none
  | _=>none
theorem Nx {op:BinOp} {a b:List UInt8} {v:V} (hl:jj op a b=some v) (W:World):∃ z,(Op.stringOp op ⟨a.toArray⟩ ⟨b.toArray⟩).run P W=.ok z W/\rel P ι v z:=by
 have ta:(⟨a.toArray⟩:ByteArray).toList=a:=by rw [ByteArray.toList_eq]
 have tb:(⟨b.toArray⟩:ByteArray).toList=b:=by rw [ByteArray.toList_eq]
 unfold jj at hl;unfold Op.stringOp;simp only [ta,tb];split at hl <;> first | (cases hl;done) | skip
 ·split at hl
  ·rename_i hlen;cases hl;refine ⟨.string ⟨(a++b).toArray⟩,?_,mk_str _⟩;have h1:¬ ((((⟨a.toArray⟩:ByteArray).size+(⟨b.toArray⟩:ByteArray).size:Nat):Int)>IntKind.i64.max):=by
    simp only [ByteArray.size,List.size_toArray,IntKind.max,IntKind.signed,IntKind.bits];simp;omega
   simp only [h1,if_false,Sem.run_pure];congr 2
  ·cases hl
 all_goals (cases hl;exact ⟨_,rfl,tm _⟩)
theorem Uc {op:BinOp} {t:TypeId} {xo yo:Operand} {x y:V} {a b:Value} (hc:kT P t x y (Region.isConst xo||Region.isConst yo)=true) (hx:rel P ι x a) (hy:rel P ι y b) (W:World) :
 (eqGuard op t xo yo a b).run P W=.ok () W:=by
 have BF:x≠.xF/\y≠.xF:=by
  constructor
  ·rintro rfl;simp [kT] at hc
  ·rintro rfl;cases x <;> simp [kT] at hc
 have nn:∀ {a b:Value},a=.nilIface->b=.nilIface->rel P ι x a->rel P ι y b->(Region.isConst xo||Region.isConst yo)=true:=by
  rintro _ _ rfl rfl hx hy;rcases jW hx with rfl | h
  ·rcases jW hy with rfl | h
   ·simpa only [kT] using hc
   ·exact absurd h BF.2
  ·exact absurd h BF.1
 have aa:∀ {a b:Value} {cs ds:Array Value},a=.agg cs->b=.agg ds->rel P ι x a->rel P ι y b->P.eqGuardType P.depth t=false:=by
  rintro _ _ cs ds rfl rfl hx hy;rcases RJ hx with ⟨l,rfl⟩ | h
  ·rcases RJ hy with ⟨m,rfl⟩ | h
   ·simpa only [kT,Bool.not_eq_true'] using hc
   ·exact absurd h BF.2
  ·exact absurd h BF.1
 have main:∀ o:BinOp,(o=.eql\/o=.neq)->(eqGuard o t xo yo a b).run P W=.ok () W:=by
  intro o ho;have hm:(match o with | .eql=>true | .neq=>true | _=>false)=true:=by rcases ho with rfl | rfl <;> rfl
  rcases ho with rfl | rfl
  all_goals
   simp only [eqGuard,Bool.not_true,Bool.false_eq_true,if_false];cases a <;> cases b <;> first
    | rfl
    | (
     have:=nn rfl rfl hx hy;cases xo <;> cases yo <;> first | (simp [Region.isConst] at this;done) | rfl)
    | (
     have:=aa rfl rfl hx hy;simp [this])
 cases op <;> first | exact main _ (.inl rfl) | exact main _ (.inr rfl) | rfl
end
end Go.Ab
end
