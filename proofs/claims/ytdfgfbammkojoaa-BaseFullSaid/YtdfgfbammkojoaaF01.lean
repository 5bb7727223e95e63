import Derived.Test.YtdfgfbammkojoaaF00
import Derived.Laws.BytesArg
set_option linter.unusedVariables false
set_option linter.unusedSimpArgs false
namespace Go.Ab
open Go Go.RowKit
variable {P:Program} {ι:Names} {W:World} {B:Base} {h:AH}
theorem row_at (H:LayOK P) {own:Bool} {ty:BTy} {v:V} {l:List V} {L:Loc} {p:List Nat} {o:Nat} {e:TypeId} (ho:objR P ι W L (.cells own ty v)) (hl:rowAt P ty p=some (o,e)) (hg:getV v p=some (.agg l)) :
   L.ty=ty∧shapesAll P l e=true∧∃ a m c elem fr,W.heap[L.blk]?=some (.cells (a++m++c).toArray elem fr)∧a.length=L.off + o∧(a++m++c).length=L.size∧relCs P ι l m∧(own=true→unfrozen fr (a++m++c).length) ∧
     (∀ (l':List V) (m':List Value) (v':V),shapesAll P l' e=true→l'.length=l.length→relCs P ι l' m'→setV v p (.agg l')=some v'→objR P ι (World.putRow W L.blk (a++m'++c) elem fr) L (.cells own ty v')):=by
 have arr:∀ u n,layB P ty p=some (o,u)→ul P u=some (.array n e)→L.ty=ty∧shapesAll P l e=true∧∃ a m c elem fr,W.heap[L.blk]?=some (.cells (a++m++c).toArray elem fr)∧a.length=L.off + o∧(a++m++c).length=L.size∧relCs P ι l m∧(own=true→unfrozen fr (a++m++c).length) ∧
     (∀ (l':List V) (m':List Value) (v':V),shapesAll P l' e=true→l'.length=l.length→relCs P ι l' m'→setV v p (.agg l')=some v'→objR P ι (World.putRow W L.blk (a++m'++c) elem fr) L (.cells own ty v')):=by
   intro u n hlay hu
   obtain ⟨h1,h2,a,m,c,elem,fr,h3,h4,h5,h6,h7⟩:=obj_at H ho hlay hg
   have h2':=h2
   simp only [hasShape,hu,Bool.and_eq_true,beq_iff_eq] at h2'
   have hsz:(a++m++c).length=L.size:=by
     obtain ⟨_,_,a1,b1,c1,e1,f1,k3,_,k5,_⟩:=ho
     rw [h3] at k3
     simp only [Option.some.injEq,Obj.cells.injEq] at k3
     have:=congrArg Array.size k3.1
     simp at this
     simp at k5 ⊢
     omega
   refine ⟨h1,h2'.2,a,m,c,elem,fr,h3,h4,hsz,by simpa [relC] using h5,h6,?_⟩
   intro l' m' v' g1 g2 g3 g4
   exact h7 (.agg l') m' v' (by simp only [hasShape,hu,Bool.and_eq_true,beq_iff_eq];exact ⟨by rw [g2,h2'.1],g1⟩) (by simpa [relC] using g3) g4
 unfold rowAt at hl
 split at hl
 · simp only [Option.some.injEq,Prod.mk.injEq] at hl
   obtain ⟨rfl,rfl⟩:=hl
   simp only [getV,Option.some.injEq] at hg
   subst hg
   obtain ⟨h1,h2,a,b,c,elem,fr,h3,h4,h5,h6,h7⟩:=ho
   simp only [shapeB] at h2
   simp only [relC] at h6
   refine ⟨h1,h2,a,b,c,elem,fr,h3,by simp [h4],h5,h6,fun e=>by rw [h5];exact (h7 e).1,?_⟩
   intro l' m' v' g1 g2 g3 g4
   simp only [setV,Option.some.injEq] at g4
   subst g4
   have s1:=sizesAll_ok H l _ b h2 h6
   have s2:=sizesAll_ok H l' _ m' g1 g3
   refine ⟨h1,by simpa [shapeB] using g1,a,m',c,elem,fr,putRow_at (getBlk_lt h3),h4,?_,by simpa [relC] using g3,h7⟩
   rw [← h5];simp [s1,s2,g2]
 · split at hl
   · rename_i o' t hlay
     split at hl
     · rename_i n e' hu
       simp only [Option.some.injEq,Prod.mk.injEq] at hl
       obtain ⟨rfl,rfl⟩:=hl
       exact arr t n hlay hu
     · cases hl
   · cases hl
def bytesV (s:List UInt8):List V:=s.map fun b=>.int .u8 b.toNat
def aElems (P:Program) (h:AH) (e:TypeId) (x:V):Option (List V) :=
 match x with
 | .slc none _=>some []
 | .slc (some (a,s)) len=>match h.m a.n with
   | some (.cells _ ty v)=>if ty=a.ty then match rowAt P ty a.p,getV v a.p with
     | some (_,e'),some (.agg l)=>if e=e'∧s + len≤l.length then some ((l.drop s).take len) else none
     | _,_=>none
     else none
   | _=>none
 | .str s=>match ul P e with
   | some (.int .u8)=>some (bytesV s)
   | _=>none
 | _=>none
theorem relCs_mid {l:List V} {m:List Value} (s n:Nat) (hr:relCs P ι l m):∃ m1 m2 m3,m=m1++m2++m3∧relCs P ι (l.take s) m1∧relCs P ι ((l.drop s).take n) m2∧relCs P ι (l.drop (s + n)) m3:=by
 have h1:l=l.take s++((l.drop s).take n++l.drop (s + n)):=by
   rw [← List.drop_drop,List.take_append_drop,List.take_append_drop]
 rw [h1] at hr
 obtain ⟨a,b,k1,k2,rfl⟩:=relCs_split hr
 obtain ⟨c,d,k3,k4,rfl⟩:=relCs_split k2
 exact ⟨a,c,d,by simp,k1,k3,k4⟩
theorem relCs_bytes:∀ (s:List UInt8),relCs P ι (bytesV s) (s.map fun b=>Value.int .u8 b.toNat)
 | []=>by simp [bytesV,relCs]
 | b :: s=>by
   have:=relCs_bytes s
   simp only [bytesV,List.map_cons] at this ⊢
   exact relCs_cons (a:=[.int .u8 b.toNat]) (by simp [relC]) this
theorem shapesAll_bytes {e:TypeId} (he:ul P e=some (.int .u8)):∀ (s:List UInt8),shapesAll P (bytesV s) e=true
 | []=>by simp [bytesV,shapesAll]
 | b :: s=>by
   have:=shapesAll_bytes he s
   simp only [bytesV,List.map_cons,shapesAll] at this ⊢
   simp [hasShape,leafT,he,this]
theorem elems_ok (K:Ok P) (F:Fits P B ι h W) {e:TypeId} {x:V} {es:List V} {y:Value} (he:aElems P h e x=some es) (hx:rel P ι x y) :
   shapesAll P es e=true∧(Builtin.lenOf y).run P W=.ok es.length W∧∀ n,n≤es.length→∃ cs,(Builtin.firstCells (P.cellsOf e) n y).run P W=.ok cs.toArray W∧relCs P ι (es.take n) cs:=by
 unfold aElems at he
 split at he
 · cases he
   obtain ⟨_,rfl⟩:=rel_slc_nil hx
   refine ⟨by simp [shapesAll],rfl,fun n hn=>⟨[],rfl,by simp [relCs]⟩⟩
 · rename_i a s len
   split at he
   · rename_i own ty v hm
     split at he
     · rename_i hty
       split at he
       · rename_i o e' l hrow hg
         split at he
         · rename_i hc
           obtain ⟨rfl,hc⟩:=hc
           cases he
           obtain ⟨L,hL,hobj⟩:=F.obj _ _ hm
           obtain ⟨h1,h2,a1,m,c,elem,fr,h3,h4,h4',h5,h6,h7⟩:=row_at K.lay hobj hrow hg
           obtain ⟨z,cap,rfl,hcap,hz⟩:=rel_slc hx
           have hlen:((l.drop s).take len).length=len:=by simp;omega
           refine ⟨shapesAll_take len (shapesAll_drop s h2),by simp [Builtin.lenOf,hlen],fun n hn=>?_⟩
           rw [hlen] at hn
           obtain ⟨m1,m2,m3,rfl,k1,k2,k3⟩:=relCs_mid s n h5
           rw [List.take_take,Nat.min_eq_left hn]
           refine ⟨m2,?_,k2⟩
           have s1:=sizesAll_ok K.lay _ _ m1 (shapesAll_take s h2) k1
           have s2:=sizesAll_ok K.lay _ _ m2 (shapesAll_take n (shapesAll_drop s h2)) k2
           have hsl:(l.take s).length=s:=by simp;omega
           have hnl:((l.drop s).take n).length=n:=by simp;omega
           rw [hsl] at s1
           rw [hnl] at s2
           simp only [Builtin.firstCells]
           rw [← s2]
           by_cases hn0:n=0
           · subst hn0
             obtain rfl:m2=[]:=List.length_eq_zero_iff.1 (by simpa using s2)
             rfl
           · obtain ⟨L',o',e',g1,g2,g3,rfl,g4⟩:=hz (by omega)
             rw [hL] at g1;cases g1
             rw [← hty,hrow] at g3
             simp only [Option.some.injEq,Prod.mk.injEq] at g3
             obtain ⟨rfl,rfl⟩:=g3
             have:(⟨L.blk,L.off + o + s * P.cellsOf e,none⟩:Addr)=⟨L.blk,(a1++m1).length,none⟩:=by rw [List.length_append,h4,s1]
             rw [this]
             exact run_loadCells_in (a:=a1++m1) (c:=m3++c) (elem:=elem) (fr:=fr) (by rw [h3];simp)
         · cases he
       · cases he
     · cases he
   · cases he
 · rename_i s
   obtain rfl:=rel_str hx
   split at he
   · rename_i hu
     cases he
     refine ⟨shapesAll_bytes hu s,by simp [Builtin.lenOf,bytesV,ByteArray.size],fun n hn=>?_⟩
     have e1:(bytesV s).take n=bytesV (s.take n):=by simp [bytesV,List.map_take]
     rw [e1]
     refine ⟨_,?_,relCs_bytes (s.take n)⟩
     have hn':n≤s.length:=by simpa [bytesV] using hn
     simp only [Builtin.firstCells,Sem.run_pure]
     congr 1
     apply Array.ext'
     simp [ByteArray.extract,ByteArray.copySlice,List.map_take]
   · cases he
 · cases he
theorem rowAt_of {ty:BTy} {p:List Nat} {o n:Nat} {u e:TypeId} (h:layB P ty p=some (o,u)) (hu:ul P u=some (.array n e)):rowAt P ty p=some (o,e):=by
 cases ty with
 | row f =>
   cases p with
   | nil=>simp [layB] at h
   | cons i p=>simp [rowAt,h,hu]
 | one f=>simp [rowAt,h,hu]
def bnd (x:Option V) (d:Nat):Option Nat :=
 match x with
 | none=>some d
 | some (.int _ i)=>if 0≤i then some i.toNat else none
 | _=>none
def relO (P:Program) (ι:Names):Option V→Option Value→Prop
 | none,none=>True
 | some v,some x=>rel P ι v x
 | _,_=>False
theorem run_bnd {x:Option V} {y:Option Value} {d n:Nat} (hb:bnd x d=some n) (hx:relO P ι x y):(x=none∧y=none∧n=d)∨(∃ k i,x=some (.int k i)∧y=some (.int k i)∧0≤i∧n=i.toNat):=by
 unfold bnd at hb
 split at hb
 · cases hb
   cases y with
   | none=>exact .inl ⟨rfl,rfl,rfl⟩
   | some y=>simp [relO] at hx
 · split at hb
   · cases hb
     cases y with
     | none=>simp [relO] at hx
     | some y =>
       simp only [relO] at hx
       obtain rfl:=rel_int hx
       exact .inr ⟨_,_,rfl,rfl,by assumption,rfl⟩
   · cases hb
 · cases hb
theorem run_sliceBounds {lo hi:Option V} {lo' hi':Option Value} {isSlice:Bool} {len cap l k:Nat} (h1:bnd lo 0=some l) (h2:bnd hi len=some k) (r1:relO P ι lo lo') (r2:relO P ι hi hi') (hlk:l≤k) (hk:k≤len) (hc:len≤cap) (W:World) :
   (Instr.sliceBounds isSlice len cap lo' hi' none).run P W=.ok (l,k,cap) W:=by
 rcases run_bnd h1 r1 with ⟨rfl,rfl,rfl⟩ | ⟨kk,i,rfl,rfl,hi0,rfl⟩ <;> rcases run_bnd h2 r2 with ⟨rfl,rfl,rfl⟩ | ⟨kk',j,rfl,rfl,hj0,rfl⟩
 · simp [Instr.sliceBounds]
 · have:0≤j∧j≤(cap:Int):=⟨hj0,by omega⟩
   simp [Instr.sliceBounds,Instr.sliceBound,asIntOf,this]
 · have:0≤i∧i≤(k:Int):=⟨hi0,by omega⟩
   simp [Instr.sliceBounds,Instr.sliceBound,asIntOf,this]
 · have h3:0≤j∧j≤(cap:Int):=⟨hj0,by omega⟩
   have h4:0≤i∧i≤(j.toNat:Int):=⟨hi0,by omega⟩
   simp only [Instr.sliceBounds,Instr.sliceBound,asIntOf,Sem.run_bind,Sem.run_pure,Result.andThen_ok,h3,and_self,if_true,h4,Option.isSome_none,Bool.false_eq_true,if_false]
def isArr (P:Program) (u:TypeId) (n:Nat) (e:TypeId):Bool :=
 match ul P u with
 | some (.array n' e')=>decide (n'=n) && decide (e'=e)
 | _=>false
def aSlice (P:Program) (h:AH) (t:TypeId) (x:V) (lo hi:Option V):Option V :=
 match x with
 | .str s=>match ul P t,bnd lo 0,bnd hi s.length with
   | some .string,some l,some k=>if l≤k∧k≤s.length then some (.str ((s.drop l).take (k - l))) else none
   | _,_,_=>none
 | .slc none _=>match ul P t,bnd lo 0,bnd hi 0 with
   | some (.slice e),some l,some k=>if l=0∧k=0∧(ul P e).isSome then some (.slc none 0) else none
   | _,_,_=>none
 | .slc (some (a,s)) len=>match ul P t,bnd lo 0,bnd hi len,rowAt P a.ty a.p with
   | some (.slice e),some l,some k,some (_,e')=>if e=e'∧l≤k∧k≤len∧(ul P e).isSome then some (.slc (some (a,s + l)) (k - l)) else none
   | _,_,_,_=>none
 | .ptr (some a)=>match h.m a.n with
   | some (.cells _ ty v)=>match ul P t with
     | some (.array n e)=>match layB P ty a.p,getV v a.p,bnd lo 0,bnd hi n with
       | some (_,u),some (.agg _),some l,some k=>if ty=a.ty∧l≤k∧k≤n∧(ul P e).isSome∧isArr P u n e then some (.slc (some (a,l)) (k - l)) else none
       | _,_,_,_=>none
     | _=>none
   | _=>none
 | _=>none
theorem aSlice_ok (K:Ok P) (F:Fits P B ι h W) {t:TypeId} {x v:V} {lo hi:Option V} {y:Value} {lo' hi':Option Value} (hl:aSlice P h t x lo hi=some v) (hx:rel P ι x y) (r1:relO P ι lo lo') (r2:relO P ι hi hi') :
   ∃ z,(Instr.sliceAt t y lo' hi' none).run P W=.ok z W∧rel P ι v z:=by
 unfold aSlice at hl
 split at hl
 · rename_i s
   obtain rfl:=rel_str hx
   split at hl
   · rename_i l k hu hb1 hb2
     split at hl
     · rename_i hc
       cases hl
       have hsz:(⟨s.toArray⟩:ByteArray).size=s.length:=by simp [ByteArray.size]
       refine ⟨.string ((⟨s.toArray⟩:ByteArray).extract l k),?_,?_⟩
       · simp only [Instr.sliceAt,Instr.slice,Sem.run_bind,run_underlying' hu,Result.andThen_ok,Option.isSome_none,Bool.false_eq_true,if_false,Sem.run_pure,hsz,
           run_sliceBounds (isSlice:=false) hb1 hb2 r1 r2 hc.1 hc.2 (Nat.le_refl _)]
       · have:(⟨s.toArray⟩:ByteArray).extract l k=⟨((s.drop l).take (k - l)).toArray⟩:=by
           cases hq:(⟨s.toArray⟩:ByteArray).extract l k with
           | mk arr =>
             have h1:=congrArg (fun b:ByteArray=>b.data.toList) hq
             simp only [ByteArray.data_extract,Array.toList_extract,List.extract_eq_take_drop] at h1
             congr 1
             apply Array.ext'
             rw [← h1]
         rw [this]
         exact mk_str _
     · cases hl
   · cases hl
 · obtain ⟨rfl,rfl⟩:=rel_slc_nil hx
   split at hl
   · rename_i e l k hu hb1 hb2
     split at hl
     · rename_i hc
       cases hl
       obtain ⟨rfl,rfl,hs⟩:=hc
       obtain ⟨d,hd⟩:=Option.isSome_iff_exists.1 hs
       refine ⟨.slice none 0 0,?_,.inr ⟨rfl,by simp [relC,Value.cells]⟩⟩
       simp only [Instr.sliceAt,Instr.slice,Sem.run_bind,run_underlying' hu,Result.andThen_ok,Sem.run_pure,run_sizeOf' hd,
         run_sliceBounds (isSlice:=true) hb1 hb2 r1 r2 (Nat.le_refl _) (Nat.le_refl _) (Nat.le_refl _),if_true,Nat.sub_self]
     · cases hl
   · cases hl
 · rename_i a s len
   obtain ⟨z,cap,rfl,hcap,hz⟩:=rel_slc hx
   split at hl
   · rename_i e l k o e' hu hb1 hb2 hrow
     split at hl
     · rename_i hc
       cases hl
       obtain ⟨rfl,hc1,hc2,hs⟩:=hc
       obtain ⟨d,hd⟩:=Option.isSome_iff_exists.1 hs
       have hrun:(Instr.sliceAt t (.slice (some z) len cap) lo' hi' none).run P W=.ok (.slice (some (if cap=l then z else z.add (l * P.cellsOf e))) (k - l) (cap - l)) W:=by
         simp only [Instr.sliceAt,Instr.slice,Sem.run_bind,run_underlying' hu,Result.andThen_ok,Sem.run_pure,run_sizeOf' hd,
           run_sliceBounds (isSlice:=true) hb1 hb2 r1 r2 hc1 hc2 hcap]
         split <;> simp
       refine ⟨_,hrun,mk_slc (by omega) (rel_slc_name hx) fun hpos=>?_⟩
       have hne:cap≠l:=by omega
       rw [if_neg hne]
       obtain ⟨L,o',e',g1,g2,g3,rfl,g4⟩:=hz (by omega)
       refine ⟨L,o',e',g1,g2,g3,?_,?_⟩
       · rw [hrow] at g3
         simp only [Option.some.injEq,Prod.mk.injEq] at g3
         obtain ⟨_,rfl⟩:=g3
         rw [addr_add,Nat.add_mul]
         congr 1;omega
       · have:s + l + (cap - l)=s + cap:=by omega
         rw [this];exact g4
     · cases hl
   · cases hl
 · rename_i a
   obtain ⟨z,rfl,hz⟩:=rel_ptr hx
   split at hl
   · rename_i own ty v0 hm
     split at hl
     · rename_i n e hu
       split at hl
       · rename_i o u vs l k hlay hg hb1 hb2
         split at hl
         · rename_i hc
           cases hl
           obtain ⟨hty,hc1,hc2,hs,hc3⟩:=hc
           unfold isArr at hc3
           split at hc3
           · rename_i n' e' hu'
             simp only [Bool.and_eq_true,decide_eq_true_eq] at hc3
             obtain ⟨rfl,rfl⟩:=hc3
             obtain ⟨d,hd⟩:=Option.isSome_iff_exists.1 hs
             have hrun:(Instr.sliceAt t (.pointer (some z)) lo' hi' none).run P W=.ok (.slice (some (if n'=l then z else z.add (l * P.cellsOf e'))) (k - l) (n' - l)) W:=by
               simp only [Instr.sliceAt,Instr.sureAddr,Sem.run_bind,run_underlying' hu,Result.andThen_ok,Sem.run_pure,run_sizeOf' hd,
                 run_sliceBounds (isSlice:=false) hb1 hb2 r1 r2 hc1 hc2 (Nat.le_refl _)]
             refine ⟨_,hrun,mk_slc (by omega) (let ⟨L,_,_,hL,_⟩:=hz;⟨L,hL⟩) fun hpos=>?_⟩
             rw [if_neg (by omega)]
             obtain ⟨L,hL,hobj⟩:=F.obj _ _ hm
             obtain ⟨h1,h2,a1,m,c,elem,fr,h3,h4,h5,h6,h7⟩:=obj_at K.lay hobj hlay hg
             obtain ⟨L',o',t',g1,g2,g3,rfl⟩:=hz
             rw [hL] at g1;cases g1
             rw [← hty,hlay] at g3
             simp only [Option.some.injEq,Prod.mk.injEq] at g3
             obtain ⟨rfl,rfl⟩:=g3
             have hsz:=size_ok K.lay _ _ m h2 h5
             rw [K.lay.array u n' e' hu'] at hsz
             have htot:(a1++m++c).length=L.size:=by
               obtain ⟨_,_,x1,x2,x3,e1,f1,k3,_,k5,_⟩:=hobj
               rw [h3] at k3
               simp only [Option.some.injEq,Obj.cells.injEq] at k3
               have:=congrArg Array.size k3.1
               simp at this
               simp at k5 ⊢
               omega
             refine ⟨L,o,e',hL,g2,?_,?_,?_⟩
             · rw [← hty];exact rowAt_of hlay hu'
             · rw [addr_add]
             · have:l + (n' - l)=n':=by omega
               rw [this]
               rw [← htot];simp [h4,hsz]
           · cases hc3
         · cases hl
       · cases hl
     · cases hl
   · cases hl
 · cases hl
end Go.Ab
namespace Go.Ab
open Go Go.RowKit
variable {P:Program} {ι:Names} {W:World} {B:Base} {h:AH}
theorem relCs_rep {v:V} {cs:List Value} (hr:relC P ι v cs):∀ n,relCs P ι (List.replicate n v) (List.replicate n cs).flatten
 | 0=>by simp [relCs]
 | n + 1=>by
   simp only [List.replicate_succ,List.flatten_cons]
   exact relCs_cons hr (relCs_rep hr n)
theorem modRep (z:Array Value) (hz:0 < z.size):∀ n,(List.range (n * z.size)).map (fun i=>z[i % z.size]!)=(List.replicate n z.toList).flatten
 | 0=>by simp
 | n + 1=>by
   rw [Nat.add_mul,Nat.one_mul,List.range_add,List.map_append,modRep z hz n,List.replicate_succ',List.flatten_append]
   congr 1
   simp only [List.map_map,List.flatten_cons,List.flatten_nil,List.append_nil]
   apply List.ext_getElem
   · simp
   · intro i h1 h2
     simp at h1 h2
     simp [Nat.add_mod,Nat.mul_mod_left,Nat.mod_eq_of_lt h1,getElem!_pos z i h1]
theorem wrap_small {n:Int} (h0:0≤n) (h1:n < 9223372036854775808):IntKind.i64.wrap n=n:=by
 have hm:n % (2 ^ IntKind.i64.bits:Int)=n:=Int.emod_eq_of_lt h0 (by show n < 2 ^ 64;omega)
 unfold IntKind.wrap
 simp only [hm]
 simp [IntKind.signed,IntKind.bits]
 omega
def aMakeSlice (P:Program) (h:AH) (t:TypeId) (l c:V):Option (V × AH) :=
 match l,c with
 | .int _ n,.int _ n'=>match ul P t with
   | some (.slice e)=>match zeroV P e with
     | some z=>if n=n'∧0≤n∧1≤P.bytesOf e∧(P.bytesOf e:Int) * n≤140737488355328∧P.cellsOf e≠0 then
         some (.slc (some (⟨h.next,.row e,[]⟩,0)) n.toNat,h.make (.cells true (.row e) (.agg (List.replicate n.toNat z)))) else none
     | none=>none
   | _=>none
 | _,_=>none
theorem info_of {e:TypeId} {d:TypeDesc} (h:ul P e=some d):∃ i,P.info? e=some i∧i.size=P.cellsOf e∧i.bytes=P.bytesOf e:=by
 have h:=ul_some h
 cases hi:P.info? e with
 | none=>simp [Program.underlying,hi] at h
 | some i=>exact ⟨i,rfl,by simp [Program.cellsOf,hi],by simp [Program.bytesOf,hi]⟩
theorem mk_row {ι':Names} {n s len cap:Nat} {e:TypeId} {L:Loc} (hL:ι' n=some L) (hty:L.ty=.row e) (h1:len≤cap) (hs:s=0) (hsz:L.off + cap * P.cellsOf e≤L.size) :
   rel P ι' (.slc (some (⟨n,.row e,[]⟩,s)) len) (.slice (some ⟨L.blk,L.off,none⟩) len cap):=by
 subst hs
 refine mk_slc h1 ⟨L,hL⟩ fun _=>⟨L,0,e,hL,hty,by simp [rowAt],by simp,by simpa using hsz⟩
theorem aMakeSlice_ok (K:Ok P) (F:Fits P B ι h W) {t:TypeId} {l c v:V} {h':AH} {y z:Value} (hl:aMakeSlice P h t l c=some (v,h')) (h1:rel P ι l y) (h2:rel P ι c z) :
   Does P B ι W (Instr.makeSlice t y z) v h':=by
 unfold aMakeSlice at hl
 split at hl
 · rename_i k1 n k2 n'
   obtain rfl:=rel_int h1
   obtain rfl:=rel_int h2
   split at hl
   · rename_i e hu
     split at hl
     · rename_i zv hz
       split at hl
       · rename_i hc
         obtain ⟨rfl,h0,hb1,hb2,hc0⟩:=hc
         simp only [Option.some.injEq,Prod.mk.injEq] at hl
         obtain ⟨rfl,rfl⟩:=hl
         obtain ⟨zz,z1,z2,z3,z4⟩:=run_zeroValue' K hz W
         obtain ⟨d,hd⟩:=shape_ul z4
         obtain ⟨i,hi,hisz,hib⟩:=info_of hd
         have hnb:n≤(P.bytesOf e:Int) * n:=by
           have:(1:Int) * n≤(P.bytesOf e:Int) * n:=Int.mul_le_mul_of_nonneg_right (by omega) h0
           omega
         have hw:=wrap_small h0 (by omega)
         have hzs:zz.cells.size=P.cellsOf e:=by have:=size_ok K.lay _ _ _ z4 (z3 ι);simpa using this
         have hcells:((Array.range (n.toNat * P.cellsOf e)).map (fun i=>zz.cells[i % zz.cells.size]!))=((List.replicate n.toNat zz.cells.toList).flatten++[]).toArray:=by
           apply Array.ext'
           simp only [Array.toList_map,Array.toList_range,List.append_nil]
           rw [← hzs]
           exact modRep zz.cells (by omega) _
         obtain ⟨ι',L,r1,r2,r3,r4,r5⟩:=newRow_ok (rest:=[]) (e:=e) (ty:=.row e) F (v:=.agg (List.replicate n.toNat zv)) (by simp only [shapeB];exact shapesAll_rep z4 _) (cs:=(List.replicate n.toNat zz.cells.toList).flatten) (by simp only [relC];exact relCs_rep (z3 ι) _) rfl
         have hlen:((List.replicate n.toNat zz.cells.toList).flatten++[]).length=n.toNat * P.cellsOf e:=by
           have:=sizesAll_ok K.lay _ e _ (shapesAll_rep z4 n.toNat) (relCs_rep (z3 ι) n.toNat)
           simpa using this
         refine ⟨ι',_,.slice (some ⟨W.heap.size,0,none⟩) n.toNat n.toNat,?_,r2,r3,?_⟩
         · have e1:(n < 0 || decide ((i.bytes:Int) * n > 2 ^ 48))=false:=by
             rw [hib]
             simp only [Bool.or_eq_false_iff,decide_eq_false_iff_not]
             constructor <;> omega
           simp only [Instr.makeSlice,Sem.run_bind,run_underlying' hu,Result.andThen_ok,asInt,asIntOf,Sem.run_pure,typeInfo,run_program,hi,hw]
           rw [if_neg (by
             simp only [Bool.or_eq_true,decide_eq_true_eq,e1]
             simp;omega)]
           simp only [Sem.run_bind,run_askRoom,Result.andThen_ok,run_sizeOf' hd,Sem.run_pure]
           by_cases hn0:n.toNat * P.cellsOf e=0
           · have hnn:n.toNat=0:=by
               rcases Nat.mul_eq_zero.1 hn0 with h | h
               · exact h
               · exact absurd h hc0
             rw [if_pos hn0]
             simp only [Sem.run_bind,Sem.run_pure,Result.andThen_ok,hn0]
             rw [hnn] at r1 ⊢
             simp at r1
             simp [r1,hnn,show Array.range 0=#[] from rfl]
           · rw [if_neg hn0]
             simp only [Sem.run_bind,z1,Sem.run_pure,Result.andThen_ok,hcells,r1]
         · subst r5
           exact mk_row r4 rfl (Nat.le_refl _) rfl (by simp only [Nat.zero_add];rw [hlen];exact Nat.le_refl _)
       · cases hl
     · cases hl
   · cases hl
 · cases hl
theorem Fits.adopt (F:Fits P B ι h W) (o:AO) (L:Loc) (hfree:∀ n o' L',h.m n=some o'→ι n=some L'→L'.blk≠L.blk) (hF:¬ B.F L.blk)
   (ho:objR P (Names.add ι h.next L) W L o):Names.le ι (Names.add ι h.next L)∧Fits P B (Names.add ι h.next L) (h.make o) W:=by
 have hle:Names.le ι (Names.add ι h.next L):=Names.le_add (F.fresh _ (Nat.le_refl _))
 refine ⟨hle,?_,?_,?_,?_,F.frame,F.os,F.tape,F.output,F.size⟩
 · intro k o' hk
   simp only [AH.make] at hk
   split at hk
   · rename_i e;subst e;cases hk;exact ⟨L,by simp [Names.add],ho⟩
   · obtain ⟨L',h1,h2⟩:=F.obj k o' hk
     exact ⟨L',hle _ _ h1,objR_keep hle rfl h2⟩
 · intro k hk
   simp only [AH.make] at hk
   simp only [Names.add]
   rw [if_neg (by omega)]
   exact F.fresh k (by omega)
 · intro i j o1 o2 Li Lj hi hj hne hown h1 h2
   have get:∀ k o' Lk,(AH.make h o).m k=some o'→Names.add ι h.next L k=some Lk→(k=h.next∧Lk=L)∨(k≠h.next∧h.m k=some o'∧ι k=some Lk):=by
     intro k o' Lk a1 a2
     by_cases e:k=h.next
     · left;subst e;simp [Names.add] at a2;exact ⟨rfl,a2.symm⟩
     · right
       simp only [AH.make,if_neg e] at a1
       simp only [Names.add,if_neg e] at a2
       exact ⟨e,a1,a2⟩
   rcases get i o1 Li hi h1 with ⟨e1,e2⟩ | ⟨e1,e2,e3⟩ <;> rcases get j o2 Lj hj h2 with ⟨f1,f2⟩ | ⟨f1,f2,f3⟩
   · omega
   · subst e2;exact fun e=>hfree j o2 Lj f2 f3 e.symm
   · subst f2;exact hfree i o1 Li e2 e3
   · exact F.apart i j o1 o2 Li Lj e2 f2 hne hown e3 f3
 · intro i o' Li hi hown h1
   simp only [AH.make] at hi
   simp only [Names.add] at h1
   split at hi
   · rename_i e;subst e;simp only [if_true,Option.some.injEq] at h1;subst h1;exact hF
   · rename_i e;rw [if_neg e] at h1;exact F.free i o' Li hi hown h1
theorem Fits.letGo (F:Fits P B ι h W) {n:Nat} {o:AO} {L:Loc} (hm:h.m n=some o) (hown:o.isOwn=true) (hL:ι n=some L) (cs:List Value) (elem:TypeId) (fr:Nat × Nat) :
   Fits P B ι (h.kill n) (World.putRow W L.blk cs elem fr):=by
 have Fk:=F.kill n
 have live:∀ k o',(h.kill n).m k=some o'→k≠n∧h.m k=some o':=by
   intro k o' hk
   simp only [AH.kill] at hk
   split at hk
   · cases hk
   · exact ⟨by assumption,hk⟩
 refine ⟨?_,Fk.fresh,Fk.apart,Fk.free,?_,Fk.os,Fk.tape,Fk.output,by simpa [World.putRow] using Fk.size⟩
 · intro k o' hk
   obtain ⟨e,hk'⟩:=live k o' hk
   obtain ⟨Lk,h1,h2⟩:=F.obj k o' hk'
   exact ⟨Lk,h1,objR_keep (Names.le_refl _) (putRow_ne fun e'=>F.apart n k _ _ L Lk hm hk' (fun e''=>e e''.symm) hown hL h1 e'.symm) h2⟩
 · intro b hb
   obtain ⟨h1,h2⟩:=F.frame b hb
   have:b≠L.blk:=fun e=>F.free n _ L hm hown hL (e▸hb)
   exact ⟨by rw [putRow_ne this,h1],by simpa [World.putRow] using h2⟩
def aOwnRow (h:AH) (e:TypeId) (s:V):Option (List V × AH) :=
 match s with
 | .slc none _=>some ([],h)
 | .slc (some (a,i)) len=>match h.m a.n with
   | some (.cells true ty (.agg l))=>if ty=a.ty∧ty=.row e∧a.p=[]∧i + len≤l.length then some ((l.drop i).take len,h.kill a.n) else none
   | _=>none
 | _=>none
def aAppend (P:Program) (h:AH) (e:TypeId) (s x:V):Option (V × AH) :=
 match aElems P h e x with
 | some []=>match s with
   | .slc none _=>some (s,h)
   | .slc (some _) _=>some (s,h)
   | _=>none
 | some (w :: ws)=>match aOwnRow h e s with
   | some (l,h1)=>if 1≤P.bytesOf e∧(l.length + (w :: ws).length) * P.bytesOf e≤140737488355328∧(zeroV P e).isSome then
       some (.slc (some (⟨h1.next,.row e,[]⟩,0)) (l.length + (w :: ws).length),h1.make (.cells true (.row e) (.agg (l++w :: ws)))) else none
   | none=>none
 | none=>none
theorem growBy_le:∀ (n c newLen:Nat),c≤newLen→Builtin.growBy newLen n c≤newLen + (newLen + 768) / 4
 | 0,c,newLen,h=>by simp only [Builtin.growBy];omega
 | n + 1,c,newLen,h=>by
   simp only [Builtin.growBy]
   split
   · omega
   · by_cases hc:c + (c + 768) / 4≤newLen
     · exact growBy_le n _ newLen hc
     · cases n with
       | zero=>simp only [Builtin.growBy];omega
       | succ n=>simp only [Builtin.growBy];rw [if_pos (by omega)];omega
theorem nextcap_le {need old:Nat} (h:old < need):Builtin.nextslicecap need old≤2 * need:=by
 unfold Builtin.nextslicecap
 split
 · omega
 · split
   · omega
   · have:=growBy_le 4 old need (by omega)
     omega
def isIntD:TypeDesc→Bool
 | .int _=>true
 | _=>false
theorem run_append_head (t xt e:TypeId) (s x:Value) (hu:ul P t=some (.slice e)) {dx:TypeDesc} (hx:ul P xt=some dx) (hni:isIntD dx=false) {base:Option Addr} {sLen sCap:Nat} (hs:s=.slice base sLen sCap) {n:Nat} (hn:(Builtin.lenOf x).run P W=.ok n W) {de:TypeDesc} (he:ul P e=some de) (ty:TypeId) :
   (Builtin.append_ #[t,xt] ty #[s,x]).run P W =
     if sLen + n≤sCap then (do
         let new ← Builtin.firstCells (P.cellsOf e) n x
         if let some a:=base then storeCells (a.add (sLen * P.cellsOf e)) new.toList
         pure (.slice base (sLen + n) sCap):Sem Value).run P W
     else (do
         if ((sLen + n:Nat):Int) > IntKind.i64.max∧((false:Bool)=true∨(← typeInfo e).bytes=0) then runtimePanic (.error "growslice: len out of range")
         if Builtin.nextslicecap (sLen + n) sCap * (← typeInfo e).bytes > 2 ^ 48 then (do
           if !(← Builtin.mayShare (P.cellsOf e) sLen n base x) then mark .noRoom
           unsupported (.resourceLimit "append: a slice or a string whose bytes no memory bears"))
         let newCap ← choose (.appendCap (sLen + n) sCap e)
         askRoom (newCap * (← typeInfo e).bytes)
         let old ← Builtin.firstCells (P.cellsOf e) sLen s
         let new ← Builtin.firstCells (P.cellsOf e) n x
         let rest:=Builtin.zeroCells (← zeroValue e).cells (newCap - (sLen + n))
         pure (.slice (some (← newRow e (old++new++rest))) (sLen + n) newCap):Sem Value).run P W:=by
 subst hs
 obtain ⟨i,hi,h1,h2⟩:=info_of he
 simp only [Builtin.append_,List.getElem?_toArray,List.getElem?_cons_zero,List.getElem?_cons_succ,Sem.run_bind,run_underlying' hu,Result.andThen_ok,run_sizeOf' he,run_underlying' hx,Sem.run_pure,hn]
 cases dx <;> simp [isIntD] at hni <;> simp only [Bool.false_eq_true,if_false,Bool.not_false,if_true,Sem.run_bind,hn,Result.andThen_ok,Sem.run_ite] <;> split <;> rfl
end Go.Ab
namespace Go.Ab
open Go Go.RowKit
variable {P:Program} {ι:Names} {W:World} {B:Base} {h:AH}
def notInt (P:Program) (t:TypeId):Bool :=
 match ul P t with
 | some (.int _)=>false
 | some _=>true
 | none=>false
theorem make_kill {h:AH} {a n:Nat} {o o':AO} (k:((h.kill a).make o).m n=some o'):(h.make o).m n=some o':=by
 by_cases e:n=h.next
 · simp [AH.make,AH.kill,e] at k ⊢;exact k
 · simp [AH.make,AH.kill,e] at k ⊢;exact k.2
theorem grow_ok (K:Ok P) (F:Fits P B ι h W) {e:TypeId} {de:TypeDesc} (he:ul P e=some de) {s x:Value} {base:Option Addr} {sLen sCap:Nat} {ss es:List V} (hcap:sCap < sLen + es.length)
   (hb1:1≤P.bytesOf e) (hb2:(sLen + es.length) * P.bytesOf e≤140737488355328) {z:V} (hz:zeroV P e=some z)
   (hss:shapesAll P ss e=true) (hes:shapesAll P es e=true) (hl:ss.length=sLen)
   (h1:∀ W':World,Fits P B ι h W'→∃ c1,(Builtin.firstCells (P.cellsOf e) sLen s).run P W'=.ok c1.toArray W'∧relCs P ι ss c1)
   (h2:∀ W':World,Fits P B ι h W'→∃ c2,(Builtin.firstCells (P.cellsOf e) es.length x).run P W'=.ok c2.toArray W'∧relCs P ι es c2) :
   Does P B ι W (do
         if ((sLen + es.length:Nat):Int) > IntKind.i64.max∧((false:Bool)=true∨(← typeInfo e).bytes=0) then runtimePanic (.error "growslice: len out of range")
         if Builtin.nextslicecap (sLen + es.length) sCap * (← typeInfo e).bytes > 2 ^ 48 then (do
           if !(← Builtin.mayShare (P.cellsOf e) sLen es.length base x) then mark .noRoom
           unsupported (.resourceLimit "append: a slice or a string whose bytes no memory bears"))
         let newCap ← choose (.appendCap (sLen + es.length) sCap e)
         askRoom (newCap * (← typeInfo e).bytes)
         let old ← Builtin.firstCells (P.cellsOf e) sLen s
         let new ← Builtin.firstCells (P.cellsOf e) es.length x
         let rest:=Builtin.zeroCells (← zeroValue e).cells (newCap - (sLen + es.length))
         pure (.slice (some (← newRow e (old++new++rest))) (sLen + es.length) newCap):Sem Value)
     (.slc (some (⟨h.next,.row e,[]⟩,0)) (ss.length + es.length)) (h.make (.cells true (.row e) (.agg (ss++es)))):=by
 obtain ⟨i,hi,hisz,hib⟩:=info_of he
 have hti:∀ W':World,(typeInfo e).run P W'=.ok i W':=fun W'=>by simp [typeInfo,hi]
 have hsmall:sLen + es.length≤140737488355328:=Nat.le_trans (Nat.le_mul_of_pos_right _ (by omega)) hb2
 have hnc:=nextcap_le hcap
 have hnb:Builtin.nextslicecap (sLen + es.length) sCap * P.bytesOf e≤2 * ((sLen + es.length) * P.bytesOf e):=by
   rw [← Nat.mul_assoc];exact Nat.mul_le_mul_right _ hnc
 generalize hq:Question.appendCap (sLen + es.length) sCap e=q
 have hf:q.forced=false:=by rw [← hq];rfl
 generalize hW1:({ W with drawn:=W.drawn + 1 }:World)=W1
 have hheap:W1.heap=W.heap:=by rw [← hW1]
 have F1:Fits P B ι h W1:=by rw [← hW1];exact F.drew _
 generalize hcut:q.cut (W.tape W.drawn q)=newCap
 have hge:sLen + es.length≤newCap:=by
   rw [← hcut,← hq];simp only [Question.cut];omega
 obtain ⟨zz,z1,z2,z3,z4⟩:=run_zeroValue' K hz W1
 have hzs:zz.cells.size=P.cellsOf e:=by have:=size_ok K.lay _ _ _ z4 (z3 ι);simpa using this
 obtain ⟨c1,h1,r1⟩:=h1 W1 F1
 obtain ⟨c2,h2,r2⟩:=h2 W1 F1
 have hrel:relC P ι (.agg (ss++es)) (c1++c2):=by simp only [relC];exact relCs_append r1 r2
 obtain ⟨ι',L,k1,k2,k3,k4,k5⟩:=newRow_ok (rest:=(Builtin.zeroCells zz.cells (newCap - (sLen + es.length))).toList) (e:=e) (ty:=.row e) F1 (v:=.agg (ss++es)) (by simp only [shapeB,shapesAll_append,hss,hes,Bool.and_self]) hrel rfl
 have hlen:(c1++c2++(Builtin.zeroCells zz.cells (newCap - (sLen + es.length))).toList).length=newCap * P.cellsOf e:=by
   have s1:=sizesAll_ok K.lay _ _ c1 hss r1
   have s2:=sizesAll_ok K.lay _ _ c2 hes r2
   have s3:(Builtin.zeroCells zz.cells (newCap - (sLen + es.length))).toList.length=(newCap - (sLen + es.length)) * P.cellsOf e:=by simp [Builtin.zeroCells,hzs]
   rw [List.length_append,List.length_append,s1,s2,s3,hl,← Nat.add_mul,← Nat.add_mul]
   congr 1;omega
 refine ⟨ι',_,.slice (some ⟨W1.heap.size,0,none⟩) (sLen + es.length) newCap,?_,k2,k3,?_⟩
 · have g1:¬ (((sLen + es.length:Nat):Int) > IntKind.i64.max∧((false:Bool)=true∨i.bytes=0)):=by
     rintro ⟨_,h | h⟩
     · cases h
     · omega
   have g2:¬ (Builtin.nextslicecap (sLen + es.length) sCap * i.bytes > 2 ^ 48):=by rw [hib];omega
   have hch:(choose q).run P W=.ok newCap W1:=by
     rw [run_choose,if_neg (by simp [hf]),hcut,hW1]
   have harr:c1.toArray++c2.toArray++Builtin.zeroCells zz.cells (newCap - (sLen + es.length))=(c1++c2++(Builtin.zeroCells zz.cells (newCap - (sLen + es.length))).toList).toArray:=by
     apply Array.ext';simp
   simp only [Sem.run_bind,hti,Result.andThen_ok,g1,if_false,Sem.run_pure,g2,hch,run_askRoom,h1,h2,z1,harr,k1]
 · subst k5
   rw [hl]
   exact mk_row k4 rfl hge rfl (by simp only [Nat.zero_add];rw [hlen];exact Nat.le_refl _)
theorem aAppend_ok (K:Ok P) (F:Fits P B ι h W) {t xt ty e:TypeId} {s x v:V} {h':AH} {y z:Value} (hu:ul P t=some (.slice e)) (hx:notInt P xt=true) (hl:aAppend P h e s x=some (v,h')) (r1:rel P ι s y) (r2:rel P ι x z) (hse:(ul P e).isSome=true) :
   Does P B ι W (Builtin.append_ #[t,xt] ty #[y,z]) v h':=by
 obtain ⟨de,he⟩:=Option.isSome_iff_exists.1 hse
 obtain ⟨dx,hdx,hni⟩:∃ dx,ul P xt=some dx∧isIntD dx=false:=by
   unfold notInt at hx
   cases hq:ul P xt with
   | none=>rw [hq] at hx;cases hx
   | some dx=>rw [hq] at hx;exact ⟨dx,rfl,by cases dx <;> first | rfl | cases hx⟩
 unfold aAppend at hl
 split at hl
 · rename_i hels
   obtain ⟨e1,e2,e3⟩:=elems_ok K F hels r2
   obtain ⟨cs,c1,c2⟩:=e3 0 (Nat.le_refl _)
   simp only [List.length_nil] at e2
   simp only [List.take_nil,relCs] at c2
   subst c2
   split at hl
   · cases hl
     obtain ⟨rfl,rfl⟩:=rel_slc_nil r1
     refine Does.still F (x:=.slice none 0 0) ?_ r1
     rw [run_append_head t xt e _ _ hu hdx hni rfl e2 he]
     simp [c1]
   · cases hl
     rename_i ap len
     obtain ⟨pa,i⟩:=ap
     obtain ⟨q,cap,rfl,hc,hq⟩:=rel_slc r1
     refine Does.still F (x:=.slice (some q) len cap) ?_ r1
     rw [run_append_head t xt e _ _ hu hdx hni rfl e2 he,if_pos (by omega)]
     simp [c1,storeCells]
   · cases hl
 · rename_i w ws hels
   obtain ⟨e1,e2,e3⟩:=elems_ok K F hels r2
   split at hl
   · rename_i l h1 hown
     split at hl
     · rename_i hc
       obtain ⟨hb1,hb2,hz⟩:=hc
       obtain ⟨zv,hz⟩:=Option.isSome_iff_exists.1 hz
       simp only [Option.some.injEq,Prod.mk.injEq] at hl
       obtain ⟨rfl,rfl⟩:=hl
       unfold aOwnRow at hown
       split at hown
       · -- the slice is nil
         cases hown
         obtain ⟨rfl,rfl⟩:=rel_slc_nil r1
         have:=grow_ok K F he (s:=.slice none 0 0) (x:=z) (base:=none) (sLen:=0) (sCap:=0) (ss:=[]) (es:=w :: ws) (by simp) hb1 (by simpa using hb2) hz (by simp [shapesAll]) e1 rfl
           (fun W' _=>⟨[],rfl,by simp [relCs]⟩)
           (fun W' F'=>by
             obtain ⟨_,_,k⟩:=elems_ok K F' hels r2
             obtain ⟨cs,k1,k2⟩:=k _ (Nat.le_refl _)
             exact ⟨cs,k1,by simpa using k2⟩)
         obtain ⟨ι',W',xx,g1,g2,g3,g4⟩:=this
         refine ⟨ι',W',xx,?_,g2,g3,g4⟩
         rw [run_append_head t xt e _ _ hu hdx hni rfl e2 he,if_neg (by simp)]
         exact g1
       · rename_i a i len
         split at hown
         · rename_i bty row hm
           split at hown
           · rename_i hc
             obtain ⟨hty,hrow,hp,hil⟩:=hc
             cases hown
             obtain ⟨q,cap,rfl,hcap,hq⟩:=rel_slc r1
             obtain ⟨L,hL,hobj⟩:=F.obj _ _ hm
             subst hrow
             obtain ⟨an,aty,ap⟩:=a
             simp only at hty hp hm hL hq r1
             subst hty;subst hp
             have hrowat:rowAt P (.row e) []=some (0,e):=by simp [rowAt]
             obtain ⟨o1,o2,a1,m,c,elem,fr,o3,o4,o4',o5,o6,o7⟩:=row_at K.lay hobj hrowat (v:=.agg row) rfl
             have hlen:((row.drop i).take len).length=len:=by simp;omega
             have hsse:=shapesAll_take len (shapesAll_drop i o2)
             obtain ⟨m1,m2,m3,rfl,k1,k2,k3⟩:=relCs_mid i len o5
             have s1:=sizesAll_ok K.lay _ _ m1 (shapesAll_take i o2) k1
             have s2:=sizesAll_ok K.lay _ _ m2 hsse k2
             have hil':(row.take i).length=i:=by simp;omega
             rw [hil'] at s1
             rw [hlen] at s2
             by_cases hroom:len + (w :: ws).length≤cap
             · -- in place
               obtain ⟨L',o',e',g1,g2,g3,rfl,g4⟩:=hq (by simp at hroom;omega)
               rw [hL] at g1;cases g1
               simp only [hrowat,Option.some.injEq,Prod.mk.injEq] at g3
               obtain ⟨rfl,rfl⟩:=g3
               obtain ⟨cs,c1,c2⟩:=e3 _ (Nat.le_refl _)
               rw [List.take_length] at c2
               have s4:=sizesAll_ok K.lay _ _ cs e1 c2
               have hfit:cs.length≤(m3++c).length:=by
                 have t1:(a1++(m1++m2++m3)++c).length=L.size:=o4'
                 simp only [List.length_append] at t1 ⊢
                 rw [s4]
                 have t2:(i + cap) * P.cellsOf e=i * P.cellsOf e + cap * P.cellsOf e:=Nat.add_mul _ _ _
                 have t3:(len + (w :: ws).length) * P.cellsOf e≤cap * P.cellsOf e:=Nat.mul_le_mul_right _ hroom
                 have t4:(len + (w :: ws).length) * P.cellsOf e=len * P.cellsOf e + (w :: ws).length * P.cellsOf e:=Nat.add_mul _ _ _
                 omega
               obtain ⟨d1,d2,hd,hdl⟩:∃ d1 d2,m3++c=d1++d2∧d1.length=cs.length:=⟨(m3++c).take cs.length,(m3++c).drop cs.length,(List.take_append_drop _ _).symm,by simp at hfit ⊢;omega⟩
               have o3':W.heap[L.blk]?=some (.cells ((a1++m1++m2)++d1++d2).toArray elem fr):=by
                 rw [o3];congr 3
                 have:a1++(m1++m2++m3)++c=a1++m1++m2++(m3++c):=by simp
                 rw [this,hd];simp
               have tot:((a1++m1++m2)++d1++d2).length=L.size:=by
                 rw [← o4']
                 have:a1++(m1++m2++m3)++c=a1++m1++m2++(m3++c):=by simp
                 rw [this,hd];simp
               have hst:=run_storeCells_in (P:=P) (b:=L.blk) cs (a1++m1++m2) d1 d2 W 0 o3' hdl.symm (by rw [tot,← o4'];exact o6 rfl) (cellsAll_ok _ _ _ e1 c2) (a1++m1++m2).length (by simp)
               have hne:∀ (W:World),Fits P B ι h W→True:=fun _ _=>trivial
               let Lnew:Loc:=⟨L.blk,L.off + i * P.cellsOf e,L.size,.row e⟩
               have Fk:=F.letGo hm rfl hL (a1++m1++m2++cs++d2) elem fr
               have hle:Names.le ι (Names.add ι h.next Lnew):=Names.le_add (F.fresh _ (Nat.le_refl _))
               have had:=Fk.adopt (.cells true (.row e) (.agg ((row.drop i).take len++w :: ws))) Lnew
                 (by
                   intro n' o' L' hn' hL'
                   simp only [AH.kill] at hn'
                   split at hn'
                   · cases hn'
                   · rename_i hne'
                     exact fun e'=>F.apart an n' _ _ L L' hm hn' (fun e''=>hne' e''.symm) rfl hL hL' e'.symm)
                 (F.free an _ L hm rfl hL)
                 ⟨rfl,by simp only [shapeB,shapesAll_append,hsse,e1,Bool.and_self],a1++m1,m2++cs,d2,elem,fr,by
                   rw [show Lnew.blk=L.blk from rfl,putRow_at (getBlk_lt o3)];simp,by simp [Lnew,o4,s1],by
                   rw [show Lnew.size=L.size from rfl,← tot];simp [hdl],by
                   simp only [relC];exact relCs_append (relCs_le hle _ _ k2) (relCs_le hle _ _ c2),fun _=>⟨by rw [show Lnew.size=L.size from rfl,← o4'];exact o6 rfl,(show elem=e from obj_exact (ty:=.row e) (L:=L) hobj o3)⟩⟩
               obtain ⟨had1,had2⟩:=had
               refine ⟨_,_,.slice (some ⟨L.blk,L.off + 0 + i * P.cellsOf e,none⟩) (len + (w :: ws).length) cap,?_,had1,had2,?_⟩
               · rw [run_append_head t xt e _ _ hu hdx hni rfl e2 he,if_pos hroom]
                 have hadr:(⟨L.blk,L.off + 0 + i * P.cellsOf e,none⟩:Addr).add (len * P.cellsOf e)=⟨L.blk,(a1++m1++m2).length,none⟩:=by
                   rw [addr_add];congr 1;rw [List.length_append,List.length_append,o4,s1,s2]
                 simp only [Sem.run_bind,c1,Result.andThen_ok,hadr,hst,Sem.run_pure]
               · rw [hlen]
                 have hadr2:L.off + 0 + i * P.cellsOf e=Lnew.off:=by simp [Lnew]
                 rw [hadr2]
                 refine mk_row (L:=Lnew) (by simp [Names.add,AH.kill]) rfl hroom rfl ?_
                 have t2:(i + cap) * P.cellsOf e=i * P.cellsOf e + cap * P.cellsOf e:=Nat.add_mul _ _ _
                 simp only [Lnew]
                 omega
             · -- grown
               have:=grow_ok K F he (s:=.slice (some q) len cap) (x:=z) (base:=some q) (sLen:=len) (sCap:=cap) (ss:=(row.drop i).take len) (es:=w :: ws) (by omega) hb1 (by rw [hlen] at hb2;exact hb2) hz hsse e1 hlen
                 (fun W' F'=>by
                   have hel:aElems P h e (.slc (some (⟨an,.row e,[]⟩,i)) len)=some ((row.drop i).take len):=by
                     simp only [aElems,hm,if_true,hrowat,getV,true_and]
                     rw [if_pos hil]
                   obtain ⟨_,_,k⟩:=elems_ok K F' hel r1
                   obtain ⟨cs,k1,k2⟩:=k len (by rw [hlen];exact Nat.le_refl _)
                   refine ⟨cs,k1,?_⟩
                   rw [List.take_take,Nat.min_self] at k2
                   exact k2)
                 (fun W' F'=>by
                   obtain ⟨_,_,k⟩:=elems_ok K F' hels r2
                   obtain ⟨cs,k1,k2⟩:=k _ (Nat.le_refl _)
                   exact ⟨cs,k1,by simpa using k2⟩)
               obtain ⟨ι',W',xx,g1,g2,g3,g4⟩:=this
               refine ⟨ι',W',xx,?_,g2,?_,g4⟩
               · rw [run_append_head t xt e _ _ hu hdx hni rfl e2 he,if_neg hroom]
                 exact g1
               · refine g3.sub rfl fun n' o' hn'=>?_
                 exact make_kill hn'
           · cases hown
         · cases hown
       · cases hown
     · cases hl
   · cases hl
 · cases hl
end Go.Ab
namespace Go.Ab
open Go Go.RowKit
variable {P:Program} {ι:Names} {W:World} {B:Base} {h:AH}
def aCopy (P:Program) (h:AH) (e:TypeId) (d x:V):Option (V × AH) :=
 match aElems P h e x,d with
 | some _,.slc none _=>some (.int .i64 0,h)
 | some es,.slc (some (a,s)) len=>match h.m a.n with
   | some (.cells true ty v)=>match rowAt P ty a.p,getV v a.p with
     | some (_,e'),some (.agg l)=>if ty=a.ty∧e=e'∧s + len≤l.length then
         match setV v a.p (.agg (l.take s++es.take (min es.length len)++l.drop (s + min es.length len))) with
         | some v'=>some (.int .i64 (min es.length len:Nat),h.put a.n (.cells true ty v'))
         | none=>none
       else none
     | _,_=>none
   | _=>none
 | _,_=>none
theorem aCopy_ok (K:Ok P) (F:Fits P B ι h W) {t ty e:TypeId} {xt:TypeId} {d x v:V} {h':AH} {y z:Value} (hu:ul P t=some (.slice e)) (hse:(ul P e).isSome=true) (hl:aCopy P h e d x=some (v,h')) (r1:rel P ι d y) (r2:rel P ι x z) :
   Does P B ι W (Builtin.copy_ #[t,xt] ty #[y,z]) v h':=by
 obtain ⟨de,he⟩:=Option.isSome_iff_exists.1 hse
 unfold aCopy at hl
 split at hl
 · rename_i es len hels
   cases hl
   obtain ⟨e1,e2,e3⟩:=elems_ok K F hels r2
   obtain ⟨rfl,rfl⟩:=rel_slc_nil r1
   obtain ⟨cs,c1,c2⟩:=e3 0 (Nat.zero_le _)
   refine Does.still F (x:=.int .i64 0) ?_ (mk_int _ _)
   have hm:Nat.min es.length 0=0:=Nat.min_eq_right (Nat.zero_le _)
   simp only [Builtin.copy_,List.getElem?_toArray,List.getElem?_cons_zero,List.getElem?_cons_succ,Sem.run_bind,run_underlying' hu,Result.andThen_ok,run_sizeOf' he,e2,hm,c1,Sem.run_pure]
   rfl
 · rename_i es a s len hels
   obtain ⟨e1,e2,e3⟩:=elems_ok K F hels r2
   split at hl
   · rename_i bty v0 hm
     split at hl
     · rename_i o e' l hrow hg
       split at hl
       · rename_i hc
         obtain ⟨hty,rfl,hsl⟩:=hc
         split at hl
         · rename_i v' hset
           simp only [Option.some.injEq,Prod.mk.injEq] at hl
           obtain ⟨rfl,rfl⟩:=hl
           obtain ⟨L,hL,hobj⟩:=F.obj _ _ hm
           obtain ⟨h1,h2,a1,m,c,elem,fr,h3,h4,h4',h5,h6,h7⟩:=row_at K.lay hobj hrow hg
           obtain ⟨q,cap,rfl,hcap,hq⟩:=rel_slc r1
           generalize hn:min es.length len=n at hset
           have hne:n≤es.length:=by omega
           have hnl:n≤len:=by omega
           obtain ⟨cs,c1,c2⟩:=e3 n hne
           obtain ⟨m1,m2,m3,rfl,k1,k2,k3⟩:=relCs_mid s n h5
           have s1:=sizesAll_ok K.lay _ _ m1 (shapesAll_take s h2) k1
           have s2:=sizesAll_ok K.lay _ _ m2 (shapesAll_take n (shapesAll_drop s h2)) k2
           have hes:=shapesAll_take n e1
           have s4:=sizesAll_ok K.lay _ _ cs hes c2
           have l1:(l.take s).length=s:=by simp;omega
           have l2:((l.drop s).take n).length=n:=by simp;omega
           have l3:(es.take n).length=n:=by simp;omega
           rw [l1] at s1;rw [l2] at s2;rw [l3] at s4
           have o3':W.heap[L.blk]?=some (.cells ((a1++m1)++m2++(m3++c)).toArray elem fr):=by rw [h3];simp
           have tot:((a1++m1)++m2++(m3++c)).length=(a1++(m1++m2++m3)++c).length:=by simp
           have hst:=run_storeCells_in (P:=P) (b:=L.blk) cs (a1++m1) m2 (m3++c) W 0 o3' (by rw [s4,s2]) (by rw [tot];exact h6 rfl) (cellsAll_ok _ _ _ hes c2) (a1++m1).length (by simp)
           have hcall:(Builtin.copy_ #[t,xt] ty #[.slice (some q) len cap,z]).run P W=.ok (.int .i64 n) (World.putRow W L.blk ((a1++m1)++cs++(m3++c)) elem fr):=by
             have hmin:Nat.min es.length len=n:=hn
             simp only [Builtin.copy_,List.getElem?_toArray,List.getElem?_cons_zero,List.getElem?_cons_succ,Sem.run_bind,run_underlying' hu,Result.andThen_ok,run_sizeOf' he,e2,hmin,c1,Sem.run_pure]
             by_cases hn0:n=0
             · subst hn0
               obtain rfl:cs=[]:=List.length_eq_zero_iff.1 (by simpa using s4)
               obtain rfl:m2=[]:=List.length_eq_zero_iff.1 (by simpa using s2)
               rw [putRow_self o3']
               rfl
             · obtain ⟨L',o',e',g1,g2,g3,rfl,g4⟩:=hq (by omega)
               rw [hL] at g1;cases g1
               rw [← hty,hrow] at g3
               simp only [Option.some.injEq,Prod.mk.injEq] at g3
               obtain ⟨rfl,rfl⟩:=g3
               have hadr:(⟨L.blk,L.off + o + s * P.cellsOf e,none⟩:Addr)=⟨L.blk,(a1++m1).length,none⟩:=by rw [List.length_append,h4,s1]
               simp only [hadr,hst,Result.andThen_ok]
               rfl
           have hobj':=h7 _ (m1++cs++m3) v' (by simp only [shapesAll_append,shapesAll_take s h2,hes,shapesAll_drop _ h2,Bool.and_self]) (by simp;omega) (relCs_append (relCs_append k1 c2) k3) hset
           have harr:a1++(m1++cs++m3)++c=(a1++m1)++cs++(m3++c):=by simp
           rw [harr] at hobj'
           exact ⟨ι,_,_,hcall,Names.le_refl _,F.store hm hL hobj',mk_int _ _⟩
         · cases hl
       · cases hl
     · cases hl
   · cases hl
 · cases hl
def aClear (P:Program) (h:AH) (e:TypeId) (d:V):Option AH :=
 match d with
 | .slc (some (a,s)) len=>match h.m a.n with
   | some (.cells true ty v)=>match rowAt P ty a.p,getV v a.p,zeroV P e with
     | some (_,e'),some (.agg l),some z=>if ty=a.ty∧e=e'∧s + len≤l.length∧P.cellsOf e≠0 then
         match setV v a.p (.agg (l.take s++List.replicate len z++l.drop (s + len))) with
         | some v'=>some (h.put a.n (.cells true ty v'))
         | none=>none
       else none
     | _,_,_=>none
   | _=>none
 | _=>none
theorem aClear_ok (K:Ok P) (F:Fits P B ι h W) {t ty e:TypeId} {d:V} {h':AH} {y:Value} (hu:ul P t=some (.slice e)) (hl:aClear P h e d=some h') (r1:rel P ι d y) :
   Does P B ι W (Builtin.clear_ #[t] ty #[y]) (.tup []) h':=by
 unfold aClear at hl
 split at hl
 · rename_i a s len
   split at hl
   · rename_i bty v0 hm
     split at hl
     · rename_i o e' l zv hrow hg hz
       split at hl
       · rename_i hc
         obtain ⟨hty,rfl,hsl,hc0⟩:=hc
         split at hl
         · rename_i v' hset
           simp only [Option.some.injEq] at hl
           subst hl
           obtain ⟨zz,z1,z2,z3,z4⟩:=run_zeroValue' K hz W
           have hzs:zz.cells.size=P.cellsOf e:=by have:=size_ok K.lay _ _ _ z4 (z3 ι);simpa using this
           have hcells:(Builtin.zeroCells zz.cells len).toList=(List.replicate len zz.cells.toList).flatten:=by
             simp only [Builtin.zeroCells,Array.toList_map,Array.toList_range]
             exact modRep zz.cells (by omega) _
           obtain ⟨L,hL,hobj⟩:=F.obj _ _ hm
           obtain ⟨h1,h2,a1,m,c,elem,fr,h3,h4,h4',h5,h6,h7⟩:=row_at K.lay hobj hrow hg
           obtain ⟨q,cap,rfl,hcap,hq⟩:=rel_slc r1
           have hes:=shapesAll_rep z4 len
           have c2:=relCs_rep (z3 ι) len
           generalize hcs:(List.replicate len zz.cells.toList).flatten=cs at c2 hcells
           obtain ⟨m1,m2,m3,rfl,k1,k2,k3⟩:=relCs_mid s len h5
           have s1:=sizesAll_ok K.lay _ _ m1 (shapesAll_take s h2) k1
           have s2:=sizesAll_ok K.lay _ _ m2 (shapesAll_take len (shapesAll_drop s h2)) k2
           have s4:=sizesAll_ok K.lay _ _ cs hes c2
           have l1:(l.take s).length=s:=by simp;omega
           have l2:((l.drop s).take len).length=len:=by simp;omega
           have l3:(List.replicate len zv).length=len:=by simp
           rw [l1] at s1;rw [l2] at s2;rw [l3] at s4
           have o3':W.heap[L.blk]?=some (.cells ((a1++m1)++m2++(m3++c)).toArray elem fr):=by rw [h3];simp
           have tot:((a1++m1)++m2++(m3++c)).length=(a1++(m1++m2++m3)++c).length:=by simp
           have hst:=run_storeCells_in (P:=P) (b:=L.blk) cs (a1++m1) m2 (m3++c) W 0 o3' (by rw [s4,s2]) (by rw [tot];exact h6 rfl) (cellsAll_ok _ _ _ hes c2) (a1++m1).length (by simp)
           have hcall:(Builtin.clear_ #[t] ty #[.slice (some q) len cap]).run P W=.ok (.tuple #[]) (World.putRow W L.blk ((a1++m1)++cs++(m3++c)) elem fr):=by
             by_cases hn0:len=0
             · subst hn0
               obtain rfl:cs=[]:=List.length_eq_zero_iff.1 (by simpa using s4)
               obtain rfl:m2=[]:=List.length_eq_zero_iff.1 (by simpa using s2)
               rw [putRow_self o3']
               simp only [Builtin.clear_,List.getElem?_toArray,List.getElem?_cons_zero,Sem.run_bind,run_underlying' hu,Result.andThen_ok]
               rfl
             · obtain ⟨L',o',e',g1,g2,g3,rfl,g4⟩:=hq (by omega)
               rw [hL] at g1;cases g1
               rw [← hty,hrow] at g3
               simp only [Option.some.injEq,Prod.mk.injEq] at g3
               obtain ⟨rfl,rfl⟩:=g3
               have hadr:(⟨L.blk,L.off + o + s * P.cellsOf e,none⟩:Addr)=⟨L.blk,(a1++m1).length,none⟩:=by rw [List.length_append,h4,s1]
               obtain ⟨k,rfl⟩:∃ k,len=k + 1:=⟨len - 1,by omega⟩
               simp only [Builtin.clear_,List.getElem?_toArray,List.getElem?_cons_zero,Sem.run_bind,run_underlying' hu,Result.andThen_ok,z1,hcells,hadr,hst]
               rfl
           have hobj':=h7 _ (m1++cs++m3) v' (by simp only [shapesAll_append,shapesAll_take s h2,hes,shapesAll_drop _ h2,Bool.and_self]) (by simp;omega) (relCs_append (relCs_append k1 c2) k3) hset
           have harr:a1++(m1++cs++m3)++c=(a1++m1)++cs++(m3++c):=by simp
           rw [harr] at hobj'
           exact ⟨ι,_,_,hcall,Names.le_refl _,F.store hm hL hobj',.inr ⟨rfl,[],by simp [relL],by simp [Value.cells]⟩⟩
         · cases hl
       · cases hl
     · cases hl
   · cases hl
 · cases hl
def aLen (P:Program) (t:TypeId) (x:V):Option V :=
 match ul P t with
 | some .string=>match x with
   | .str s=>some (.int .i64 s.length)
   | _=>none
 | some (.slice _)=>match x with
   | .slc _ n=>some (.int .i64 n)
   | _=>none
 | some (.array n _)=>some (.int .i64 n)
 | some (.pointer a)=>match ul P a with
   | some (.array n _)=>some (.int .i64 n)
   | _=>none
 | _=>none
theorem aLen_ok {t ty:TypeId} {x v:V} {y:Value} (hl:aLen P t x=some v) (r:rel P ι x y) (W:World):∃ z,(Builtin.len_ #[t] ty #[y]).run P W=.ok z W∧rel P ι v z:=by
 unfold aLen at hl
 split at hl
 · rename_i hu
   split at hl
   · cases hl
     obtain rfl:=rel_str r
     refine ⟨_,?_,mk_int _ _⟩
     simp only [Builtin.len_,List.getElem?_toArray,List.getElem?_cons_zero,Sem.run_bind,run_underlying' hu,Result.andThen_ok,Sem.run_pure]
     rfl
   · cases hl
 · rename_i e hu
   split at hl
   · rename_i a n
     cases hl
     cases a with
     | none =>
       obtain ⟨rfl,rfl⟩:=rel_slc_nil r
       refine ⟨_,?_,mk_int _ _⟩
       simp [Builtin.len_,run_underlying' hu,goInt]
     | some p =>
       obtain ⟨p,s⟩:=p
       obtain ⟨q,cap,rfl,_⟩:=rel_slc r
       refine ⟨_,?_,mk_int _ _⟩
       simp [Builtin.len_,run_underlying' hu,goInt]
   · cases hl
 · rename_i n e hu
   cases hl
   refine ⟨.int .i64 n,?_,mk_int _ _⟩
   simp only [Builtin.len_,List.getElem?_toArray,List.getElem?_cons_zero,Sem.run_bind,run_underlying' hu,Result.andThen_ok,Sem.run_pure]
   rfl
 · rename_i a hu
   split at hl
   · rename_i n e hu'
     cases hl
     refine ⟨.int .i64 n,?_,mk_int _ _⟩
     simp only [Builtin.len_,List.getElem?_toArray,List.getElem?_cons_zero,Sem.run_bind,run_underlying' hu,run_underlying' hu',Result.andThen_ok,Sem.run_pure]
     rfl
   · cases hl
 · cases hl
def toBytes:List V→Option (List UInt8)
 | []=>some []
 | .int .u8 n :: vs=>match toBytes vs with
   | some s=>some (UInt8.ofNat n.toNat :: s)
   | none=>none
 | _=>none
theorem toBytes_cells:∀ {l:List V} {s:List UInt8} {cs:List Value},toBytes l=some s→relCs P ι l cs→∃ ns:List Int,cs=ns.map (Value.int .u8)∧s=ns.map fun n=>UInt8.ofNat n.toNat
 | [],s,cs,h,r=>by
   simp only [toBytes,Option.some.injEq] at h;subst h
   simp only [relCs] at r;subst r
   exact ⟨[],rfl,rfl⟩
 | v :: vs,s,cs,h,r=>by
   unfold toBytes at h
   split at h
   · rename_i e;cases e
   · rename_i n ws e
     simp only [List.cons.injEq] at e
     obtain ⟨rfl,rfl⟩:=e
     split at h
     · rename_i s' hs'
       cases h
       simp only [relCs,relC] at r
       obtain ⟨a,b,rfl,r2,rfl⟩:=r
       obtain ⟨ns,rfl,rfl⟩:=toBytes_cells hs' r2
       exact ⟨n :: ns,rfl,rfl⟩
     · cases h
   · cases h
def aBytesStr (P:Program) (h:AH) (src dst:TypeId) (x:V):Option V :=
 match ul P src,ul P dst with
 | some (.slice e),some .string=>match ul P e with
   | some (.int .u8)=>match x with
     | .slc _ _=>match aElems P h e x with
       | some es=>match toBytes es with
         | some s=>some (.str s)
         | none=>none
       | none=>none
     | _=>none
   | _=>none
 | _,_=>none
theorem aBytesStr_ok (K:Ok P) (F:Fits P B ι h W) {src dst:TypeId} {x v:V} {y:Value} (hl:aBytesStr P h src dst x=some v) (r:rel P ι x y) :
   ∃ z,(convert src dst y).run P W=.ok z W∧rel P ι v z:=by
 unfold aBytesStr at hl
 split at hl
 · rename_i e hu hd
   split at hl
   · rename_i he
     split at hl
     · rename_i a len
       split at hl
       · rename_i es hels
         split at hl
         · rename_i s hs
           cases hl
           obtain ⟨e1,e2,e3⟩:=elems_ok K F hels r
           obtain ⟨cs,c1,c2⟩:=e3 es.length (Nat.le_refl _)
           rw [List.take_length] at c2
           have hsz:P.cellsOf e=1:=K.lay.leaf e _ he (by simp) (by simp)
           rw [hsz] at c1
           obtain ⟨ns,rfl,rfl⟩:=toBytes_cells hs c2
           cases a with
           | none =>
             obtain ⟨rfl,rfl⟩:=rel_slc_nil r
             simp only [aElems,Option.some.injEq] at hels
             subst hels
             have hns:ns=[]:=by
               simp only [toBytes,Option.some.injEq] at hs
               cases ns <;> simp_all
             subst hns
             refine ⟨_,run_convert_bytes_nil W src e (ul_some hu) (ul_some he) 0 0 dst (ul_some hd),?_⟩
             exact mk_str []
           | some p =>
             obtain ⟨p,s⟩:=p
             obtain ⟨q,cap,rfl,hcap,hq⟩:=rel_slc r
             have hlen:es.length=len:=by
               simp only [Builtin.lenOf,Sem.run_pure,Result.ok.injEq] at e2
               exact e2.1.symm
             simp only [Builtin.firstCells,hlen,Nat.mul_one] at c1
             refine ⟨.string ⟨(ns.map fun n=>UInt8.ofNat n.toNat).toArray⟩,?_,mk_str _⟩
             rw [run_convert_bytes_string W src dst e _ len cap (ul_some hu) (ul_some he) (ul_some hd),run_bytesToString W _ len cap ns c1,foldl_push_bytes]
             simp [ByteArray.empty,ByteArray.emptyWithCapacity]
             rfl
         · cases hl
       · cases hl
     · cases hl
   · cases hl
 · cases hl
end Go.Ab
namespace Go.Ab
open Go Go.RowKit
variable {P:Program} {ι:Names} {W:World} {B:Base} {h:AH}
def bitI (op:BinOp) (k:IntKind) (a b:Int):Int :=
 match op with
 | .and=>k.wrap ((BitVec.ofInt k.bits a &&& BitVec.ofInt k.bits b).toNat:Nat)
 | .or=>k.wrap ((BitVec.ofInt k.bits a ||| BitVec.ofInt k.bits b).toNat:Nat)
 | .xor=>k.wrap ((BitVec.ofInt k.bits a ^^^ BitVec.ofInt k.bits b).toNat:Nat)
 | _=>k.wrap ((BitVec.ofInt k.bits a &&& ~~~ BitVec.ofInt k.bits b).toNat:Nat)
def shlI (k:IntKind) (a b:Int):Int:=k.wrap (a * 2 ^ min b.toNat k.bits)
def shrI (k:IntKind) (a b:Int):Int:=a / 2 ^ min b.toNat k.bits
def intBin (op:BinOp) (k:IntKind) (a b:Int):Option V :=
 match op with
 | .add=>some (.int k (k.wrap (a + b)))
 | .sub=>some (.int k (k.wrap (a - b)))
 | .mul=>some (.int k (k.wrap (a * b)))
 | .quo=>if b=0 then none else some (.int k (k.wrap (a.tdiv b)))
 | .rem=>if b=0 then none else some (.int k (a.tmod b))
 | .and=>some (.int k (bitI .and k a b))
 | .or=>some (.int k (bitI .or k a b))
 | .xor=>some (.int k (bitI .xor k a b))
 | .andNot=>some (.int k (bitI .andNot k a b))
 | .eql=>some (.bool (a == b))
 | .neq=>some (.bool (a != b))
 | .lss=>some (.bool (decide (a < b)))
 | .leq=>some (.bool (decide (a≤b)))
 | .gtr=>some (.bool (decide (a > b)))
 | .geq=>some (.bool (decide (a ≥ b)))
 | .shl=>none
 | .shr=>none
def aEq (P:Program) (t:TypeId) (x y:V):Option Bool :=
 if plainT P 20 t then if hasShape P x t && hasShape P y t then beqV x y else none
 else match ul P t with
   | some (.pointer _)=>match x,y with
     | .ptr none,.ptr b=>some b.isNone
     | .ptr (some _),.ptr none=>some false
     | _,_=>none
   | some (.slice _)=>match x,y with
     | .slc none _,.slc b _=>some b.isNone
     | .slc (some _) _,.slc none _=>some false
     | _,_=>none
   | some (.map _ _)=>match x,y with
     | .map none,.map b=>some b.isNone
     | .map (some _),.map none=>some false
     | _,_=>none
   | some (.interface _)=>match x,y with
     | .nilIfc,.nilIfc=>some true
     | .nilIfc,.ifc _ _=>some false
     | .ifc _ _,.nilIfc=>some false
     | _,_=>none
   | some (.func _ _ _)=>match x,y with
     | .nilFn,.nilFn=>some true
     | .nilFn,.fn _ _ _=>some false
     | .fn _ _ _,.nilFn=>some false
     | _,_=>none
   | _=>none
theorem rel_fn {f:Fn} {a b:List V} {x:Value} (hx:rel P ι (.fn f a b) x):∃ a' b',x=.func f a'.toArray b'.toArray∧relL P ι a a'∧relL P ι b b':=by
 obtain ⟨h,_⟩:=rel_leaf_inv (by simp) (by simp) hx
 simp only [relC,List.cons.injEq,and_true] at h
 obtain ⟨a',b',h1,h2,h3⟩:=h
 exact ⟨a',b',h3,h1,h2⟩
theorem rel_ifc {t:TypeId} {v:V} {x:Value} (hx:rel P ι (.ifc t v) x):∃ y,x=.iface t y∧rel P ι v y∧v≠.und:=by
 obtain ⟨h,_⟩:=rel_leaf_inv (by simp) (by simp) hx
 simp only [relC,List.cons.injEq,and_true] at h
 obtain ⟨y,h1,h2,h3⟩:=h
 exact ⟨y,h3,.inr ⟨h1,h2⟩,by rintro rfl;simp [relC] at h2⟩
theorem rel_one {v:V} {x y:Value} (hv:∀ l,v≠.agg l) (hu:v≠.und) (hx:rel P ι v x) (hc:relC P ι v [x]→x=y):x=y:=hc (rel_leaf_inv hv hu hx).1
theorem rel_nilPtr {x:Value} (hx:rel P ι (.ptr none) x):x=.pointer none:=rel_one (by simp) (by simp) hx fun h=>by simpa [relC] using h
theorem rel_nilMap {x:Value} (hx:rel P ι (.map none) x):x=.map none:=rel_one (by simp) (by simp) hx fun h=>by simpa [relC] using h
theorem rel_nilIfc {x:Value} (hx:rel P ι .nilIfc x):x=.nilIface:=rel_one (by simp) (by simp) hx fun h=>by simpa [relC] using h
theorem rel_nilFn {x:Value} (hx:rel P ι .nilFn x):x=.nilFunc:=rel_one (by simp) (by simp) hx fun h=>by simpa [relC] using h
theorem rel_map {n:Nat} {x:Value} (hx:rel P ι (.map (some n)) x):∃ L,ι n=some L∧x=.map (some L.blk):=by
 obtain ⟨h,_⟩:=rel_leaf_inv (by simp) (by simp) hx
 simp only [relC,List.cons.injEq,and_true] at h
 exact h
theorem aEqNil_ok {t:TypeId} {x y:V} {a b:Value} {r:Bool} (hp:plainT P 20 t=false) (he:aEq P t x y=some r) (hx:rel P ι x a) (hy:rel P ι y b) (d:Nat) (W:World):(Op.equalIn (d + 1) t a b).run P W=.ok r W:=by
 unfold aEq at he
 rw [if_neg (by simp [hp])] at he
 split at he
 · rename_i e hu
   split at he <;> first | (cases he;done) | skip
   · rename_i b'
     obtain rfl:=rel_nilPtr hx
     cases b' with
     | none=>obtain rfl:=rel_nilPtr hy;cases he;simp only [Op.equalIn,Sem.run_bind,run_underlying' hu,Result.andThen_ok];rfl
     | some p=>obtain ⟨q,rfl,_⟩:=rel_ptr hy;cases he;simp only [Op.equalIn,Sem.run_bind,run_underlying' hu,Result.andThen_ok];rfl
   · obtain ⟨q,rfl,_⟩:=rel_ptr hx
     obtain rfl:=rel_nilPtr hy
     cases he;simp only [Op.equalIn,Sem.run_bind,run_underlying' hu,Result.andThen_ok];rfl
 · rename_i e hu
   split at he <;> first | (cases he;done) | skip
   · rename_i n b' m
     obtain ⟨rfl,rfl⟩:=rel_slc_nil hx
     cases b' with
     | none=>obtain ⟨rfl,rfl⟩:=rel_slc_nil hy;cases he;simp only [Op.equalIn,Sem.run_bind,run_underlying' hu,Result.andThen_ok];rfl
     | some p=>obtain ⟨p,s⟩:=p;obtain ⟨q,c,rfl,_⟩:=rel_slc hy;cases he;simp only [Op.equalIn,Sem.run_bind,run_underlying' hu,Result.andThen_ok];rfl
   · rename_i p n m
     obtain ⟨p,s⟩:=p
     obtain ⟨q,c,rfl,_⟩:=rel_slc hx
     obtain ⟨rfl,rfl⟩:=rel_slc_nil hy
     cases he;simp only [Op.equalIn,Sem.run_bind,run_underlying' hu,Result.andThen_ok];rfl
 · rename_i k e hu
   split at he <;> first | (cases he;done) | skip
   · rename_i b'
     obtain rfl:=rel_nilMap hx
     cases b' with
     | none=>obtain rfl:=rel_nilMap hy;cases he;simp only [Op.equalIn,Sem.run_bind,run_underlying' hu,Result.andThen_ok];rfl
     | some p=>obtain ⟨q,_,rfl⟩:=rel_map hy;cases he;simp only [Op.equalIn,Sem.run_bind,run_underlying' hu,Result.andThen_ok];rfl
   · obtain ⟨q,_,rfl⟩:=rel_map hx
     obtain rfl:=rel_nilMap hy
     cases he;simp only [Op.equalIn,Sem.run_bind,run_underlying' hu,Result.andThen_ok];rfl
 · rename_i ms hu
   split at he <;> first | (cases he;done) | skip
   · obtain rfl:=rel_nilIfc hx
     obtain rfl:=rel_nilIfc hy
     cases he;simp only [Op.equalIn,Sem.run_bind,run_underlying' hu,Result.andThen_ok];rfl
   · obtain rfl:=rel_nilIfc hx
     obtain ⟨q,rfl,_⟩:=rel_ifc hy
     cases he;simp only [Op.equalIn,Sem.run_bind,run_underlying' hu,Result.andThen_ok];rfl
   · obtain ⟨q,rfl,_⟩:=rel_ifc hx
     obtain rfl:=rel_nilIfc hy
     cases he;simp only [Op.equalIn,Sem.run_bind,run_underlying' hu,Result.andThen_ok];rfl
 · rename_i ps rs v hu
   split at he <;> first | (cases he;done) | skip
   · obtain rfl:=rel_nilFn hx
     obtain rfl:=rel_nilFn hy
     cases he;simp only [Op.equalIn,Sem.run_bind,run_underlying' hu,Result.andThen_ok];rfl
   · obtain rfl:=rel_nilFn hx
     obtain ⟨_,_,rfl,_⟩:=rel_fn hy
     cases he;simp only [Op.equalIn,Sem.run_bind,run_underlying' hu,Result.andThen_ok];rfl
   · obtain ⟨_,_,rfl,_⟩:=rel_fn hx
     obtain rfl:=rel_nilFn hy
     cases he;simp only [Op.equalIn,Sem.run_bind,run_underlying' hu,Result.andThen_ok];rfl
 · cases he
theorem aEq_ok (H:LayOK P) {t:TypeId} {x y:V} {a b:Value} {r:Bool} (he:aEq P t x y=some r) (hx:rel P ι x a) (hy:rel P ι y b) (W:World):(Op.equal t a b).run P W=.ok r W:=by
 cases hp:plainT P 20 t with
 | false=>exact aEqNil_ok hp he hx hy 9999 W
 | true =>
   unfold aEq at he
   rw [if_pos hp] at he
   split at he
   · rename_i hs
     simp only [Bool.and_eq_true] at hs
     exact run_equalIn' H x y t 20 Op.maxDepth a b r W hp (by decide) hs.1 hs.2 hx hy he
   · cases he
theorem inv_nilIface {x:V} (h:rel P ι x .nilIface):x=.nilIfc∨x=.und:=by
 rcases h with h | ⟨h1,h2⟩
 · exact .inr h
 · cases x with
   | ptr a=>cases a <;> simp [relC,Value.cells] at h2
   | slc a n=>cases a with
     | none=>simp [relC,Value.cells] at h2
     | some p=>obtain ⟨p,s⟩:=p;simp [relC,Value.cells] at h2
   | map a=>cases a <;> simp [relC,Value.cells] at h2
   | nilIfc=>exact .inl rfl
   | und=>exact .inr rfl
   | agg l=>simp [aggOK] at h1
   | _=>simp [relC,Value.cells] at h2
theorem inv_agg {x:V} {cs:Array Value} (h:rel P ι x (.agg cs)):(∃ l,x=.agg l)∨x=.und:=by
 rcases h with h | ⟨h1,h2⟩
 · exact .inr h
 · cases x <;> first | exact .inl ⟨_,rfl⟩ | exact .inr rfl | (simp [aggOK] at h1)
def strBin (op:BinOp) (a b:List UInt8):Option V :=
 match op with
 | .add=>if a.length + b.length≤9223372036854775807 then some (.str (a++b)) else none
 | .eql=>some (.bool (a == b))
 | .neq=>some (.bool (!(a == b)))
 | .lss=>some (.bool (Op.bytesLess a b))
 | .leq=>some (.bool (Op.bytesLess a b || (a == b)))
 | .gtr=>some (.bool (!(Op.bytesLess a b || (a == b))))
 | .geq=>some (.bool (!Op.bytesLess a b))
 | _=>none
def eqOk (P:Program) (t:TypeId) (x y:V) (const:Bool):Bool :=
 match x,y with
 | .nilIfc,.nilIfc=>const
 | .agg _,.agg _=>!(P.eqGuardType P.depth t)
 | .und,_=>false
 | _,.und=>false
 | _,_=>true
def aBin (P:Program) (op:BinOp) (t:TypeId) (x y:V) (const:Bool):Option V :=
 match x,y with
 | .int k a,.int k' b=>match op with
   | .shl=>if b < 0 then none else some (.int k (shlI k a b))
   | .shr=>if b < 0 then none else some (.int k (shrI k a b))
   | op=>if k=k' then intBin op k a b else none
 | .str a,.str b=>strBin op a b
 | x,y=>match op with
   | .eql=>if eqOk P t x y const then (aEq P t x y).map .bool else none
   | .neq=>if eqOk P t x y const then (aEq P t x y).map fun b=>.bool (!b) else none
   | _=>none
theorem strBin_ok {op:BinOp} {a b:List UInt8} {v:V} (hl:strBin op a b=some v) (W:World):∃ z,(Op.stringOp op ⟨a.toArray⟩ ⟨b.toArray⟩).run P W=.ok z W∧rel P ι v z:=by
 have ta:(⟨a.toArray⟩:ByteArray).toList=a:=by rw [ByteArray.toList_eq]
 have tb:(⟨b.toArray⟩:ByteArray).toList=b:=by rw [ByteArray.toList_eq]
 unfold strBin at hl
 unfold Op.stringOp
 simp only [ta,tb]
 split at hl <;> first | (cases hl;done) | skip
 · split at hl
   · rename_i hlen
     cases hl
     refine ⟨.string ⟨(a++b).toArray⟩,?_,mk_str _⟩
     have h1:¬ ((((⟨a.toArray⟩:ByteArray).size + (⟨b.toArray⟩:ByteArray).size:Nat):Int) > IntKind.i64.max):=by
       simp only [ByteArray.size,List.size_toArray,IntKind.max,IntKind.signed,IntKind.bits]
       simp;omega
     simp only [h1,if_false,Sem.run_pure]
     congr 2
   · cases hl
 all_goals (cases hl;exact ⟨_,rfl,mk_bool _⟩)
theorem run_eqGuard {op:BinOp} {t:TypeId} {xo yo:Operand} {x y:V} {a b:Value} (hc:eqOk P t x y (Region.isConst xo || Region.isConst yo)=true) (hx:rel P ι x a) (hy:rel P ι y b) (W:World) :
   (eqGuard op t xo yo a b).run P W=.ok () W:=by
 have nund:x≠.und∧y≠.und:=by
   constructor
   · rintro rfl;simp [eqOk] at hc
   · rintro rfl;cases x <;> simp [eqOk] at hc
 have nn:∀ {a b:Value},a=.nilIface→b=.nilIface→rel P ι x a→rel P ι y b→(Region.isConst xo || Region.isConst yo)=true:=by
   rintro _ _ rfl rfl hx hy
   rcases inv_nilIface hx with rfl | h
   · rcases inv_nilIface hy with rfl | h
     · simpa only [eqOk] using hc
     · exact absurd h nund.2
   · exact absurd h nund.1
 have aa:∀ {a b:Value} {cs ds:Array Value},a=.agg cs→b=.agg ds→rel P ι x a→rel P ι y b→P.eqGuardType P.depth t=false:=by
   rintro _ _ cs ds rfl rfl hx hy
   rcases inv_agg hx with ⟨l,rfl⟩ | h
   · rcases inv_agg hy with ⟨m,rfl⟩ | h
     · simpa only [eqOk,Bool.not_eq_true'] using hc
     · exact absurd h nund.2
   · exact absurd h nund.1
 have main:∀ o:BinOp,(o=.eql∨o=.neq)→(eqGuard o t xo yo a b).run P W=.ok () W:=by
   intro o ho
   have hm:(match o with | .eql=>true | .neq=>true | _=>false)=true:=by rcases ho with rfl | rfl <;> rfl
   rcases ho with rfl | rfl
   all_goals
     simp only [eqGuard,Bool.not_true,Bool.false_eq_true,if_false]
     cases a <;> cases b <;> first
       | rfl
       | (have:=nn rfl rfl hx hy
          cases xo <;> cases yo <;> first | (simp [Region.isConst] at this;done) | rfl)
       | (have:=aa rfl rfl hx hy
          simp [this])
 cases op <;> first | exact main _ (.inl rfl) | exact main _ (.inr rfl) | rfl
end Go.Ab
