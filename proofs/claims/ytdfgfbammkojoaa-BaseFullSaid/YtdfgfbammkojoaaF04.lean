import Derived.Test.YtdfgfbammkojoaaF03
set_option linter.unusedVariables false
set_option linter.unusedSimpArgs false
namespace Go.Ab
open Go Go.RowKit
variable {P:Program} {ι ι':Names} {W W':World} {B:Base} {h h':AH}
theorem relA_back {a:PA} {x:Addr} {L:Loc} (hl:Names.le ι ι') (ha:ι a.n=some L) (r:relA P ι' a x):relA P ι a x:=by
 obtain ⟨L',o,t,h1,h2,h3,h4⟩:=r
 rw [hl _ _ ha] at h1
 cases h1
 exact ⟨L,o,t,ha,h2,h3,h4⟩
theorem relRow_back {a:PA} {s c:Nat} {x:Addr} {L:Loc} (hl:Names.le ι ι') (ha:ι a.n=some L) (r:relRow P ι' a s c x):relRow P ι a s c x:=by
 obtain ⟨L',o,e,h1,h2,h3,h4,h5⟩:=r
 rw [hl _ _ ha] at h1
 cases h1
 exact ⟨L,o,e,ha,h2,h3,h4,h5⟩
mutual
theorem relC_back (hl:Names.le ι ι'):∀ (v:V) (cs cs':List Value),relC P ι v cs→relC P ι' v cs'→relC P ι v cs'
 | .agg l,cs,cs',r,r'=>by
   simp only [relC] at r r' ⊢
   exact relCs_back hl l cs cs' r r'
 | .bool _,_,_,_,r'=>by simpa only [relC] using r'
 | .int _ _,_,_,_,r'=>by simpa only [relC] using r'
 | .str _,_,_,_,r'=>by simpa only [relC] using r'
 | .ptr none,_,_,_,r'=>by simpa only [relC] using r'
 | .ptr (some a),_,_,r,r'=>by
   simp only [relC] at r r' ⊢
   obtain ⟨_,⟨L,_,_,h1,_⟩,_⟩:=r
   obtain ⟨x,h2,h3⟩:=r'
   exact ⟨x,relA_back hl h1 h2,h3⟩
 | .slc none _,_,_,_,r'=>by simpa only [relC] using r'
 | .slc (some (a,s)) n,_,_,r,r'=>by
   simp only [relC] at r r' ⊢
   obtain ⟨_,_,_,⟨L,h1⟩,_⟩:=r
   obtain ⟨x,c,h2,_,h3,h4⟩:=r'
   exact ⟨x,c,h2,⟨L,h1⟩,fun hc=>relRow_back hl h1 (h3 hc),h4⟩
 | .map none,_,_,_,r'=>by simpa only [relC] using r'
 | .map (some n),_,_,r,r'=>by
   simp only [relC] at r r' ⊢
   obtain ⟨L,h1,_⟩:=r
   obtain ⟨L',h2,h3⟩:=r'
   rw [hl _ _ h1] at h2;cases h2
   exact ⟨L,h1,h3⟩
 | .fn f a b,_,_,r,r'=>by
   simp only [relC] at r r' ⊢
   obtain ⟨a1,b1,h1,h2,_⟩:=r
   obtain ⟨a2,b2,h3,h4,h5⟩:=r'
   exact ⟨a2,b2,relL_back hl a a1 a2 h1 h3,relL_back hl b b1 b2 h2 h4,h5⟩
 | .nilFn,_,_,_,r'=>by simpa only [relC] using r'
 | .ifc t v,_,_,r,r'=>by
   simp only [relC] at r r' ⊢
   obtain ⟨y,h1,h2,_⟩:=r
   obtain ⟨y',h3,h4,h5⟩:=r'
   exact ⟨y',h3,relC_back hl v _ _ h2 h4,h5⟩
 | .nilIfc,_,_,_,r'=>by simpa only [relC] using r'
 | .tup l,_,_,r,r'=>by
   simp only [relC] at r r' ⊢
   obtain ⟨vs,h1,_⟩:=r
   obtain ⟨vs',h2,h3⟩:=r'
   exact ⟨vs',relL_back hl l vs vs' h1 h2,h3⟩
 | .und,_,_,r,_=>by simp only [relC] at r
theorem relCs_back (hl:Names.le ι ι'):∀ (l:List V) (cs cs':List Value),relCs P ι l cs→relCs P ι' l cs'→relCs P ι l cs'
 | [],_,_,_,r'=>by simpa only [relCs] using r'
 | v :: l,_,_,r,r'=>by
   simp only [relCs] at r r' ⊢
   obtain ⟨a,b,h1,h2,_⟩:=r
   obtain ⟨a',b',h3,h4,h5⟩:=r'
   exact ⟨a',b',relC_back hl v a a' h1 h3,relCs_back hl l b b' h2 h4,h5⟩
theorem relL_back (hl:Names.le ι ι'):∀ (l:List V) (xs xs':List Value),relL P ι l xs→relL P ι' l xs'→relL P ι l xs'
 | [],_,_,_,r'=>by simpa only [relL] using r'
 | v :: l,_,_,r,r'=>by
   simp only [relL] at r r' ⊢
   obtain ⟨y,ys,h1,h2,_⟩:=r
   obtain ⟨y',ys',h3,h4,h5⟩:=r'
   refine ⟨y',ys',?_,relL_back hl l ys ys' h2 h4,h5⟩
   rcases h3 with h3 | ⟨h3,h3'⟩
   · exact .inl h3
   · rcases h1 with h1 | ⟨_,h1⟩
     · exact .inl h1
     · exact .inr ⟨h3,relC_back hl v _ _ h1 h3'⟩
end
theorem rel_back (hl:Names.le ι ι') {v:V} {x x':Value} (r:rel P ι v x) (r':rel P ι' v x'):rel P ι v x':=by
 rcases r' with h3 | ⟨h3,h3'⟩
 · exact .inl h3
 · rcases r with h1 | ⟨_,h1⟩
   · exact .inl h1
   · exact .inr ⟨h3,relC_back hl v _ _ h1 h3'⟩
theorem relM_back (hl:Names.le ι ι') {kt et:TypeId}:∀ {es:List (V × V)} {xs xs':List MapEntry},relM P ι kt et es xs→relM P ι' kt et es xs'→relM P ι kt et es xs'
 | [],_,_,_,r'=>by simpa only [relM] using r'
 | (k,v) :: es,_,_,r,r'=>by
   simp only [relM] at r r' ⊢
   obtain ⟨e,rest,_,h2,h3,h4⟩:=r
   obtain ⟨e',rest',g1,g2,g3,g4⟩:=r'
   exact ⟨e',rest',g1,⟨rel_back hl h2.1 g2.1,g2.2⟩,⟨rel_back hl h3.1 g3.1,g3.2⟩,relM_back hl h4 g4⟩
theorem objR_back (hl:Names.le ι ι') {L:Loc} {o:AO} (r:objR P ι W L o) (r':objR P ι' W' L o):objR P ι W' L o:=by
 cases o with
 | cells own ty v =>
   obtain ⟨_,_,_,b0,_,_,_,_,_,_,r6,_⟩:=r
   obtain ⟨h1,h2,a,b,c,elem,fr,h3,h4,h5,h6,h7⟩:=r'
   exact ⟨h1,h2,a,b,c,elem,fr,h3,h4,h5,relC_back hl v b0 b r6 h6,h7⟩
 | mp kt et es =>
   obtain ⟨_,_,_,r2,_⟩:=r
   obtain ⟨xs,c,h1,h2,h3⟩:=r'
   exact ⟨xs,c,h1,relM_back hl r2 h2,h3⟩
 | mps kt et es st c =>
   obtain ⟨_,_,r2,_⟩:=r
   obtain ⟨xs,h1,h2,h3⟩:=r'
   exact ⟨xs,h1,relM_back hl r2 h2,h3⟩
 | sit s p=>exact r'
 | mit m a b c =>
   obtain ⟨_,_,r1,_⟩:=r
   obtain ⟨h0,mb,h1,h2⟩:=r'
   refine ⟨h0,mb,?_,h2⟩
   cases m with
   | none=>exact h1
   | some n =>
     obtain ⟨M,g1,_⟩:=r1
     obtain ⟨M',k1,k2⟩:=h1
     rw [hl _ _ g1] at k1;cases k1
     exact ⟨M,g1,k2⟩
theorem Fits.forget (F:Fits P B ι h W) (F':Fits P B ι' h' W') (hl:Names.le ι ι') (hs:∀ n,n < h.next→h'.m n=h.m n):Fits P B ι h W' where
 obj:=fun n o hm=>by
   obtain ⟨L,h1,h2⟩:=F.obj n o hm
   have hn:n < h.next:=by
     rcases Nat.lt_or_ge n h.next with k | k
     · exact k
     · rw [F.fresh n k] at h1;cases h1
   obtain ⟨L',h3,h4⟩:=F'.obj n o (by rw [hs n hn];exact hm)
   rw [hl _ _ h1] at h3;cases h3
   exact ⟨L,h1,objR_back hl h2 h4⟩
 fresh:=F.fresh
 apart:=F.apart
 free:=F.free
 frame:=F'.frame
 os:=F'.os
 tape:=F'.tape
 output:=F'.output
 size:=F'.size
mutual
def oldV (m:Nat→Bool):V→Bool
 | .bool _=>true
 | .int _ _=>true
 | .str _=>true
 | .ptr none=>true
 | .ptr (some a)=>m a.n
 | .slc none _=>true
 | .slc (some (a,_)) _=>m a.n
 | .agg l=>oldVs m l
 | .map none=>true
 | .map (some n)=>m n
 | .nilFn=>true
 | .ifc _ v=>oldV m v
 | .nilIfc=>true
 | .tup l=>oldVs m l
 | .fn _ _ _=>false
 | .und=>false
def oldVs (m:Nat→Bool):List V→Bool
 | []=>true
 | v :: l=>oldV m v && oldVs m l
end
mutual
theorem old_relC {m:Nat→Bool} (hm:∀ n,m n=true→∃ L,ι n=some L) (hl:Names.le ι ι'):∀ (v:V) (cs:List Value),oldV m v=true→relC P ι' v cs→relC P ι v cs
 | .agg l,cs,ho,r=>by
   simp only [oldV] at ho
   simp only [relC] at r ⊢
   exact old_relCs hm hl l cs ho r
 | .bool _,_,_,r=>by simpa only [relC] using r
 | .int _ _,_,_,r=>by simpa only [relC] using r
 | .str _,_,_,r=>by simpa only [relC] using r
 | .ptr none,_,_,r=>by simpa only [relC] using r
 | .ptr (some a),_,ho,r=>by
   simp only [oldV] at ho
   simp only [relC] at r ⊢
   obtain ⟨L,hL⟩:=hm _ ho
   obtain ⟨x,h2,h3⟩:=r
   exact ⟨x,relA_back hl hL h2,h3⟩
 | .slc none _,_,_,r=>by simpa only [relC] using r
 | .slc (some (a,s)) n,_,ho,r=>by
   simp only [oldV] at ho
   simp only [relC] at r ⊢
   obtain ⟨L,hL⟩:=hm _ ho
   obtain ⟨x,c,h2,_,h3,h4⟩:=r
   exact ⟨x,c,h2,⟨L,hL⟩,fun hc=>relRow_back hl hL (h3 hc),h4⟩
 | .map none,_,_,r=>by simpa only [relC] using r
 | .map (some n),_,ho,r=>by
   simp only [oldV] at ho
   simp only [relC] at r ⊢
   obtain ⟨L,hL⟩:=hm _ ho
   obtain ⟨L',h2,h3⟩:=r
   rw [hl _ _ hL] at h2;cases h2
   exact ⟨L,hL,h3⟩
 | .nilFn,_,_,r=>by simpa only [relC] using r
 | .ifc t v,_,ho,r=>by
   simp only [oldV] at ho
   simp only [relC] at r ⊢
   obtain ⟨y,h3,h4,h5⟩:=r
   exact ⟨y,h3,old_relC hm hl v _ ho h4,h5⟩
 | .nilIfc,_,_,r=>by simpa only [relC] using r
 | .tup l,_,ho,r=>by
   simp only [oldV] at ho
   simp only [relC] at r ⊢
   obtain ⟨vs,h2,h3⟩:=r
   exact ⟨vs,old_relL hm hl l vs ho h2,h3⟩
 | .fn _ _ _,_,ho,_=>by simp [oldV] at ho
 | .und,_,ho,_=>by simp [oldV] at ho
theorem old_relCs {m:Nat→Bool} (hm:∀ n,m n=true→∃ L,ι n=some L) (hl:Names.le ι ι'):∀ (l:List V) (cs:List Value),oldVs m l=true→relCs P ι' l cs→relCs P ι l cs
 | [],_,_,r=>by simpa only [relCs] using r
 | v :: l,_,ho,r=>by
   simp only [oldVs,Bool.and_eq_true] at ho
   simp only [relCs] at r ⊢
   obtain ⟨a,b,h3,h4,h5⟩:=r
   exact ⟨a,b,old_relC hm hl v a ho.1 h3,old_relCs hm hl l b ho.2 h4,h5⟩
theorem old_relL {m:Nat→Bool} (hm:∀ n,m n=true→∃ L,ι n=some L) (hl:Names.le ι ι'):∀ (l:List V) (xs:List Value),oldVs m l=true→relL P ι' l xs→relL P ι l xs
 | [],_,_,r=>by simpa only [relL] using r
 | v :: l,_,ho,r=>by
   simp only [oldVs,Bool.and_eq_true] at ho
   simp only [relL] at r ⊢
   obtain ⟨y,ys,h3,h4,h5⟩:=r
   refine ⟨y,ys,?_,old_relL hm hl l ys ho.2 h4,h5⟩
   rcases h3 with h3 | ⟨h3,h3'⟩
   · exact .inl h3
   · exact .inr ⟨h3,old_relC hm hl v _ ho.1 h3'⟩
end
theorem old_rel {m:Nat→Bool} (hm:∀ n,m n=true→∃ L,ι n=some L) (hl:Names.le ι ι') {v:V} {x:Value} (ho:oldV m v=true) (r:rel P ι' v x):rel P ι v x:=by
 rcases r with h3 | ⟨h3,h3'⟩
 · exact .inl h3
 · exact .inr ⟨h3,old_relC hm hl v _ ho h3'⟩
end Go.Ab
namespace Go.Ab
open Go Go.RowKit
variable {P:Program} {ι ι':Names} {W W':World} {B B':Base} {h h':AH}
theorem old_none:∀ {v:V} {cs:List Value},oldV (fun _=>false) v=true→relC P ι v cs→∀ ι',relC P ι' v cs:=by
 intro v cs ho r ι'
 have h0:relC P (fun _=>none) v cs:=old_relC (m:=fun _=>false) (fun _ h=>by cases h) (fun n L h=>by cases h) v cs ho r
 exact relC_le (fun n L h=>by cases h) v cs h0
def oldO:AO→Bool
 | .cells own _ v=>own && oldV (fun _=>false) v
 | .mp _ _ es=>es.isEmpty
 | _=>false
theorem oldO_obj {o:AO} {L:Loc} (ho:oldO o=true) (r:objR P ι W L o) (hb:W'.heap[L.blk]?=W.heap[L.blk]?):objR P ι' W' L o:=by
 cases o with
 | cells own ty v =>
   simp only [oldO,Bool.and_eq_true] at ho
   obtain ⟨h1,h2,a,b,c,elem,fr,h3,h4,h5,h6,h7⟩:=r
   exact ⟨h1,h2,a,b,c,elem,fr,by rw [hb];exact h3,h4,h5,old_none ho.2 h6 ι',h7⟩
 | mp kt et es =>
   simp only [oldO,List.isEmpty_iff] at ho
   subst ho
   obtain ⟨xs,c,h1,h2,h3⟩:=r
   exact ⟨xs,c,by rw [hb];exact h1,by simpa only [relM] using h2,h3⟩
 | _=>cases ho
def floOp (P:Program) (ρ:Operand→V) (op:Op):Option (AO × (Nat→V)) :=
 match op with
 | .alloc t=>match zeroV P t with
   | some z=>if hasShape P z t && oldV (fun _=>false) z then some (.cells true (.one t) z,fun n=>.ptr (some ⟨n,.one t,[]⟩)) else none
   | none=>none
 | .makeSlice t l c=>match aMakeSlice P AH0 t (ρ l) (ρ c) with
   | some (.slc (some (⟨_,.row e,[]⟩,0)) m,h)=>match h.m 0 with
     | some o=>if oldO o then some (o,fun n=>.slc (some (⟨n,.row e,[]⟩,0)) m) else none
     | none=>none
   | _=>none
 | _=>none
def MkOk (o:AO) (mk:Nat→V):Prop:=(∃ t own z,o=.cells own (.one t) z∧mk=fun n=>.ptr (some ⟨n,.one t,[]⟩))∨(∃ e own z m,o=.cells own (.row e) z∧mk=fun n=>.slc (some (⟨n,.row e,[]⟩,0)) m)
theorem floOp_spec {ρ:Operand→V} {op:Op} {o:AO} {mk:Nat→V} (hf:floOp P ρ op=some (o,mk)):(∀ h,aop P ρ h op=some (mk h.next,h.make o))∧o.isOwn=true∧oldO o=true∧MkOk o mk:=by
 unfold floOp at hf
 split at hf
 · rename_i t
   split at hf
   · rename_i z hz
     split at hf
     · rename_i hc
       rw [Bool.and_eq_true] at hc
       simp only [Option.some.injEq,Prod.mk.injEq] at hf
       obtain ⟨rfl,rfl⟩:=hf
       refine ⟨fun h=>by simp only [aop,aAlloc,hz,aNew,hc.1,if_true],rfl,by simp only [oldO,hc.2,Bool.and_self],.inl ⟨t,true,z,rfl,rfl⟩⟩
     · cases hf
   · cases hf
 · rename_i t l c
   split at hf
   · rename_i n e m h hm
     split at hf
     · rename_i o' ho
       split at hf
       · rename_i hold
         simp only [Option.some.injEq,Prod.mk.injEq] at hf
         obtain ⟨rfl,rfl⟩:=hf
         have key:∃ z,o'=.cells true (.row e) z∧∀ h,aMakeSlice P h t (ρ l) (ρ c)=some (.slc (some (⟨h.next,.row e,[]⟩,0)) m,h.make o'):=by
           unfold aMakeSlice at hm
           split at hm
           · rename_i k1 n1 k2 n2 e1 e2
             split at hm
             · rename_i e' hu
               split at hm
               · rename_i z hz
                 split at hm
                 · rename_i hcond
                   simp only [Option.some.injEq,Prod.mk.injEq,V.slc.injEq,PA.mk.injEq,BTy.row.injEq,and_true] at hm
                   obtain ⟨⟨⟨rfl,rfl⟩,rfl⟩,rfl⟩:=hm
                   have:o'=.cells true (.row e') (.agg (List.replicate n1.toNat z)):=by
                     simp only [AH.make,AH0,if_true,Option.some.injEq] at ho
                     exact ho.symm
                   subst this
                   refine ⟨_,rfl,fun h=>?_⟩
                   unfold aMakeSlice
                   rw [e1,e2]
                   simp only [hu,hz]
                   rw [if_pos hcond]
                 · cases hm
               · cases hm
             · cases hm
           · cases hm
         obtain ⟨z,rfl,hk⟩:=key
         exact ⟨fun h=>by simp only [aop];exact hk h,rfl,hold,.inr ⟨e,true,z,m,rfl,rfl⟩⟩
       · cases hf
     · cases hf
   · cases hf
 · cases hf
theorem mk_name {o:AO} {mk:Nat→V} (hk:MkOk o mk) {n n':Nat} {L:Loc} {x:Value} (h1:ι n=some L) (h2:ι' n'=some L) (r:rel P ι (mk n) x):rel P ι' (mk n') x:=by
 rcases hk with ⟨t,own,z,rfl,rfl⟩ | ⟨e,own,z,m,rfl,rfl⟩
 · obtain ⟨y,rfl,L',o,t',g1,g2,g3,g4⟩:=rel_ptr r
   rw [h1] at g1;cases g1
   exact mk_ptr ⟨L,o,t',h2,g2,g3,g4⟩
 · obtain ⟨y,cap,rfl,g1,g2⟩:=rel_slc r
   refine mk_slc g1 ⟨L,h2⟩ fun hc=>?_
   obtain ⟨L',o,e',k1,k2,k3,k4,k5⟩:=g2 hc
   rw [h1] at k1;cases k1
   exact ⟨L,o,e',h2,k2,k3,k4,k5⟩
structure Flo (P:Program) (Bf:Base) (o:AO) (mk:Nat→V) (x:Value) (b:Nat):Prop where
 inF:Bf.F b
 obj:∃ L:Loc,L.blk=b∧(∀ W,W.heap[b]?=Bf.W0.heap[b]?→∀ ι,objR P ι W L o)∧∀ (ι:Names) n,ι n=some L→rel P ι (mk n) x
theorem Flo.keep {Bf Bf':Base} {o:AO} {mk:Nat→V} {x:Value} {b:Nat} (f:Flo P Bf o mk x b) (h1:Bf'.F b) (h2:Bf'.W0.heap[b]?=Bf.W0.heap[b]?):Flo P Bf' o mk x b:=by
 obtain ⟨L,g1,g2,g3⟩:=f.obj
 exact ⟨h1,L,g1,fun W hW=>g2 W (hW.trans h2),g3⟩
def Base.drop (B:Base) (b:Nat):Base:=⟨fun c=>B.F c∧c≠b,B.W0⟩
theorem drop_le {B B':Base} (hb:BaseLe B B') (b:Nat):BaseLe (B.drop b) (B'.drop b) :=
 ⟨fun c hc=>⟨⟨(hb.sub c hc.1).1,hc.2⟩,(hb.sub c hc.1).2⟩,hb.os,hb.tape,hb.output,hb.size⟩
theorem le_drop {B B':Base} (hb:BaseLe B B') {b:Nat} (hn:¬ B.F b):BaseLe B (B'.drop b) :=
 ⟨fun c hc=>⟨⟨(hb.sub c hc).1,fun e=>hn (e▸hc)⟩,(hb.sub c hc).2⟩,hb.os,hb.tape,hb.output,hb.size⟩
def OwnBut (h0 h:AH):Prop:=∀ n o,h.m n=some o→o.isOwn=true∨∃ o',h0.m n=some o'∧o'.isOwn=false
def Base.hold (B:Base) (ι:Names) (h:AH) (W:World):Base:=⟨fun b=>B.F b∨∃ n o L,h.m n=some o∧o.isOwn=false∧ι n=some L∧b=L.blk,W⟩
theorem Fits.hold (F:Fits P B ι h W):Fits P (B.hold ι h W) ι h W∧BaseLe B (B.hold ι h W)∧∀ n,(∃ o',h.m n=some o'∧o'.isOwn=false)→∃ L,ι n=some L∧(B.hold ι h W).F L.blk:=by
 refine ⟨⟨F.obj,F.fresh,F.apart,fun n o L hm how hL hb=>?_,fun b hb=>⟨rfl,?_⟩,rfl,rfl,rfl,Nat.le_refl _⟩,⟨fun c hc=>⟨.inl hc,(F.frame c hc).1⟩,F.os,F.tape,F.output,F.size⟩,fun n q=>?_⟩
 · rcases hb with hb | ⟨n',o',L',k1,k2,k3,k4⟩
   · exact F.free n o L hm how hL hb
   · have hne:n≠n':=fun e=>by subst e;rw [hm] at k1;cases k1;rw [how] at k2;cases k2
     exact F.apart n n' o o' L L' hm k1 hne how hL k3 k4
 · rcases hb with hb | ⟨n',o',L',k1,k2,k3,k4⟩
   · exact (F.frame b hb).2
   · obtain ⟨L2,g1,g2⟩:=F.obj n' o' k1
     rw [k3] at g1;cases g1
     rw [k4];exact objR_blk g2
 · obtain ⟨o',k1,k2⟩:=q
   obtain ⟨L,g1,_⟩:=F.obj n o' k1
   exact ⟨L,g1,.inr ⟨n,o',L,k1,k2,g1,rfl⟩⟩
theorem Fits.land (F:Fits P B ι h W) {o:AO} {mk:Nat→V} {x:Value} {b:Nat} (hown:∀ n o L,h.m n=some o→ι n=some L→o.isOwn=true∨L.blk≠b) (f:Flo P B o mk x b) :
   ∃ L,Names.le ι (Names.add ι h.next L)∧Fits P (B.drop b) (Names.add ι h.next L) (h.make o) W∧rel P (Names.add ι h.next L) (mk h.next) x:=by
 obtain ⟨L,g1,g2,g3⟩:=f.obj
 have hle:Names.le ι (Names.add ι h.next L):=Names.le_add (F.fresh _ (Nat.le_refl _))
 have hold:∀ k o',h.m k=some o'→k≠h.next:=by
   intro k o' hk e
   obtain ⟨L',h1,_⟩:=F.obj k o' hk
   rw [F.fresh k (by omega)] at h1;cases h1
 have nm:∀ k,k≠h.next→Names.add ι h.next L k=ι k:=fun k hk=>by simp [Names.add,hk]
 have nn:Names.add ι h.next L h.next=some L:=by simp [Names.add]
 have notb:∀ k o' L',h.m k=some o'→ι k=some L'→L'.blk≠b:=fun k o' L' hk hL e=>(hown k o' L' hk hL).elim (fun q=>F.free k o' L' hk q hL (e▸f.inF)) fun q=>q e
 refine ⟨L,hle,⟨?_,?_,?_,?_,?_,F.os,F.tape,F.output,F.size⟩,g3 _ _ nn⟩
 · intro n o' hm
   by_cases hn:n=h.next
   · subst hn
     simp only [AH.make,if_true,Option.some.injEq] at hm
     subst hm
     exact ⟨L,nn,g2 W (F.frame b f.inF).1 _⟩
   · simp only [AH.make,if_neg hn] at hm
     obtain ⟨L',h1,h2⟩:=F.obj n o' hm
     exact ⟨L',by rw [nm n hn];exact h1,objR_keep hle rfl h2⟩
 · intro n hn
   have hn:h.next + 1≤n:=hn
   rw [nm n (by omega)]
   exact F.fresh n (by omega)
 · intro n n' o1 o2 L1 L2 h1 h2 hne ho e1 e2
   by_cases hn:n=h.next
   · subst hn
     have hn':n'≠h.next:=fun e=>hne e.symm
     simp only [AH.make,if_neg hn'] at h2
     rw [nn] at e1;cases e1
     rw [nm n' hn'] at e2
     rw [g1]
     exact fun e=>notb n' o2 L2 h2 e2 e.symm
   · simp only [AH.make,if_neg hn] at h1
     rw [nm n hn] at e1
     by_cases hn':n'=h.next
     · subst hn'
       rw [nn] at e2;cases e2
       rw [g1]
       exact notb n o1 L1 h1 e1
     · simp only [AH.make,if_neg hn'] at h2
       rw [nm n' hn'] at e2
       exact F.apart n n' o1 o2 L1 L2 h1 h2 hne ho e1 e2
 · intro n o1 L1 h1 ho e1 hF
   by_cases hn:n=h.next
   · subst hn
     rw [nn] at e1;cases e1
     exact hF.2 g1
   · simp only [AH.make,if_neg hn] at h1
     rw [nm n hn] at e1
     exact F.free n o1 L1 h1 ho e1 hF.1
 · intro c hc
   exact F.frame c hc.1
theorem Fits.float (K:Ok P) (F:Fits P B ι h W) {ρ:Operand→V} {ρ':Operand→Value} (hρ:∀ x,rel P ι (ρ x) (ρ' x)) {op:Oper} {o:AO} {mk:Nat→V} (hf:floOp P ρ op.op=some (o,mk)) :
   ∃ x W' b,(execOp ρ' op).run P W=.ok (.value x) W'∧¬ B.F b∧(∀ c,B.F c→c≠b)∧Fits P ⟨fun c=>B.F c∨c=b,W'⟩ ι h W'∧Flo P ⟨fun c=>B.F c∨c=b,W'⟩ o mk x b ∧
     (∀ c,B.F c→W'.heap[c]?=B.W0.heap[c]?)∧W'.os=B.W0.os∧W'.tape=B.W0.tape∧W'.output=B.W0.output∧B.W0.heap.size≤W'.heap.size:=by
 obtain ⟨f1,f2,f3,f4⟩:=floOp_spec hf
 obtain ⟨ι1,W',nx,k1,k2,k3,k4⟩:=aop_ok K F hρ (f1 h)
 rcases k4 with ⟨x,rfl,hx⟩ | ⟨_,hbad⟩
 · have hm:(h.make o).m h.next=some o:=by simp [AH.make]
   obtain ⟨L,hL,hobj⟩:=k3.obj _ _ hm
   have nb:¬ B.F L.blk:=k3.free _ _ L hm f2 hL
   have hsame:∀ n,n < h.next→(h.make o).m n=h.m n:=fun n hn=>by simp [AH.make,show n≠h.next by omega]
   have F2:Fits P B ι h W':=F.forget k3 k2 hsame
   have hlt:=objR_blk hobj
   refine ⟨x,W',L.blk,k1,nb,fun c hc e=>nb (e▸hc),?_,⟨.inr rfl,L,rfl,fun W2 h2 ι2=>oldO_obj f3 hobj h2,fun ι2 n h2=>mk_name f4 hL h2 hx⟩,fun c hc=>(F2.frame c hc).1,F2.os,F2.tape,F2.output,F2.size⟩
   refine ⟨F2.obj,F2.fresh,F2.apart,?_,?_,rfl,rfl,rfl,Nat.le_refl _⟩
   · intro n o' L' h1 h2 h3 h4
     rcases h4 with h4 | h4
     · exact F2.free n o' L' h1 h2 h3 h4
     · have hn:n < h.next:=by
         obtain ⟨L'',g1,_⟩:=F.obj n o' h1
         rcases Nat.lt_or_ge n h.next with k | k
         · exact k
         · rw [F.fresh n k] at g1;cases g1
       have h1':(h.make o).m n=some o':=by rw [hsame n hn];exact h1
       exact k3.apart n h.next o' o L' L h1' hm (by omega) h2 (k2 _ _ h3) hL h4
   · intro c hc
     rcases hc with hc | hc
     · exact ⟨rfl,(F2.frame c hc).2⟩
     · exact ⟨rfl,by rw [hc];exact hlt⟩
 · exfalso
   rcases f4 with ⟨t,own,z,_,rfl⟩ | ⟨e,own,z,m,_,rfl⟩ <;> cases hbad
end Go.Ab
namespace Go.Ab
open Go Go.RowKit
variable {P:Program} {ι:Names} {W:World} {B:Base} {h:AH}
def vis (fl:List Nat) (l:Nat) (S:Nat→Bool):Nat→Bool:=fun i=>S i && (!fl.contains i || S l)
structure FlOk (P:Program) (N:Nat) (ops vops:Array Oper) (fl:List Nat) (l:Nat) (vals:Nat→V) (e0:Env) (ob:Nat→AO) (mk:Nat→Nat→V) (ds:Nat→Tmp):Prop where
 size:vops.size=ops.size
 same:∀ j o,ops[j]?=some o→j ∉ fl→vops[j]?=some o
 flt:∀ i∈fl,∃ o a',ops[i]?=some o∧vops[i]?=some { o with after:=a' }∧o.guard=none∧o.dst=some (ds i)∧(∃ ei,Below ei (envK N vops vals e0 (fun _=>true) i)∧floOp P (opnd ei) o.op=some (ob i,mk i)) ∧
   (∀ e∈a',Region.binds .any e=true→(e.on∈fl→e.on < i)∧((∃ ol,ops[l]?=some ol∧∃ el∈ol.after,Region.binds .any el=true∧el.on=e.on)∨∃ el∈o.after,Region.binds .any el=true∧el.on=e.on))
 slot:∀ i∈fl,ds i < N∧Env.get e0 (ds i)=.und∧∀ (j:Nat) (o:Oper),ops[j]?=some o→o.dst=some (ds i)→j=i
 looks:∀ i∈fl,∀ o:Oper,ops[i]?=some o→∀ t∈o.looksAt ops,∀ i'∈fl,ds i'≠t
 lnot:l ∉ fl
 lsz:l < ops.size
 ldep:∀ i∈fl,∃ ol,ops[l]?=some ol∧∃ e∈ol.after,Region.binds .any e=true∧e.on=i
 oth:∀ j o,ops[j]?=some o→j ∉ fl→j≠l→∀ e∈o.after,Region.binds .any e=true→e.on∈fl→∀ S,Closed ops S→(∀ e∈o.after,Region.binds .any e=true→S e.on=true)→S l=true
 sorted:fl.Pairwise (· < ·)
section
variable {N:Nat} {ops vops:Array Oper} {fl:List Nat} {l:Nat} {vals:Nat→V} {e0:Env} {ob:Nat→AO} {mk:Nat→Nat→V} {ds:Nat→Tmp} {mem:(Nat→Bool)→AH} {D:(Nat→Bool)→List AD} {ι0:Names}
theorem vis_of {S:Nat→Bool} {i:Nat} (h1:S i=true) (h2:i∈fl→S l=true):vis fl l S i=true:=by
 unfold vis
 rw [h1]
 by_cases hi:i∈fl
 · simp [h2 hi]
 · simp [hi]
theorem of_vis {S:Nat→Bool} {i:Nat} (h:vis fl l S i=true):S i=true∧(i∈fl→S l=true):=by
 unfold vis at h
 simp only [Bool.and_eq_true,Bool.or_eq_true,Bool.not_eq_true',List.contains_eq_mem,decide_eq_false_iff_not] at h
 exact ⟨h.1,fun hi=>h.2.resolve_left fun hn=>hn hi⟩
theorem FlOk.edges (X:FlOk P N ops vops fl l vals e0 ob mk ds) {S:Nat→Bool} (hc:Closed ops S) {j:Nat} {o:Oper} (ho:ops[j]?=some o) (hj:j ∉ fl) (hS:∀ e∈o.after,Region.binds .any e=true→S e.on=true) (hl:j=l→S l=true) :
   ∀ e∈o.after,Region.binds .any e=true→vis fl l S e.on=true:=by
 intro e he hb
 refine vis_of (hS e he hb) fun hf=>?_
 by_cases hjl:j=l
 · exact hl hjl
 · exact X.oth j o ho hj hjl e he hb hf S hc hS
theorem FlOk.closed (X:FlOk P N ops vops fl l vals e0 ob mk ds) {S:Nat→Bool} (hc:Closed ops S):Closed vops (vis fl l S):=by
 intro i o ho hi e he hb
 obtain ⟨h1,h2⟩:=of_vis hi
 by_cases hf:i∈fl
 · obtain ⟨o',a',k1,k2,_,_,_,k6⟩:=X.flt i hf
   rw [k2] at ho;cases ho
   have hsl:=h2 hf
   refine vis_of ?_ fun _=>hsl
   obtain ⟨k7,⟨ol,k8,el,k9,k10,k11⟩ | ⟨el,k9,k10,k11⟩⟩:=k6 e he hb
   · rw [← k11]
     exact hc l ol k8 hsl el k9 k10
   · rw [← k11]
     exact hc i o' k1 h1 el k9 k10
 · have ho':ops[i]?=some o:=by
     have hlt:i < ops.size:=by have:=(Array.getElem?_eq_some_iff.1 ho).1;rw [X.size] at this;exact this
     have:=X.same i ops[i] (by simp [hlt]) hf
     rw [ho] at this;cases this;simp [hlt]
   exact X.edges hc ho' hf (fun e he hb=>hc i o ho' h1 e he hb) (fun e=>e▸h1) e he hb
theorem FlOk.ready (X:FlOk P N ops vops fl l vals e0 ob mk ds) {S:Nat→Bool} (hc:Closed ops S) {j:Nat} (hr:Ready ops S j) (hj:j ∉ fl) (hjl:j≠l) (hjs:j < ops.size):Ready vops (vis fl l S) j:=by
 refine ⟨by unfold vis;rw [hr.1];rfl,fun o ho e he hb=>?_⟩
 have hoj:ops[j]?=some ops[j]:=by simp [hjs]
 rw [X.same j _ hoj hj] at ho;cases ho
 exact X.edges hc hoj hj (fun e he hb=>hr.2 _ hoj e he hb) (fun e=>absurd e hjl) e he hb
theorem vis_add {S:Nat→Bool} {j:Nat} (hj:j ∉ fl) (hjl:j≠l):vis fl l (addS S j)=addS (vis fl l S) j:=by
 funext i
 unfold vis
 rw [addS_ne S (Ne.symm hjl)]
 by_cases hi:i=j
 · subst hi
   rw [addS_self,addS_self]
   simp [hj]
 · rw [addS_ne S hi,addS_ne _ hi]
theorem vis_flo {S:Nat→Bool} {i:Nat} (hi:i∈fl) (hS:S l=false) (hil:i≠l):vis fl l (addS S i)=vis fl l S:=by
 funext k
 unfold vis
 rw [addS_ne S (Ne.symm hil)]
 by_cases hk:k=i
 · subst hk
   simp [hi,hS]
 · rw [addS_ne S hk]
theorem relE_void {D:List AD} {e:Env} {a:Act} {d:Option Tmp} {x:Value} (r:relE P ι N D e a) (hd:∀ t,d=some t→Env.get e t=.und):relE P ι N D e (a.put d x):=by
 cases d with
 | none=>exact r
 | some t =>
   refine ⟨by simp [Act.put,r.1],r.2.1,fun u=>?_⟩
   by_cases hu:u=t
   · subst hu;rw [hd u rfl];exact .inl rfl
   · have:=r.2.2 u
     rw [← getD_put_ne (a:=a) (o:={ (default:Oper) with dst:=some t }) (d:=u) (by simpa using fun e=>hu e.symm) x] at this
     exact this
theorem put_self' {a:Act} {d:Tmp} (x:Value) (hx:a.tmps.getD d undef=x):a.put (some d) x=a:=by
 have:a.tmps.setIfInBounds d x=a.tmps:=by
   apply Array.ext_getElem?
   intro i
   rw [Array.getElem?_setIfInBounds]
   split
   · rename_i e
     subst e
     by_cases hd:d < a.tmps.size
     · rw [if_pos hd]
       rw [Array.getD_eq_getD_getElem?] at hx
       simp [hd] at hx ⊢
       exact hx.symm
     · rw [if_neg hd,Array.getElem?_eq_none (Nat.le_of_not_lt hd)]
   · rfl
 unfold Act.put
 simp only [this]
theorem envK_none {S:Nat→Bool} {t:Nat} (h:∀ i,S i=true→(vops[i]?).bind (·.dst)≠some t):∀ k,Env.get (envK N vops vals e0 S k) t=Env.get e0 t
 | 0=>rfl
 | k + 1=>by
   rw [envK_succ,if_neg (by rintro ⟨h1,h2,_⟩;exact h k h1 h2)]
   exact envK_none h k
def FInv (P:Program) (B:Base) (ι0:Names) (N:Nat) (D:(Nat→Bool)→List AD) (vops:Array Oper) (fl:List Nat) (l:Nat) (ob:Nat→AO) (mk:Nat→Nat→V) (ds:Nat→Tmp) (vals:Nat→V) (mem:(Nat→Bool)→AH) (e0:Env) (S:Nat→Bool) (a:Act) (W:World):Prop :=
 ∃ Bf,BaseLe B Bf∧Good P Bf ι0 N D vops vals mem e0 (vis fl l S) a W∧(S l=false→∃ bl:Nat→Nat,(∀ i∈fl,S i=true→¬ B.F (bl i)∧Flo P Bf (ob i) (mk i) (a.tmps.getD (ds i) undef) (bl i)) ∧
   ∀ i∈fl,∀ i'∈fl,S i=true→S i'=true→i≠i'→bl i≠bl i')
theorem wp_keep {o:Oper} {a:Act} {W:World} {K:Act→World→Prop} {Q:Exit→Act→World→Prop} {d:Tmp} (hd:o.dst≠some d) (hh:o.wp P a W K Q):o.wp P a W (fun a' w'=>K a' w'∧a'.tmps.getD d undef=a.tmps.getD d undef) Q:=by
 unfold Oper.wp at *
 generalize (execOp a.eval o).run P W=r at *
 have g:=fun x=>getD_put_ne (a:=a) hd x
 cases r with
 | ok n w' =>
   cases n <;> simp only [Oper.upon] at hh ⊢ <;>
     first
       | exact ⟨hh,g _⟩
       | exact ⟨hh,getD_put_ne (a:={ a with defers:=_ :: a.defers }) hd _⟩
       | exact Calls.mono hh (fun e w'' he=>by cases e <;> first | exact ⟨he,g _⟩ | exact he)
       | exact Rows.mono hh (fun _ _ he=>⟨he,g _⟩)
 | halt x w'=>cases x <;> simp only [Oper.upon] at hh ⊢ <;> exact hh
theorem wpOp_keep {j:Nat} {o:Oper} (ho:ops[j]?=some o) {a:Act} {W:World} {K:Act→World→Prop} {Q:Exit→Act→World→Prop} {d:Tmp} (hd:o.dst≠some d) (hh:wpOp P ops Q j K a W):wpOp P ops Q j (fun a' w'=>K a' w'∧a'.tmps.getD d undef=a.tmps.getD d undef) a W:=by
 unfold wpOp at *
 simp only [ho] at hh ⊢
 split
 · rename_i hw;simp only [hw,if_true] at hh;exact hh.imp (wp_keep hd) id
 · rename_i hw;simp only [hw] at hh;exact ⟨hh,getD_put_ne hd _⟩
theorem wpOp_keeps {j:Nat} {o:Oper} (ho:ops[j]?=some o) {a:Act} {W:World} {K:Act→World→Prop} {Q:Exit→Act→World→Prop} {ds:Nat→Tmp}:∀ (fl:List Nat),(∀ i∈fl,o.dst≠some (ds i))→wpOp P ops Q j K a W →
   wpOp P ops Q j (fun a' w'=>K a' w'∧∀ i∈fl,a'.tmps.getD (ds i) undef=a.tmps.getD (ds i) undef) a W
 | [],_,hh=>wpOp_mono (fun _ _ h=>⟨h,fun _ h=>by cases h⟩) hh
 | i :: fl,hd,hh=>wpOp_mono (fun _ _ h=>⟨h.1.1,fun i' hi'=>by
     rcases List.mem_cons.1 hi' with rfl | hi'
     · exact h.2
     · exact h.1.2 i' hi'⟩) (wpOp_keep ho (hd i (by simp)) (wpOp_keeps ho fl (fun i' hi'=>hd i' (by simp [hi'])) hh))
theorem wpOp_same (hs:∀ i:Nat,(vops[i]?).bind (fun o:Oper=>o.dst)=(ops[i]?).bind (fun o:Oper=>o.dst)) {j:Nat} {o:Oper} (h1:ops[j]?=some o) (h2:vops[j]?=some o) {a:Act} {W:World} {K:Act→World→Prop} {Q:Exit→Act→World→Prop} (hh:wpOp P vops Q j K a W):wpOp P ops Q j K a W:=by
 unfold wpOp at *
 simp only [h1,h2] at hh ⊢
 have:yielded vops a.tmps=yielded ops a.tmps:=by
   funext i
   unfold yielded
   rw [hs i]
 rw [this] at hh
 exact hh
theorem FlOk.dsts (X:FlOk P N ops vops fl l vals e0 ob mk ds) (i:Nat):(vops[i]?).bind (·.dst)=(ops[i]?).bind (·.dst):=by
 rcases Nat.lt_or_ge i ops.size with hi | hi
 · by_cases hf:i∈fl
   · obtain ⟨o,a',k1,k2,_⟩:=X.flt i hf
     rw [k1,k2];rfl
   · have ho:ops[i]?=some ops[i]:=by simp [hi]
     rw [X.same i _ ho hf,ho]
 · rw [Array.getElem?_eq_none hi,Array.getElem?_eq_none (by rw [X.size];exact hi)]
theorem land_all (K:Ok P) (hp:pairsB vops=true) (hlit:∀ i,litAt N vops i=none) (X:FlOk P N ops vops fl l vals e0 ob mk ds) {S:Nat→Bool} (hco:Closed ops S) (hS:∀ i∈fl,S i=true) (hdeps:∀ ol,ops[l]?=some ol→∀ e∈ol.after,Region.binds .any e=true→S e.on=true)
   {held:Nat→Prop} (hheld:∀ n,held n→∃ L,ι0 n=some L∧B.F L.blk) (hlex:∀ i∈fl,∀ T,Closed vops T→Ready vops T i→(∀ n o,(mem T).m n=some o→o.isOwn=true∨held n)∧vals i=mk i (mem T).next∧mem (addS T i)=(mem T).make (ob i)∧D (addS T i)=D T) {a:Act} {W:World} {bl:Nat→Nat}
   (hne:∀ i∈fl,∀ i'∈fl,i≠i'→bl i≠bl i') :
   ∀ (todo dn:List Nat) (Bf:Base),fl=dn++todo→BaseLe B Bf→(∀ i∈todo,¬ B.F (bl i)∧Flo P Bf (ob i) (mk i) (a.tmps.getD (ds i) undef) (bl i))→Closed vops (fun i=>S i && (!fl.contains i || dn.contains i)) →
   Good P Bf ι0 N D vops vals mem e0 (fun i=>S i && (!fl.contains i || dn.contains i)) a W→∃ Bf',BaseLe B Bf'∧Good P Bf' ι0 N D vops vals mem e0 S a W∧Closed vops S
 | [],dn,Bf,hfl,hb,_,hc,g=>by
   have:(fun i=>S i && (!fl.contains i || dn.contains i))=S:=by
     funext i
     rw [List.append_nil] at hfl
     subst hfl
     cases S i <;> cases fl.contains i <;> rfl
   rw [this] at g hc
   exact ⟨Bf,hb,g,hc⟩
 | i :: todo,dn,Bf,hfl,hb,hfo,hc,g=>by
   have him:i∈fl:=by rw [hfl];simp
   have hsort:=X.sorted
   rw [hfl] at hsort
   have hdn:∀ k∈dn,k < i:=fun k hk=>(List.pairwise_append.1 hsort).2.2 k hk i (by simp)
   have hni:i ∉ dn:=fun h=>Nat.lt_irrefl _ (hdn i h)
   have hnt:i ∉ todo:=fun h=>Nat.lt_irrefl _ ((List.pairwise_cons.1 (List.pairwise_append.1 hsort).2.1).1 i h)
   obtain ⟨o,a',k1,k2,k3,k4,k5,k6⟩:=X.flt i him
   let T:Nat→Bool:=fun i=>S i && (!fl.contains i || dn.contains i)
   have hTi:T i=false:=by
     show (S i && (!fl.contains i || dn.contains i))=false
     simp [him,hni]
   have hadd:addS T i=fun k=>S k && (!fl.contains k || (dn++[i]).contains k):=by
     funext k
     by_cases hk:k=i
     · subst hk
       rw [addS_self]
       simp [hS k him]
     · rw [addS_ne T hk]
       show (S k && (!fl.contains k || dn.contains k))=_
       simp [hk]
   have hr:Ready vops T i:=by
     refine ⟨hTi,fun o' ho' e he hbb=>?_⟩
     rw [k2] at ho';cases ho'
     obtain ⟨k7,k8⟩:=k6 e he hbb
     show (S e.on && (!fl.contains e.on || dn.contains e.on))=true
     have h1:S e.on=true:=by
       rcases k8 with ⟨ol,k8,el,k9,k10,k11⟩ | ⟨el,k9,k10,k11⟩
       · rw [← k11];exact hdeps ol k8 el k9 k10
       · rw [← k11];exact hco i o k1 (hS i him) el k9 k10
     rw [h1]
     by_cases hf:e.on∈fl
     · have:=k7 hf
       have hm:e.on∈dn:=by
         rw [hfl] at hf
         rcases List.mem_append.1 hf with hf | hf
         · exact hf
         · rcases List.mem_cons.1 hf with hf | hf
           · omega
           · have:=(List.pairwise_cons.1 (List.pairwise_append.1 hsort).2.1).1 _ hf
             omega
       simp [hm]
     · simp [hf]
   obtain ⟨y1,y2,y3,y4⟩:=hlex i him T hc hr
   obtain ⟨fn,ff⟩:=hfo i (by simp)
   obtain ⟨ι,B',hle,hB,F,r,_⟩:=g.ex
   have ff':Flo P B' (ob i) (mk i) (a.tmps.getD (ds i) undef) (bl i):=ff.keep (hB.sub _ ff.inF).1 (hB.sub _ ff.inF).2
   obtain ⟨L,g1,g2,g3⟩:=Fits.land F (fun n o L hm hL=>(y1 n o hm).imp id fun hh=>by
     obtain ⟨L',k1,k2⟩:=hheld n hh
     have:=hle _ _ k1
     rw [hL] at this;cases this
     exact fun e=>fn (e▸k2)) ff'
   have hx:rel P (Names.add ι (mem T).next L) (vals i) (a.tmps.getD (ds i) undef):=by rw [y2];exact g3
   have hre:=relE_add hp hc hr k2 (relE_le g1 r) hx
   have hput:a.put ({ o with after:=a' }:Oper).dst (a.tmps.getD (ds i) undef)=a:=by
     show a.put o.dst _=a
     rw [k4];exact put_self' _ rfl
   rw [hput] at hre
   have gg:Good P (Bf.drop (bl i)) ι0 N D vops vals mem e0 (addS T i) a W :=
     ⟨_,B'.drop (bl i),Names.le_trans hle g1,drop_le hB _,by rw [y3];exact g2,by rw [y4];exact hre,fun i d s dd hl=>by rw [hlit i] at hl;cases hl⟩
   have hcl:Closed vops (addS T i):=hc.add hr
   rw [hadd] at gg hcl
   refine land_all K hp hlit X hco hS hdeps hheld hlex hne todo (dn++[i]) (Bf.drop (bl i)) (by rw [hfl];simp) (le_drop hb fn) (fun k hk=>?_) hcl gg
   obtain ⟨h1,h2⟩:=hfo k (by simp [hk])
   have hkm:k∈fl:=by rw [hfl];simp [hk]
   have hki:k≠i:=fun e=>hnt (e▸hk)
   exact ⟨h1,h2.keep ⟨h2.inF,hne k hkm i him hki⟩ rfl⟩
theorem finv_step (K:Ok P) (hpo:pairsB ops=true) (hp:pairsB vops=true) (hlit:∀ i,litAt N vops i=none) (X:FlOk P N ops vops fl l vals e0 ob mk ds) {S:Nat→Bool} {j:Nat} (hlexj:j ∉ fl→OpLex P N vops vals mem D e0 j)
   {held:Nat→Prop} (hheld:∀ n,held n→∃ L,ι0 n=some L∧B.F L.blk) (hflo:j=l→∀ i∈fl,∀ T,Closed vops T→Ready vops T i→(∀ n o,(mem T).m n=some o→o.isOwn=true∨held n)∧vals i=mk i (mem T).next∧mem (addS T i)=(mem T).make (ob i)∧D (addS T i)=D T)
   (hjs:j < ops.size) (hc:Closed ops S) (hr:Ready ops S j) {a:Act} {W:World} (g:FInv P B ι0 N D vops fl l ob mk ds vals mem e0 S a W) (Q:Exit→Act→World→Prop) :
   wpOp P ops Q j (FInv P B ι0 N D vops fl l ob mk ds vals mem e0 (addS S j)) a W:=by
 obtain ⟨Bf,hb,gd,hfo⟩:=g
 have hoj:ops[j]?=some ops[j]:=by simp [hjs]
 by_cases hf:j∈fl
 · -- a variable is made
   have hjl:j≠l:=fun e=>X.lnot (e▸hf)
   have hSl:S l=false:=by
     cases hs:S l with
     | false=>rfl
     | true =>
       obtain ⟨ol,g1,e,g2,g3,g4⟩:=X.ldep j hf
       have:=hc l ol g1 hs e g2 g3
       rw [g4,hr.1] at this;cases this
   obtain ⟨o,a',k1,k2,k3,k4,⟨ei,k5',k5⟩,k6⟩:=X.flt j hf
   obtain ⟨s1,s2,s3⟩:=X.slot j hf
   obtain ⟨ι,B',hle,hB,F,r,_⟩:=gd.ex
   have eqK:∀ S k,envK N vops vals e0 S k=envK N ops vals e0 S k:=by
     intro S k
     induction k with
     | zero=>rfl
     | succ k ih=>simp only [envK,ih,X.dsts k]
   have re:relE P ι N (D (vis fl l S)) (Env.keep (o.looksAt ops) ei) a:=by
     refine relE_of r fun t=>?_
     by_cases ht:t∈o.looksAt ops
     · rw [get_keep_mem _ _ _ ht]
       have h1:Env.get (envK N vops vals e0 (vis fl l S) vops.size) t=Env.get (envK N ops vals e0 (fun _=>true) j) t:=by
         rw [eqK,X.size,envK_same (S:=vis fl l S) (S':=S) t ops.size (fun i hi hd=>?_),envK_looks hpo hc hr k1 ht]
         have hnf:i ∉ fl:=by
           intro hif
           obtain ⟨oi,_,g1,_,_,g4,_⟩:=X.flt i hif
           rw [g1] at hd
           have hd:oi.dst=some t:=hd
           rw [g4] at hd
           exact X.looks j hf o k1 t ht i hif (by simpa using hd)
         unfold vis
         simp [hnf]
       rcases k5' t with h | h
       · exact .inl h
       · right;rw [h,eqK,h1]
     · left
       have:∀ l:List Nat,t ∉ l→Env.get (Env.keep l ei) t=.und:=by
         intro l
         induction l with
         | nil=>intro _;rfl
         | cons u l ih =>
           intro hu
           simp only [Env.keep,List.map_cons,Env.get]
           rw [if_neg (by rintro rfl;exact hu (by simp))]
           exact ih fun h=>hu (by simp [h])
       exact this _ ht
   have hρ:∀ x,rel P ι (opnd (Env.keep (o.looksAt ops) ei) x) (a.eval x):=rel_opnd re
   have k5:floOp P (opnd (Env.keep (o.looksAt ops) ei)) o.op=some (ob j,mk j):=by
     rw [← k5]
     have hk:=fun x hx=>opnd_keep (ops:=ops) (e:=ei) (o:=o) x hx
     unfold floOp
     cases hop:o.op <;> first | rfl | skip
     rename_i t l c
     rw [hop] at hk
     simp only [Op.operands] at hk
     simp only
     rw [hk l (by simp),hk c (by simp)]
   obtain ⟨x,W',b,m1,m2,m3,m4,m5,m6,m7,m8,m9,m10⟩:=Fits.float K F hρ k5
   unfold wpOp
   rw [k1]
   simp only
   rw [if_pos (by simp [Region.wanted,k3])]
   left
   unfold Oper.wp
   rw [m1,Oper.upon_value]
   have nbf:¬ Bf.F b:=fun h=>m2 (hB.sub b h).1
   have hBf:BaseLe Bf ⟨fun c=>Bf.F c∨c=b,W'⟩:=⟨fun c hc=>⟨.inl hc,(m6 c (hB.sub c hc).1).trans (hB.sub c hc).2⟩,m7.trans hB.os,m8.trans hB.tape,m9.trans hB.output,Nat.le_trans hB.size m10⟩
   have hBB:BaseLe ⟨fun c=>Bf.F c∨c=b,W'⟩ ⟨fun c=>B'.F c∨c=b,W'⟩:=⟨fun c hc=>⟨hc.imp (fun h=>(hB.sub c h).1) id,rfl⟩,rfl,rfl,rfl,Nat.le_refl _⟩
   have hund:Env.get (envK N vops vals e0 (vis fl l S) vops.size) (ds j)=.und:=by
     rw [envK_none (fun i hi=>?_) _,s2]
     rw [X.dsts i]
     intro hd
     cases hoi:ops[i]? with
     | none=>rw [hoi] at hd;cases hd
     | some o' =>
       rw [hoi] at hd
       have:=s3 i o' hoi hd
       subst this
       rw [(of_vis hi).2 hf |>.symm.trans hSl |>.symm] at hSl
       have:=(of_vis hi).1
       rw [hr.1] at this;cases this
   refine ⟨_,hb.trans hBf,?_,fun _=>?_⟩
   · rw [vis_flo hf hSl hjl]
     refine ⟨ι,_,hle,hBB,m4,?_,fun i d s dd hl=>by rw [hlit i] at hl;cases hl⟩
     rw [k4]
     exact relE_void r fun t ht=>by cases ht;exact hund
   · obtain ⟨bl,q1,q2⟩:=hfo hSl
     refine ⟨fun i=>if i=j then b else bl i,fun i hi hs=>?_,fun i hi i' hi' hs hs' hne=>?_⟩
     · show ¬ B.F (if i=j then b else bl i)∧Flo P _ (ob i) (mk i) _ (if i=j then b else bl i)
       by_cases hij:i=j
       · subst hij
         rw [if_pos rfl]
         refine ⟨fun h=>nbf (hb.sub b h).1,?_⟩
         have hx:(a.put o.dst x).tmps.getD (ds i) undef=x:=by
           rw [k4]
           simp only [Act.put,Array.getD_eq_getD_getElem?]
           have:=r.1
           simp [this,s1]
         rw [hx]
         exact m5.keep (.inr rfl) rfl
       · rw [if_neg hij]
         rw [addS_ne S hij] at hs
         obtain ⟨h1,h2⟩:=q1 i hi hs
         refine ⟨h1,?_⟩
         have hx:(a.put o.dst x).tmps.getD (ds i) undef=a.tmps.getD (ds i) undef:=by
           refine getD_put_ne (fun hd=>?_) x
           exact hij ((X.slot i hi).2.2 j o k1 hd).symm
         rw [hx]
         exact h2.keep (.inl h2.inF) (m6 _ (hB.sub _ h2.inF).1 |>.trans (hB.sub _ h2.inF).2)
     · show (if i=j then b else bl i)≠(if i'=j then b else bl i')
       by_cases hij:i=j
       · subst hij
         rw [if_pos rfl,if_neg (Ne.symm hne)]
         rw [addS_ne S (Ne.symm hne)] at hs'
         exact fun e=>nbf (e▸(q1 i' hi' hs').2.inF)
       · rw [if_neg hij]
         rw [addS_ne S hij] at hs
         by_cases hij':i'=j
         · rw [if_pos hij']
           exact fun e=>nbf (e▸(q1 i hi hs).2.inF)
         · rw [if_neg hij']
           rw [addS_ne S hij'] at hs'
           exact q2 i hi i' hi' hs hs' hne
 · have hvj:=X.same j _ hoj hf
   by_cases hjl:j=l
   · -- the variables get their names,and the operation goes on
     subst hjl
     obtain ⟨bl,q1,q2⟩:=hfo hr.1
     have hS:∀ i∈fl,S i=true:=fun i hi=>by
       obtain ⟨ol,g1,e,g2,g3,g4⟩:=X.ldep i hi
       rw [← g4];exact hr.2 ol g1 e g2 g3
     have hvis:vis fl j S=fun i=>S i && (!fl.contains i || ([]:List Nat).contains i):=by
       funext i
       unfold vis
       rw [hr.1];rfl
     have hcv:=X.closed hc
     rw [hvis] at gd hcv
     obtain ⟨Bf',b1,b2,b3⟩:=land_all (B:=B) K hp hlit X hc hS (fun ol ho e he hb=>hr.2 ol ho e he hb) hheld (hflo rfl) (fun i hi i' hi' hne=>q2 i hi i' hi' (hS i hi) (hS i' hi') hne) fl [] Bf (by simp) hb (fun i hi=>q1 i hi (hS i hi)) hcv gd
     have hrv:Ready vops S j:=⟨hr.1,fun o ho e he hb=>by rw [hvj] at ho;cases ho;exact hr.2 _ hoj e he hb⟩
     have st:=good_step K hp (hlexj hf) b3 hrv b2 Q
     refine wpOp_mono (fun a' w' g'=>⟨Bf',b1,?_,fun h=>by rw [addS_self] at h;cases h⟩) (wpOp_same X.dsts hoj hvj st)
     have:vis fl j (addS S j)=addS S j:=by
       funext i
       unfold vis
       rw [addS_self];simp
     rw [this];exact g'
   · have st:=good_step K hp (hlexj hf) (X.closed hc) (X.ready hc hr hf hjl hjs) gd Q
     have st2:=wpOp_keeps (ds:=ds) hoj fl (fun i hi hd=>hf ((X.slot i hi).2.2 j _ hoj hd▸hi)) (wpOp_same X.dsts hoj hvj st)
     refine wpOp_mono (fun a' w' g'=>⟨Bf,hb,by rw [vis_add hf hjl];exact g'.1,fun h=>?_⟩) st2
     rw [addS_ne S (Ne.symm hjl)] at h
     obtain ⟨bl,q1,q2⟩:=hfo h
     have ne:∀ i∈fl,i≠j:=fun i hi e=>hf (e▸hi)
     refine ⟨bl,fun i hi hs=>?_,fun i hi i' hi' hs hs' hne=>?_⟩
     · rw [addS_ne S (ne i hi)] at hs
       rw [g'.2 i hi]
       exact q1 i hi hs
     · rw [addS_ne S (ne i hi)] at hs
       rw [addS_ne S (ne i' hi')] at hs'
       exact q2 i hi i' hi' hs hs' hne
theorem family_of {I:(Nat→Bool)→Act→World→Prop} {Q:Exit→Act→World→Prop} (hbk:backB ops=true) (step:∀ S j a W,j < ops.size→Closed ops S→Ready ops S j→I S a W→wpOp P ops Q j (I (addS S j)) a W)
   (hQ:∀ S a w,(∀ i,i < ops.size→S i=true)→I S a w→Q .normal a w) :
   ∀ (fuel:Nat) (listed:Array Bool) (a:Act) (W:World),listed.size=ops.size→left ops.size listed≤fuel→Closed ops (setOf listed)→I (setOf listed) a W→wpAny P .any ops Q fuel listed a W
 | 0,listed,a,W,hs,hf,hc,g=>by
   have hnil:Region.ready .any ops listed=[]:=by
     cases hr:Region.ready .any ops listed with
     | nil=>rfl
     | cons j l =>
       exfalso
       obtain ⟨hj,hS,_⟩:=ready_of hs (j:=j) (by rw [hr];simp)
       have h0:left ops.size listed=0:=by omega
       unfold left at h0
       rw [List.countP_eq_zero] at h0
       have:=h0 j (List.mem_range.2 hj)
       unfold setOf at hS
       simp [hS] at this
   exact ⟨hnil,hQ _ _ _ (all_listed hbk hs hnil) g⟩
 | fuel + 1,listed,a,W,hs,hf,hc,g=>by
   refine ⟨fun hnil=>hQ _ _ _ (all_listed hbk hs hnil) g,fun j hj=>?_⟩
   obtain ⟨hjs,hr⟩:=ready_of hs hj
   refine wpOp_mono ?_ (step _ j a W hjs hc hr g)
   intro a' w' g'
   have hset:=setOf_set (listed:=listed) (j:=j) (by omega)
   refine family_of hbk step hQ fuel _ a' w' (by simp [hs]) ?_ ?_ ?_
   · have:=left_set (n:=ops.size) hs hjs hr.1
     omega
   · rw [hset];exact hc.add hr
   · rw [hset];exact g'
theorem fdraws_ok (K:Ok P) (hm:P.follows .mixedOrders=true) (hpo:pairsB ops=true) (hp:pairsB vops=true) (hbk:backB ops=true) (hlit:∀ i,litAt N vops i=none) (X:FlOk P N ops vops fl l vals e0 ob mk ds) (hlex:∀ j,j < ops.size→OpLex P N vops vals mem D e0 j)
   (hflo:∀ i∈fl,∀ T,Closed vops T→Ready vops T i→OwnBut (mem fun _=>false) (mem T)∧vals i=mk i (mem T).next∧mem (addS T i)=(mem T).make (ob i)∧D (addS T i)=D T) {hfin:AH}
   (hf:∀ S,(∀ i,i < ops.size→S i=true)→mem S=hfin) {a:Act} {D0:List AD} (hD0:∀ S,D S=D0) (F:Fits P B ι (mem fun _=>false) W) (r:relE P ι N D0 e0 a) {id:Nat} {e:Env} (he:Below e (envK N vops vals e0 (fun _=>true) vops.size))
   {Q:AExit→Env→AH→Prop} (hQ:Q .normal e hfin):(Code.region id ops true).wp P (Post P B ι N D0 Q) a W:=by
 have hS0:setOf (Array.replicate ops.size false)=fun _=>false:=by
   funext i
   unfold setOf
   by_cases hi:i < ops.size <;> simp [hi]
 have hnone:∀ k,envK N vops vals e0 (fun _=>false) k=e0:=by
   intro k
   induction k with
   | zero=>rfl
   | succ k ih=>simp only [envK,cond_false,ih]
 refine wp_region_any hm (family_of (I:=FInv P (B.hold ι (mem fun _=>false) W) ι N D vops fl l ob mk ds vals mem e0) hbk (fun S j a W hjs hc hr g=>finv_step K hpo hp hlit X (fun _=>hlex j hjs) F.hold.2.2 (fun _=>hflo) hjs hc hr g _) ?_ ops.size _ a _ (by simp) ?_ ?_ ?_)
 · intro S a w hS g
   obtain ⟨Bf,h0,g,_⟩:=g
   obtain ⟨ι',B',h1,h2,h3,h4,h5⟩:=g.ex
   have hv:∀ i,i < ops.size→vis fl l S i=true:=fun i hi=>vis_of (hS i hi) fun _=>hS l X.lsz
   refine ⟨ι',hfin,e,.normal,h1,?_,?_,trivial,hQ⟩
   · rw [hf _ hv] at h3;exact h3.rebase (F.hold.2.1.trans (h0.trans h2))
   · rw [hD0] at h4
     refine relE_of h4 fun t=>?_
     rw [envK_same (S:=vis fl l S) (S':=fun _=>true) t vops.size fun i hi _=>hv i (by rw [← X.size];exact hi)]
     exact he t
 · unfold left
   refine Nat.le_trans List.countP_le_length ?_
   simp
 · rw [hS0];intro i o ho h;cases h
 · rw [hS0]
   have hv0:vis fl l (fun _=>false)=fun _=>false:=by funext i;rfl
   refine ⟨_,BaseLe.refl _,⟨ι,_,Names.le_refl _,BaseLe.refl _,by rw [hv0];exact F.hold.1.drew _,?_,?_⟩,fun _=>⟨fun _=>0,(fun i _ h=>nomatch h),(fun i _ i' _ h=>nomatch h)⟩⟩
   · rw [hv0,hnone,hD0];exact r
   · intro i d s dd _ h;rw [hv0] at h;cases h
end
end Go.Ab
namespace Go.Ab
open Go Go.RowKit
variable {P:Program} {ι:Names} {W:World} {B:Base} {h:AH} {D:List AD}
def newAfter (ol o:Oper) (i:Nat):Array Edge:=(o.after++ol.after).filter fun e=>decide (e.on < i)
def seen (ops:Array Oper) (fl:List Nat) (ol:Oper) (i:Nat) (o:Oper):Oper:=if i∈fl then { o with after:=newAfter ol o i } else o
def vopsOf (ops:Array Oper) (fl:List Nat) (l:Nat):Array Oper:=(ops.toList.mapIdx fun i o=>seen ops fl (ops.toList.getD l default) i o).toArray
theorem vopsOf_get {ops:Array Oper} {fl:List Nat} {l i:Nat}:(vopsOf ops fl l)[i]?=(ops[i]?).map fun o=>seen ops fl (ops.toList.getD l default) i o:=by
 unfold vopsOf
 simp
theorem vopsOf_size {ops:Array Oper} {fl:List Nat} {l:Nat}:(vopsOf ops fl l).size=ops.size:=by unfold vopsOf;simp
def flB (N:Nat) (ops:Array Oper) (fl:List Nat) (l:Nat):Bool :=
 decide (l < ops.size) && !fl.contains l && decide (fl.Pairwise (· < ·)) &&
 (fl.all fun i=>match ops[i]? with
   | some o=>o.guard.isNone && (match o.dst with
     | some d=>decide (d < N) && (List.range ops.size).all fun j=>j == i || (ops[j]?).bind (·.dst) != some d
     | none=>false) && (o.looksAt ops).all (fun t=>fl.all fun i'=>(ops[i']?).bind (·.dst) != some t) && (match ops[l]? with
     | some ol=>ol.after.any fun e=>Region.binds .any e && e.on == i
     | none=>false)
   | none=>false) &&
 ((List.range ops.size).all fun j=>fl.contains j || j == l || (match ops[j]? with
   | some o=>!(o.after.any fun e=>Region.binds .any e && fl.contains e.on) || isBef (befs ops) l j
   | none=>true))
def clr (N:Nat) (ops:Array Oper):List Nat→Env→Env
 | [],e=>e
 | i :: fl,e=>clr N ops fl (Env.put N ((ops[i]?).bind (·.dst)) .und e)
def vc3 (P:Program) (N:Nat) (vops:Array Oper) (b:List (List Nat)) (es fl:List Nat):Nat→List Oper→List AH→AH→List (Nat × (AH→Prop))→(Env→AH→Prop)→Env→Prop
 | _,[],_,h,_,k,e=>k e h
 | j,o :: rest,gs,h,pend,k,e =>
   bsel (fl.contains j) (match floOp P (opnd e) o.op with
     | some (ob,mk)=>OwnBut (gs.getD 0 AH0) h∧andL (later gs.length (h.make ob) pend) (vc3 P N vops b es fl (j + 1) rest (gs++[h.make ob]) (h.make ob) pend k (e.put N o.dst (mk h.next)))
     | none=>False)
   (bsel (es.contains j) (vcE P o.op e h fun v h'=>andL (later gs.length h' pend) (vc3 P N vops b es fl (j + 1) rest (gs++[h']) h' pend k (e.put N o.dst v)))
   (bsel (memless o.op) (vcQ P o.op e h fun v=>vc3 P N vops b es fl (j + 1) rest gs h pend k (e.put N o.dst v))
   (vcQ P o.op e h fun v=>andL (stages (loOf b es j) gs fun g=>yields P o.op e g g v)
     (vc3 P N vops b es fl (j + 1) rest gs h ((hiOf b es j,fun g=>yields P o.op e g g v) :: pend) k (e.put N o.dst v)))))
section
variable {N:Nat} {vops:Array Oper} {e0:Env} {es fl:List Nat}
def Op3 (P:Program) (N:Nat) (vops:Array Oper) (es fl:List Nat) (e0:Env) (vs:List V) (gs:List AH) (pend:List (Nat × (AH→Prop))) (i:Nat):Prop :=
 ∃ o e,vops[i]?=some o∧(∀ vals,agrees vals vs→Below e (envK N vops vals e0 (fun _=>true) i)) ∧
   if i∈fl then rank es i + 1 < gs.length∧OwnBut (gs.getD 0 AH0) (gs.getD (rank es i) AH0)∧∃ ob mk,floOp P (opnd e) o.op=some (ob,mk)∧vs.getD i .und=mk (gs.getD (rank es i) AH0).next ∧
     gs.getD (rank es i + 1) AH0=(gs.getD (rank es i) AH0).make ob
   else if i∈es then rank es i + 1 < gs.length∧yields P o.op e (gs.getD (rank es i) AH0) (gs.getD (rank es i + 1) AH0) (vs.getD i .und)
   else (memless o.op=true∧∃ g,yields P o.op e g g (vs.getD i .und)) ∨
     ((∀ k,loOf (befs vops) es i≤k→k≤hiOf (befs vops) es i→k < gs.length→yields P o.op e (gs.getD k AH0) (gs.getD k AH0) (vs.getD i .und)) ∧
       (hiOf (befs vops) es i,fun g=>yields P o.op e g g (vs.getD i .und))∈pend)
structure Upto3 (P:Program) (N:Nat) (vops:Array Oper) (es fl:List Nat) (e0:Env) (vs:List V) (gs:List AH) (h:AH) (pend:List (Nat × (AH→Prop))) (e:Env):Prop where
 below:∀ vals,agrees vals vs→Below e (envK N vops vals e0 (fun _=>true) vs.length)
 lex:∀ i,i < vs.length→Op3 P N vops es fl e0 vs gs pend i
 len:gs.length=rank es vs.length + 1
 cur:gs.getD (rank es vs.length) AH0=h
theorem run3_ok (hsub:∀ i∈fl,i∈es) (hp:es.Pairwise fun e f=>e < f∧isBef (befs vops) e f=true) {k:Env→AH→Prop}:∀ (l:List Oper) (vs:List V) (gs:List AH) (h:AH) (pend:List (Nat × (AH→Prop))) (e:Env),
   (∀ i,i < l.length→vops[vs.length + i]?=l[i]?)→Upto3 P N vops es fl e0 vs gs h pend e→vc3 P N vops (befs vops) es fl vs.length l gs h pend k e →
   ∃ vs' gs' h' pend' e',vs'.length=vs.length + l.length∧gs'.getD 0 AH0=gs.getD 0 AH0∧Upto3 P N vops es fl e0 vs' gs' h' pend' e'∧k e' h'
 | [],vs,gs,h,pend,e,_,u,hv=>⟨vs,gs,h,pend,e,rfl,rfl,u,hv⟩
 | o :: l,vs,gs,h,pend,e,hi,u,hv=>by
   have ho:vops[vs.length]?=some o:=by have:=hi 0 (by simp);simpa using this
   have next:∀ (v:V),(∀ i,i < l.length→vops[(vs++[v]).length + i]?=l[i]?):=by
     intro v i hi'
     rw [List.length_append,List.length_singleton]
     have:=hi (i + 1) (by simp;omega);simpa [Nat.add_assoc,Nat.add_comm 1 i] using this
   have hl1:∀ v:V,(vs++[v]).length=vs.length + 1:=fun v=>by simp
   have bel:∀ v:V,∀ vals,agrees vals (vs++[v])→Below (Env.put N o.dst v e) (envK N vops vals e0 (fun _=>true) (vs++[v]).length):=by
     intro v vals ha
     obtain ⟨a1,a2⟩:=agrees_snoc ha
     rw [List.length_append,List.length_singleton,← a2]
     exact below_put ho (u.below vals a1)
   have hg0:0 < gs.length:=by have:=u.len;omega
   have old:∀ (v:V) (pend':List (Nat × (AH→Prop))),(∀ p∈pend,p∈pend')→∀ i,i < vs.length→Op3 P N vops es fl e0 (vs++[v]) gs pend' i:=by
     intro v pend' hpp i hi'
     obtain ⟨oi,ei,q1,q2,q3⟩:=u.lex i hi'
     refine ⟨oi,ei,q1,fun vals ha=>q2 vals (agrees_snoc ha).1,?_⟩
     rw [getD_snoc vs v V.und hi']
     split
     · rename_i hm;rw [if_pos hm] at q3;exact q3
     · rename_i hm
       rw [if_neg hm] at q3
       split
       · rename_i hm;rw [if_pos hm] at q3;exact q3
       · rename_i hm
         rw [if_neg hm] at q3
         rcases q3 with q3 | ⟨q3,q4⟩
         · exact .inl q3
         · exact .inr ⟨q3,hpp _ q4⟩
   have more:∀ (v:V) (h':AH),(∀ q∈later gs.length h' pend,q)→∀ i,i < vs.length→Op3 P N vops es fl e0 (vs++[v]) (gs++[h']) pend i:=by
     intro v h' hq i hi'
     obtain ⟨oi,ei,q1,q2,q3⟩:=u.lex i hi'
     refine ⟨oi,ei,q1,fun vals ha=>q2 vals (agrees_snoc ha).1,?_⟩
     rw [getD_snoc vs v V.und hi']
     split
     · rename_i hm
       rw [if_pos hm] at q3
       refine ⟨by simp;omega,?_⟩
       rw [getD_snoc gs h' AH0 (k:=0) hg0,getD_snoc gs h' AH0 (k:=rank es i) (by omega),getD_snoc gs h' AH0 q3.1]
       exact q3.2
     · rename_i hm
       rw [if_neg hm] at q3
       split
       · rename_i hm
         rw [if_pos hm] at q3
         refine ⟨by simp;omega,?_⟩
         rw [getD_snoc gs h' AH0 (by omega),getD_snoc gs h' AH0 q3.1]
         exact q3.2
       · rename_i hm
         rw [if_neg hm] at q3
         rcases q3 with q3 | ⟨q3,q4⟩
         · exact .inl q3
         · refine .inr ⟨fun k k1 k2 k3=>?_,q4⟩
           rcases Nat.lt_or_ge k gs.length with hk | hk
           · rw [getD_snoc gs h' AH0 hk];exact q3 k k1 k2 hk
           · have:k=gs.length:=by simp at k3;omega
             subst this
             rw [getD_last gs h' AH0]
             refine hq (yields P oi.op ei h' h' (vs.getD i .und)) ?_
             exact List.mem_map.2 ⟨_,List.mem_filter.2 ⟨q4,by simpa using k2⟩,rfl⟩
   -- one that writes
   have write:∀ (v:V) (h':AH),vs.length∈es→(∀ q∈later gs.length h' pend,q)→Op3 P N vops es fl e0 (vs++[v]) (gs++[h']) pend vs.length →
       vc3 P N vops (befs vops) es fl (vs.length + 1) l (gs++[h']) h' pend k (e.put N o.dst v)→∃ vs' gs' h2 pend' e',vs'.length=vs.length + (o :: l).length∧gs'.getD 0 AH0=gs.getD 0 AH0∧Upto3 P N vops es fl e0 vs' gs' h2 pend' e'∧k e' h2:=by
     intro v h' hmem hl hop hv
     have hrk:rank es (vs.length + 1)=rank es vs.length + 1:=by rw [rank_succ hp,if_pos hmem]
     have hu:Upto3 P N vops es fl e0 (vs++[v]) (gs++[h']) h' pend (Env.put N o.dst v e):=by
       refine ⟨bel v,fun i hi'=>?_,?_,?_⟩
       · rcases Nat.lt_or_ge i vs.length with hlt | hge
         · exact more v h' hl i hlt
         · obtain rfl:i=vs.length:=by rw [hl1] at hi';omega
           exact hop
       · rw [hl1,hrk];simp [u.len]
       · rw [hl1,hrk,← u.len,getD_last]
     obtain ⟨vs',gs',h2,pend',e',r1,r2,r3,r4⟩:=run3_ok hsub hp l (vs++[v]) (gs++[h']) h' pend _ (next v) hu (by rw [hl1];exact hv)
     exact ⟨vs',gs',h2,pend',e',by rw [r1,hl1];simp;omega,by rw [r2,getD_snoc gs h' AH0 hg0],r3,r4⟩
   simp only [vc3] at hv
   cases hfl:fl.contains vs.length with
   | true =>
     rw [hfl] at hv
     try simp only [bsel_true] at hv
     have hmf:vs.length∈fl:=by simpa using hfl
     split at hv
     · rename_i ob mk hfo
       obtain ⟨how,hv⟩:=hv
       obtain ⟨hl,hv⟩:=andL_all hv
       refine write _ _ (hsub _ hmf) hl ?_ hv
       refine ⟨o,e,ho,fun vals ha=>u.below vals (agrees_snoc ha).1,?_⟩
       rw [if_pos hmf,getD_last vs _ V.und]
       have:=u.len
       have e1:(gs++[h.make ob]).getD (rank es vs.length) AH0=h:=by rw [getD_snoc gs _ AH0 (by omega)];exact u.cur
       refine ⟨by simp;omega,by rw [e1,getD_snoc gs _ AH0 (k:=0) hg0];exact how,ob,mk,hfo,by rw [e1],?_⟩
       rw [e1,show rank es vs.length + 1=gs.length from u.len.symm,getD_last gs _ AH0]
     · exact hv.elim
   | false =>
     rw [hfl] at hv
     try simp only [bsel_false] at hv
     have hmf:vs.length ∉ fl:=by simpa using hfl
     cases hes:es.contains vs.length with
     | true =>
       rw [hes] at hv
       try simp only [bsel_true] at hv
       have hmem:vs.length∈es:=by simpa using hes
       obtain ⟨v,h',hy,hv⟩:=yields_of_vcE hv
       obtain ⟨hl,hv⟩:=andL_all hv
       refine write v h' hmem hl ?_ hv
       refine ⟨o,e,ho,fun vals ha=>u.below vals (agrees_snoc ha).1,?_⟩
       rw [if_neg hmf,if_pos hmem,getD_last vs v V.und]
       have:=u.len
       refine ⟨by simp;omega,?_⟩
       rw [getD_snoc gs h' AH0 (by omega),u.cur,show rank es vs.length + 1=gs.length from u.len.symm,getD_last gs h' AH0]
       exact hy
     | false =>
       rw [hes] at hv
       try simp only [bsel_false] at hv
       have hmem:vs.length ∉ es:=by simpa using hes
       have hrk:rank es (vs.length + 1)=rank es vs.length:=by rw [rank_succ hp,if_neg hmem];rfl
       cases hml:memless o.op with
       | true =>
         rw [hml] at hv
         try simp only [bsel_true] at hv
         obtain ⟨v,hy,hv⟩:=yields_of_vcQ hv
         have hu:Upto3 P N vops es fl e0 (vs++[v]) gs h pend (Env.put N o.dst v e):=by
           refine ⟨bel v,fun i hi'=>?_,by rw [hl1,hrk];exact u.len,by rw [hl1,hrk];exact u.cur⟩
           rcases Nat.lt_or_ge i vs.length with hlt | hge
           · exact old v pend (fun _ h=>h) i hlt
           · obtain rfl:i=vs.length:=by rw [hl1] at hi';omega
             refine ⟨o,e,ho,fun vals ha=>u.below vals (agrees_snoc ha).1,?_⟩
             rw [if_neg hmf,if_neg hmem,getD_last vs v V.und]
             exact .inl ⟨hml,h,hy⟩
         obtain ⟨vs',gs',h2,pend',e',r1,r2,r3,r4⟩:=run3_ok hsub hp l (vs++[v]) gs h pend _ (next v) hu (by rw [hl1];exact hv)
         exact ⟨vs',gs',h2,pend',e',by rw [r1,hl1];simp;omega,r2,r3,r4⟩
       | false =>
         rw [hml] at hv
         try simp only [bsel_false] at hv
         obtain ⟨v,hy,hv⟩:=yields_of_vcQ hv
         obtain ⟨hst,hv⟩:=andL_all hv
         have hu:Upto3 P N vops es fl e0 (vs++[v]) gs h ((hiOf (befs vops) es vs.length,fun g=>yields P o.op e g g v) :: pend) (Env.put N o.dst v e):=by
           refine ⟨bel v,fun i hi'=>?_,by rw [hl1,hrk];exact u.len,by rw [hl1,hrk];exact u.cur⟩
           rcases Nat.lt_or_ge i vs.length with hlt | hge
           · exact old v _ (fun _ h=>List.mem_cons_of_mem _ h) i hlt
           · obtain rfl:i=vs.length:=by rw [hl1] at hi';omega
             refine ⟨o,e,ho,fun vals ha=>u.below vals (agrees_snoc ha).1,?_⟩
             rw [if_neg hmf,if_neg hmem,getD_last vs v V.und]
             refine .inr ⟨fun k k1 k2 k3=>?_,List.mem_cons_self⟩
             have hlen:=u.len
             by_cases hk:k=rank es vs.length
             · subst hk;rw [u.cur];exact hy
             · have hk':k < gs.length - 1:=by omega
               refine hst (yields P o.op e (gs.getD k AH0) (gs.getD k AH0) v) ?_
               unfold stages
               refine List.mem_map.2 ⟨gs.getD k AH0,?_,rfl⟩
               rw [List.mem_iff_getElem?]
               refine ⟨k - loOf (befs vops) es vs.length,?_⟩
               rw [List.getElem?_drop,show loOf (befs vops) es vs.length + (k - loOf (befs vops) es vs.length)=k by omega,List.getElem?_dropLast,if_pos hk']
               rw [List.getD_eq_getElem?_getD,List.getElem?_eq_getElem (by omega)]
               rfl
         obtain ⟨vs',gs',h2,pend',e',r1,r2,r3,r4⟩:=run3_ok hsub hp l (vs++[v]) gs h _ _ (next v) hu (by rw [hl1];exact hv)
         exact ⟨vs',gs',h2,pend',e',by rw [r1,hl1];simp;omega,r2,r3,r4⟩
end
theorem clr_get {N:Nat} {ops:Array Oper}:∀ (fl:List Nat) (e:Env) (t:Nat),Env.get (clr N ops fl e) t=.und∨Env.get (clr N ops fl e) t=Env.get e t
 | [],e,t=>.inr rfl
 | i :: fl,e,t=>by
   rcases clr_get (N:=N) (ops:=ops) fl (Env.put N ((ops[i]?).bind (·.dst)) .und e) t with h | h
   · exact .inl h
   · rw [clr,h,get_put]
     split
     · exact .inl rfl
     · exact .inr rfl
theorem clr_und {N:Nat} {ops:Array Oper}:∀ (fl:List Nat) (e:Env) (i d:Nat),i∈fl→(ops[i]?).bind (·.dst)=some d→d < N→Env.get (clr N ops fl e) d=.und
 | i' :: fl,e,i,d,hi,hd,hN=>by
   simp only [clr]
   rcases List.mem_cons.1 hi with rfl | hi
   · rcases clr_get (N:=N) (ops:=ops) fl (Env.put N ((ops[i]?).bind (·.dst)) .und e) d with h | h
     · exact h
     · rw [h,get_put,if_pos ⟨hd,hN⟩]
   · exact clr_und fl _ i d hi hd hN
def draw3Ok (P:Program) (N:Nat) (ops:Array Oper) (es fl:List Nat) (l:Nat):Bool :=
 draw2Ok P N (vopsOf ops fl l) es && backB ops && pairsB ops && flB N ops fl l && (fl.all fun i=>es.contains i)
theorem vcDraw3_ok (K:Ok P) {N:Nat} {ops:Array Oper} {es fl:List Nat} {l:Nat} {id:Nat} {Q:AExit→Env→AH→Prop} {e:Env} {a:Act} (hd:draw3Ok P N ops es fl l=true) (F:Fits P B ι h W) (r:relE P ι N D e a)
   (hv:vc3 P N (vopsOf ops fl l) (befs (vopsOf ops fl l)) es fl 0 (vopsOf ops fl l).toList [h] h [] (Q .normal) (clr N ops fl e)):(Code.region id ops true).wp P (Post P B ι N D Q) a W:=by
 unfold draw3Ok at hd
 simp only [Bool.and_eq_true] at hd
 obtain ⟨⟨⟨⟨hd,hbo⟩,hpo⟩,hfb⟩,hsub⟩:=hd
 have hsub:∀ i∈fl,i∈es:=fun i hi=>by have:=List.all_eq_true.1 hsub i hi;simpa using this
 have hvsz:=vopsOf_size (ops:=ops) (fl:=fl) (l:=l)
 have hvget:∀ i,(vopsOf ops fl l)[i]?=(ops[i]?).map fun o=>seen ops fl (ops.toList.getD l default) i o:=fun i=>vopsOf_get
 generalize vopsOf ops fl l=vops at *
 unfold draw2Ok drawOk at hd
 simp only [Bool.and_eq_true] at hd
 obtain ⟨⟨⟨⟨⟨⟨h1,h2⟩,h3⟩,h4⟩,h5⟩,h6⟩,h7⟩:=hd
 have hp:=chain_spec h4
 have hr0:rank es 0=0:=by unfold rank;rw [List.countP_eq_zero];intro e _;simp
 obtain ⟨vs,gs,h',pend,e',r1,r2,r3,r4⟩:=run3_ok (P:=P) (N:=N) (vops:=vops) (es:=es) (fl:=fl) (e0:=clr N ops fl e) hsub hp vops.toList [] [h] h [] (clr N ops fl e) (by intro i hi;simp)
   ⟨fun vals _ t=>.inr rfl,fun i hi=>by simp at hi,by simp [hr0],by simp [hr0]⟩ hv
 simp only [List.length_nil,Nat.zero_add,Array.length_toList] at r1
 have ha:agrees (fun i=>vs.getD i .und) vs:=fun k _=>rfl
 have hlit:∀ j,litAt N vops j=none:=by
   intro j
   rcases Nat.lt_or_ge j vops.size with hj | hj
   · have:=List.all_eq_true.1 h7 j (List.mem_range.2 hj)
     simpa using this
   · unfold litAt;rw [Array.getElem?_eq_none hj]
 have hrn:rank es vops.size=es.length:=by
   unfold rank
   rw [List.countP_eq_length]
   intro j hj
   exact List.all_eq_true.1 h5 j hj
 have hlen:gs.length=es.length + 1:=by rw [r3.len,r1,hrn]
 -- the static facts
 unfold flB at hfb
 simp only [Bool.and_eq_true,decide_eq_true_eq,Bool.not_eq_true',List.contains_eq_mem,decide_eq_false_iff_not] at hfb
 obtain ⟨⟨⟨⟨b1,b2⟩,b3⟩,b4⟩,b5⟩:=hfb
 have hol:ops[l]?=some ops[l]:=by simp [b1]
 have hold:ops.toList.getD l default=ops[l]:=by simp [b1]
 have flf:∀ i∈fl,∃ o d,ops[i]?=some o∧o.guard=none∧o.dst=some d∧d < N∧(∀ (j:Nat) (o':Oper),ops[j]?=some o'→o'.dst=some d→j=i)∧(∃ e∈ops[l].after,Region.binds .any e=true∧e.on=i)∧∀ t∈o.looksAt ops,∀ i'∈fl,(ops[i']?).bind (·.dst)≠some t:=by
   intro i hi
   have:=List.all_eq_true.1 b4 i hi
   split at this
   · rename_i o ho
     simp only [Bool.and_eq_true] at this
     obtain ⟨⟨⟨g1,g2⟩,g4⟩,g3⟩:=this
     split at g2
     · rename_i d hdd
       simp only [Bool.and_eq_true,decide_eq_true_eq] at g2
       rw [hol] at g3
       simp only [Array.any_eq_true',Bool.and_eq_true,beq_iff_eq] at g3
       refine ⟨o,d,ho,by simpa using g1,hdd,g2.1,fun j o' hj hd'=>?_,g3,fun t ht i' hi'=>by
         have:=List.all_eq_true.1 (List.all_eq_true.1 g4 t ht) i' hi'
         simpa using this⟩
       have hjs:j < ops.size:=(Array.getElem?_eq_some_iff.1 hj).1
       have:=List.all_eq_true.1 g2.2 j (List.mem_range.2 hjs)
       rw [hj] at this
       simp only [Option.bind_some,Bool.or_eq_true,beq_iff_eq,bne_iff_ne,ne_eq] at this
       rcases this with h | h
       · exact h
       · exact absurd hd' h
     · cases g2
   · cases this
 have vflo:∀ i∈fl,∀ o,ops[i]?=some o→vops[i]?=some { o with after:=newAfter ops[l] o i }:=fun i hi o ho=>by
   rw [hvget,ho,hold];simp [seen,hi]
 have vsame:∀ j o,ops[j]?=some o→j ∉ fl→vops[j]?=some o:=fun j o ho hj=>by rw [hvget,ho];simp [seen,hj]
 -- what the variables are
 have flx:∀ i∈fl,∃ (obm:AO × (Nat→V)) (ei:Env),Below ei (envK N vops (fun i=>vs.getD i .und) (clr N ops fl e) (fun _=>true) i) ∧
     (∀ o,ops[i]?=some o→floOp P (opnd ei) o.op=some obm)∧OwnBut (gs.getD 0 AH0) (gs.getD (rank es i) AH0)∧vs.getD i .und=obm.2 (gs.getD (rank es i) AH0).next ∧
     gs.getD (rank es i + 1) AH0=(gs.getD (rank es i) AH0).make obm.1:=by
   intro i hi
   have his:i < vops.size:=by
     obtain ⟨o,d,g1,_⟩:=flf i hi
     rw [hvsz];exact (Array.getElem?_eq_some_iff.1 g1).1
   obtain ⟨o,ei,q1,q2,q3⟩:=r3.lex i (by rw [r1];exact his)
   rw [if_pos hi] at q3
   obtain ⟨q4,q5,ob,mk,q6,q7,q8⟩:=q3
   refine ⟨(ob,mk),ei,q2 _ ha,fun o' ho'=>?_,q5,q7,q8⟩
   · have:=vflo i hi o' ho'
     rw [q1] at this;cases this
     exact q6
 let obm:Nat→AO × (Nat→V):=fun i=>if hi:i∈fl then (flx i hi).choose else (.mp 0 0 [],fun _=>.und)
 have hobm:∀ i (hi:i∈fl),obm i=(flx i hi).choose:=fun i hi=>by show dite _ _ _=_;rw [dif_pos hi]
 let dsf:Nat→Tmp:=fun i=>((ops[i]?).bind (·.dst)).getD 0
 have hds:∀ i o d,ops[i]?=some o→o.dst=some d→dsf i=d:=fun i o d ho hdd=>by show ((ops[i]?).bind (·.dst)).getD 0=d;rw [ho];simp [hdd]
 have X:FlOk P N ops vops fl l (fun i=>vs.getD i .und) (clr N ops fl e) (fun i=>(obm i).1) (fun i=>(obm i).2) dsf:=by
   refine ⟨hvsz,vsame,fun i hi=>?_,fun i hi=>?_,fun i hi o ho t ht i' hi' hne=>?_,b2,b1,fun i hi=>?_,fun j o ho hj hjl ed he hb hf S hc hS=>?_,b3⟩
   · obtain ⟨o,d,g1,g2,g3,g4,g5,g6⟩:=flf i hi
     obtain ⟨ei,x1,x2,_⟩:=(flx i hi).choose_spec
     refine ⟨o,newAfter ops[l] o i,g1,vflo i hi o g1,g2,by rw [hds i o d g1 g3];exact g3,⟨ei,x1,by rw [x2 o g1,hobm i hi]⟩,fun ed he hb=>?_⟩
     unfold newAfter at he
     have he:=Array.mem_filter.1 he
     refine ⟨fun _=>by simpa using he.2,?_⟩
     rcases Array.mem_append.1 he.1 with h | h
     · exact .inr ⟨ed,h,hb,rfl⟩
     · exact .inl ⟨ops[l],hol,ed,h,hb,rfl⟩
   · obtain ⟨o,d,g1,g2,g3,g4,g5,g6⟩:=flf i hi
     rw [hds i o d g1 g3]
     exact ⟨g4,clr_und fl e i d hi (by rw [g1];exact g3) g4,g5⟩
   · obtain ⟨o',d,g1,g2,g3,g4,g5,g6,g7⟩:=flf i hi
     rw [ho] at g1;cases g1
     obtain ⟨o2,d2,k1,k2,k3,_⟩:=flf i' hi'
     refine g7 t ht i' hi' ?_
     rw [k1]
     show o2.dst=some t
     rw [k3,← hne,hds i' o2 d2 k1 k3]
   · obtain ⟨o,d,g1,g2,g3,g4,g5,⟨ed,g6,g7,g8⟩,_⟩:=flf i hi
     exact ⟨ops[l],hol,ed,g6,g7,g8⟩
   · have hjs:j < ops.size:=(Array.getElem?_eq_some_iff.1 ho).1
     have:=List.all_eq_true.1 b5 j (List.mem_range.2 hjs)
     rw [ho] at this
     simp only [Bool.or_eq_true,List.contains_eq_mem,decide_eq_true_eq,beq_iff_eq,Bool.not_eq_true'] at this
     rcases this with (h | h) | (h | h)
     · exact absurd h hj
     · exact absurd h hjl
     · exfalso
       have hno:=h
       rw [Array.any_eq_false'] at hno
       have:=hno ed he
       simp [hb,hf] at this
     · unfold isBef at h
       exact befs_ok j l (by simpa using h) S hc (fun o' ho'=>by rw [ho] at ho';cases ho';exact hS)
 refine fdraws_ok (vals:=fun i=>vs.getD i .und) (mem:=fun S=>gs.getD (cnt es S) AH0) (D:=fun _=>D) (D0:=D) K h1 hpo h2 hbo hlit X (fun j hj=>?_) (fun i hi T hc hr=>?_) (hfin:=h') (fun S hS=>?_) (fun _=>rfl) ?_ ?_ (e:=e') ?_ r4
 · have hjv:j < vops.size:=by rw [hvsz];exact hj
   obtain ⟨o,ej,q1,q2,q3⟩:=r3.lex j (by rw [r1];exact hjv)
   have hgd:o.guard=none:=by
     rw [Array.all_eq_true'] at h6
     have:=h6 o (Array.mem_of_getElem? q1)
     simpa using this
   refine .ord (hlit j) (fun i _=>hlit i) ej (q2 _ ha) o q1 (by unfold want;rw [hgd]) (fun S hc hr=>?_) fun _ _ _=>rfl
   by_cases hf:j∈fl
   · rw [if_pos hf] at q3
     have hm:=hsub j hf
     rw [cnt_add_mem hp hm hr.1,cnt_eff hp hm hc hr]
     obtain ⟨q4,q5,ob,mk,q6,q7,q8⟩:=q3
     rw [q7,q8]
     have hz:=(floOp_spec q6).1 (gs.getD (rank es j) AH0)
     unfold yields
     cases hop:o.op <;> rw [hop] at hz q6 <;> first | exact hz | (exfalso;unfold floOp at q6;cases q6;done)
   · rw [if_neg hf] at q3
     by_cases hm:j∈es
     · rw [if_pos hm] at q3
       rw [cnt_add_mem hp hm hr.1,cnt_eff hp hm hc hr]
       exact q3.2
     · rw [if_neg hm] at q3
       rw [cnt_add_not hm]
       rcases q3 with ⟨q3,g,q4⟩ | ⟨q3,_⟩
       · exact memless_ok q3 q4
       · exact q3 _ (cnt_lo hc hr) (cnt_hi hc hr) (by rw [hlen];have:=cnt_le (es:=es) (S:=S);omega)
 · have hm:=hsub i hi
   obtain ⟨ei,x1,x2,x3,x4,x5⟩:=(flx i hi).choose_spec
   have c0:cnt es (fun _=>false)=0:=by unfold cnt;rw [List.countP_eq_zero];intro _ _;simp
   show OwnBut (gs.getD (cnt es fun _=>false) AH0) (gs.getD (cnt es T) AH0)∧vs.getD i .und=(obm i).2 (gs.getD (cnt es T) AH0).next∧gs.getD (cnt es (addS T i)) AH0=(gs.getD (cnt es T) AH0).make (obm i).1∧D=D
   rw [c0,cnt_add_mem hp hm hr.1,cnt_eff hp hm hc hr,hobm i hi]
   exact ⟨x3,x4,x5,rfl⟩
 · have:cnt es S=es.length:=by
     unfold cnt
     rw [List.countP_eq_length]
     intro j hj
     exact hS j (by have:=List.all_eq_true.1 h5 j hj;rw [hvsz] at this;simpa using this)
   show gs.getD (cnt es S) AH0=h'
   rw [this,← hrn,← r1]
   exact r3.cur
 · have:cnt es (fun _=>false)=0:=by unfold cnt;rw [List.countP_eq_zero];intro _ _;simp
   show Fits P B ι (gs.getD (cnt es fun _=>false) AH0) W
   rw [this,r2]
   exact F
 · exact relE_of r fun t=>clr_get fl e t
 · have:=r3.below _ ha
   rw [r1] at this
   exact this
end Go.Ab
namespace Go.Ab
open Go Go.RowKit
variable {P:Program} {ι:Names} {W:World} {B:Base} {h:AH} {D:List AD}
def vcN (P:Program) (o:Op) (e:Env) (h:AH) (K:V→AH→Prop):Prop :=
 match o with
 | .call { callee:=.value f,args:=args,.. }=>vcCallV P (opnd e f) (args.toList.map (opnd e)) h (aEnd K fun _ _=>False)
 | .call { callee:=.invoke r name,args:=args,.. }=>vcInvoke P (opnd e r) name (args.toList.map (opnd e)) h (aEnd K fun _ _=>False)
 | _=>False
theorem vcN_congr {o:Op} {e e':Env} {h:AH} {K:V→AH→Prop} (hx:∀ x∈o.operands,opnd e x=opnd e' x) (y:vcN P o e h K):vcN P o e' h K:=by
 unfold vcN at *
 split at y
 · rename_i f args ts
   have h1:opnd e f=opnd e' f:=hx f (by simp [Op.operands,Call.operands])
   have h2:args.toList.map (opnd e)=args.toList.map (opnd e'):=List.map_congr_left fun x h=>hx x (by simp [Op.operands,Call.operands,Array.mem_toList_iff.1 h])
   rw [← h1,← h2];exact y
 · rename_i r name args ts
   have h1:opnd e r=opnd e' r:=hx r (by simp [Op.operands,Call.operands])
   have h2:args.toList.map (opnd e)=args.toList.map (opnd e'):=List.map_congr_left fun x h=>hx x (by simp [Op.operands,Call.operands,Array.mem_toList_iff.1 h])
   rw [← h1,← h2];exact y
 · exact y.elim
theorem vcN_vcOp {o:Op} {e:Env} {h:AH} {K:V→AH→Prop} (y:vcN P o e h K):vcOp P o e h K (fun _ _ _=>False):=by
 unfold vcN at y
 split at y
 · exact y
 · exact y
 · exact y.elim
def vc4 (P:Program) (N:Nat) (vops:Array Oper) (b:List (List Nat)) (es fl:List Nat) (kk:Nat):Nat→List Oper→List AH→AH→List (Nat × (AH→Prop))→(Env→AH→Prop)→Env→Prop
 | _,[],_,h,_,k,e=>k e h
 | j,o :: rest,gs,h,pend,k,e =>
   bsel (Nat.beq j kk) (vcN P o.op e h fun v h'=>andL (later gs.length h' pend) (vc4 P N vops b es fl kk (j + 1) rest (gs++[h']) h' pend k (e.put N o.dst v)))
   (bsel (fl.contains j) (match floOp P (opnd e) o.op with
     | some (ob,mk)=>OwnBut (gs.getD 0 AH0) h∧andL (later gs.length (h.make ob) pend) (vc4 P N vops b es fl kk (j + 1) rest (gs++[h.make ob]) (h.make ob) pend k (e.put N o.dst (mk h.next)))
     | none=>False)
   (bsel (es.contains j) (vcE P o.op e h fun v h'=>andL (later gs.length h' pend) (vc4 P N vops b es fl kk (j + 1) rest (gs++[h']) h' pend k (e.put N o.dst v)))
   (bsel (memless o.op) (vcQ P o.op e h fun v=>vc4 P N vops b es fl kk (j + 1) rest gs h pend k (e.put N o.dst v))
   (vcQ P o.op e h fun v=>andL (stages (loOf b es j) gs fun g=>yields P o.op e g g v)
     (vc4 P N vops b es fl kk (j + 1) rest gs h ((hiOf b es j,fun g=>yields P o.op e g g v) :: pend) k (e.put N o.dst v))))))
section
variable {N:Nat} {vops:Array Oper} {e0:Env} {es fl:List Nat} {kk:Nat}
def Op4 (P:Program) (N:Nat) (vops:Array Oper) (es fl:List Nat) (kk:Nat) (e0:Env) (vs:List V) (gs:List AH) (pend:List (Nat × (AH→Prop))) (i:Nat):Prop :=
 i=kk∨Op3 P N vops es fl e0 vs gs pend i
structure Upto4 (P:Program) (N:Nat) (vops:Array Oper) (es fl:List Nat) (kk:Nat) (e0:Env) (vs:List V) (gs:List AH) (h:AH) (pend:List (Nat × (AH→Prop))) (e:Env):Prop where
 below:∀ vals,agrees vals vs→Below e (envK N vops vals e0 (fun _=>true) vs.length)
 lex:∀ i,i < vs.length→Op4 P N vops es fl kk e0 vs gs pend i
 len:gs.length=rank es vs.length + 1
 cur:gs.getD (rank es vs.length) AH0=h
theorem op4_old {vs:List V} {gs:List AH} {pend:List (Nat × (AH→Prop))} {v:V} {pend':List (Nat × (AH→Prop))} (hpp:∀ p∈pend,p∈pend') {i:Nat} (hi':i < vs.length) (q:Op4 P N vops es fl kk e0 vs gs pend i):Op4 P N vops es fl kk e0 (vs++[v]) gs pend' i:=by
 rcases q with q | ⟨oi,ei,q1,q2,q3⟩
 · exact .inl q
 refine .inr ⟨oi,ei,q1,fun vals ha=>q2 vals (agrees_snoc ha).1,?_⟩
 rw [getD_snoc vs v V.und hi']
 split
 · rename_i hm;rw [if_pos hm] at q3;exact q3
 · rename_i hm
   rw [if_neg hm] at q3
   split
   · rename_i hm;rw [if_pos hm] at q3;exact q3
   · rename_i hm
     rw [if_neg hm] at q3
     rcases q3 with q3 | ⟨q3,q4⟩
     · exact .inl q3
     · exact .inr ⟨q3,hpp _ q4⟩
theorem op4_more {vs:List V} {gs:List AH} {pend:List (Nat × (AH→Prop))} (hg0:0 < gs.length) {v:V} {h':AH} (hq:∀ q∈later gs.length h' pend,q) {i:Nat} (hi':i < vs.length) (q:Op4 P N vops es fl kk e0 vs gs pend i):Op4 P N vops es fl kk e0 (vs++[v]) (gs++[h']) pend i:=by
 rcases q with q | ⟨oi,ei,q1,q2,q3⟩
 · exact .inl q
 refine .inr ⟨oi,ei,q1,fun vals ha=>q2 vals (agrees_snoc ha).1,?_⟩
 rw [getD_snoc vs v V.und hi']
 split
 · rename_i hm
   rw [if_pos hm] at q3
   refine ⟨by simp;omega,?_⟩
   rw [getD_snoc gs h' AH0 (k:=0) hg0,getD_snoc gs h' AH0 (k:=rank es i) (by omega),getD_snoc gs h' AH0 q3.1]
   exact q3.2
 · rename_i hm
   rw [if_neg hm] at q3
   split
   · rename_i hm
     rw [if_pos hm] at q3
     refine ⟨by simp;omega,?_⟩
     rw [getD_snoc gs h' AH0 (by omega),getD_snoc gs h' AH0 q3.1]
     exact q3.2
   · rename_i hm
     rw [if_neg hm] at q3
     rcases q3 with q3 | ⟨q3,q4⟩
     · exact .inl q3
     · refine .inr ⟨fun k k1 k2 k3=>?_,q4⟩
       rcases Nat.lt_or_ge k gs.length with hk | hk
       · rw [getD_snoc gs h' AH0 hk];exact q3 k k1 k2 hk
       · have:k=gs.length:=by simp at k3;omega
         subst this
         rw [getD_last gs h' AH0]
         refine hq (yields P oi.op ei h' h' (vs.getD i .und)) ?_
         exact List.mem_map.2 ⟨_,List.mem_filter.2 ⟨q4,by simpa using k2⟩,rfl⟩
theorem upto4_below {vs:List V} {o:Oper} {e:Env} (ho:vops[vs.length]?=some o) (hb:∀ vals,agrees vals vs→Below e (envK N vops vals e0 (fun _=>true) vs.length)) (v:V):∀ vals,agrees vals (vs++[v])→Below (Env.put N o.dst v e) (envK N vops vals e0 (fun _=>true) (vs++[v]).length):=by
 intro vals ha
 obtain ⟨a1,a2⟩:=agrees_snoc ha
 rw [List.length_append,List.length_singleton,← a2]
 exact below_put ho (hb vals a1)
theorem upto4_write (hp:es.Pairwise fun e f=>e < f∧isBef (befs vops) e f=true) {vs:List V} {gs:List AH} {h:AH} {pend:List (Nat × (AH→Prop))} {e:Env} {o:Oper} (u:Upto4 P N vops es fl kk e0 vs gs h pend e) (ho:vops[vs.length]?=some o) {v:V} {h':AH} (hmem:vs.length∈es) (hl:∀ q∈later gs.length h' pend,q) (hop:Op4 P N vops es fl kk e0 (vs++[v]) (gs++[h']) pend vs.length) :
   Upto4 P N vops es fl kk e0 (vs++[v]) (gs++[h']) h' pend (Env.put N o.dst v e):=by
 have hl1:∀ v:V,(vs++[v]).length=vs.length + 1:=fun v=>by simp
 have hrk:rank es (vs.length + 1)=rank es vs.length + 1:=by rw [rank_succ hp,if_pos hmem]
 have hg0:0 < gs.length:=by have:=u.len;omega
 refine ⟨upto4_below ho u.below v,fun i hi'=>?_,?_,?_⟩
 · rcases Nat.lt_or_ge i vs.length with hlt | hge
   · exact op4_more hg0 hl hlt (u.lex i hlt)
   · obtain rfl:i=vs.length:=by rw [hl1] at hi';omega
     exact hop
 · rw [hl1,hrk];simp [u.len]
 · rw [hl1,hrk,← u.len,getD_last]
def Ends4 (P:Program) (N:Nat) (vops:Array Oper) (es fl:List Nat) (kk:Nat) (e0:Env) (k:Env→AH→Prop) (n:Nat) (vs:List V) (gs:List AH):Prop :=
 ∃ vs' gs' h' pend' e' l',vs'.length + l'.length=n∧(∀ i,i < l'.length→vops[vs'.length + i]?=l'[i]?)∧(∃ x,vs'=vs++x)∧(∃ y,gs'=gs++y)∧Upto4 P N vops es fl kk e0 vs' gs' h' pend' e'∧vc4 P N vops (befs vops) es fl kk vs'.length l' gs' h' pend' k e' ∧
   ((vs'.length=kk∧l'≠[])∨(l'=[]∧(kk < vs.length∨vs'.length≤kk)))
theorem run4_ok (hsub:∀ i∈fl,i∈es) (hp:es.Pairwise fun e f=>e < f∧isBef (befs vops) e f=true) {k:Env→AH→Prop}:∀ (l:List Oper) (vs:List V) (gs:List AH) (h:AH) (pend:List (Nat × (AH→Prop))) (e:Env),
   (∀ i,i < l.length→vops[vs.length + i]?=l[i]?)→Upto4 P N vops es fl kk e0 vs gs h pend e→vc4 P N vops (befs vops) es fl kk vs.length l gs h pend k e →
   Ends4 P N vops es fl kk e0 k (vs.length + l.length) vs gs
 | [],vs,gs,h,pend,e,hi,u,hv=>⟨vs,gs,h,pend,e,[],rfl,hi,⟨[],by simp⟩,⟨[],by simp⟩,u,hv,.inr ⟨rfl,by omega⟩⟩
 | o :: l,vs,gs,h,pend,e,hi,u,hv=>by
   by_cases hkk:vs.length=kk
   · exact ⟨vs,gs,h,pend,e,o :: l,rfl,hi,⟨[],by simp⟩,⟨[],by simp⟩,u,hv,.inl ⟨hkk,by simp⟩⟩
   have ho:vops[vs.length]?=some o:=by have:=hi 0 (by simp);simpa using this
   have next:∀ (v:V),(∀ i,i < l.length→vops[(vs++[v]).length + i]?=l[i]?):=by
     intro v i hi'
     rw [List.length_append,List.length_singleton]
     have:=hi (i + 1) (by simp;omega);simpa [Nat.add_assoc,Nat.add_comm 1 i] using this
   have hl1:∀ v:V,(vs++[v]).length=vs.length + 1:=fun v=>by simp
   -- the rest of the run
   have rest:∀ (v:V) (gs2:List AH) (h2:AH) (pend2:List (Nat × (AH→Prop))),(∃ y,gs2=gs++y)→Upto4 P N vops es fl kk e0 (vs++[v]) gs2 h2 pend2 (Env.put N o.dst v e)→vc4 P N vops (befs vops) es fl kk (vs.length + 1) l gs2 h2 pend2 k (e.put N o.dst v)→Ends4 P N vops es fl kk e0 k (vs.length + (o :: l).length) vs gs:=by
     intro v gs2 h2 pend2 hy hu hv
     obtain ⟨vs',gs',h',pend',e',l',r1,r2,⟨x,r3⟩,⟨y,r4⟩,r5,r6,r7⟩:=run4_ok hsub hp l (vs++[v]) gs2 h2 pend2 _ (next v) hu (by rw [hl1];exact hv)
     obtain ⟨z,hz⟩:=hy
     refine ⟨vs',gs',h',pend',e',l',by rw [r1,hl1];simp;omega,r2,⟨[v]++x,by rw [r3,List.append_assoc]⟩,⟨z++y,by rw [r4,hz,List.append_assoc]⟩,r5,r6,?_⟩
     rcases r7 with r7 | ⟨r7,r8⟩
     · exact .inl r7
     · refine .inr ⟨r7,?_⟩
       rw [hl1] at r8
       omega
   simp only [vc4] at hv
   have hb0:Nat.beq vs.length kk=false:=by
     cases hq:Nat.beq vs.length kk with
     | true=>exact absurd (Nat.eq_of_beq_eq_true hq) hkk
     | false=>rfl
   rw [hb0] at hv
   try simp only [bsel_false] at hv
   cases hfl:fl.contains vs.length with
   | true =>
     rw [hfl] at hv
     try simp only [bsel_true] at hv
     have hmf:vs.length∈fl:=by simpa using hfl
     split at hv
     · rename_i ob mk hfo
       obtain ⟨how,hv⟩:=hv
       obtain ⟨hl,hv⟩:=andL_all hv
       refine rest _ _ _ _ ⟨_,rfl⟩ (upto4_write hp u ho (hsub _ hmf) hl (.inr ?_)) hv
       refine ⟨o,e,ho,fun vals ha=>u.below vals (agrees_snoc ha).1,?_⟩
       rw [if_pos hmf,getD_last vs _ V.und]
       have:=u.len
       have e1:(gs++[h.make ob]).getD (rank es vs.length) AH0=h:=by rw [getD_snoc gs _ AH0 (by omega)];exact u.cur
       refine ⟨by simp;omega,by rw [e1,getD_snoc gs _ AH0 (k:=0) (by omega)];exact how,ob,mk,hfo,by rw [e1],?_⟩
       rw [e1,show rank es vs.length + 1=gs.length from u.len.symm,getD_last gs _ AH0]
     · exact hv.elim
   | false =>
     rw [hfl] at hv
     try simp only [bsel_false] at hv
     have hmf:vs.length ∉ fl:=by simpa using hfl
     cases hes:es.contains vs.length with
     | true =>
       rw [hes] at hv
       try simp only [bsel_true] at hv
       have hmem:vs.length∈es:=by simpa using hes
       obtain ⟨v,h',hy,hv⟩:=yields_of_vcE hv
       obtain ⟨hl,hv⟩:=andL_all hv
       refine rest v _ h' _ ⟨_,rfl⟩ (upto4_write hp u ho hmem hl (.inr ?_)) hv
       refine ⟨o,e,ho,fun vals ha=>u.below vals (agrees_snoc ha).1,?_⟩
       rw [if_neg hmf,if_pos hmem,getD_last vs v V.und]
       have:=u.len
       refine ⟨by simp;omega,?_⟩
       rw [getD_snoc gs h' AH0 (by omega),u.cur,show rank es vs.length + 1=gs.length from u.len.symm,getD_last gs h' AH0]
       exact hy
     | false =>
       rw [hes] at hv
       try simp only [bsel_false] at hv
       have hmem:vs.length ∉ es:=by simpa using hes
       have hrk:rank es (vs.length + 1)=rank es vs.length:=by rw [rank_succ hp,if_neg hmem];rfl
       cases hml:memless o.op with
       | true =>
         rw [hml] at hv
         try simp only [bsel_true] at hv
         obtain ⟨v,hy,hv⟩:=yields_of_vcQ hv
         refine rest v gs h pend ⟨[],by simp⟩ ?_ hv
         refine ⟨upto4_below ho u.below v,fun i hi'=>?_,by rw [hl1,hrk];exact u.len,by rw [hl1,hrk];exact u.cur⟩
         rcases Nat.lt_or_ge i vs.length with hlt | hge
         · exact op4_old (fun _ h=>h) hlt (u.lex i hlt)
         · obtain rfl:i=vs.length:=by rw [hl1] at hi';omega
           refine .inr ⟨o,e,ho,fun vals ha=>u.below vals (agrees_snoc ha).1,?_⟩
           rw [if_neg hmf,if_neg hmem,getD_last vs v V.und]
           exact .inl ⟨hml,h,hy⟩
       | false =>
         rw [hml] at hv
         try simp only [bsel_false] at hv
         obtain ⟨v,hy,hv⟩:=yields_of_vcQ hv
         obtain ⟨hst,hv⟩:=andL_all hv
         refine rest v gs h _ ⟨[],by simp⟩ ?_ hv
         refine ⟨upto4_below ho u.below v,fun i hi'=>?_,by rw [hl1,hrk];exact u.len,by rw [hl1,hrk];exact u.cur⟩
         rcases Nat.lt_or_ge i vs.length with hlt | hge
         · exact op4_old (fun _ h=>List.mem_cons_of_mem _ h) hlt (u.lex i hlt)
         · obtain rfl:i=vs.length:=by rw [hl1] at hi';omega
           refine .inr ⟨o,e,ho,fun vals ha=>u.below vals (agrees_snoc ha).1,?_⟩
           rw [if_neg hmf,if_neg hmem,getD_last vs v V.und]
           refine .inr ⟨fun k k1 k2 k3=>?_,List.mem_cons_self⟩
           have hlen:=u.len
           by_cases hk:k=rank es vs.length
           · subst hk;rw [u.cur];exact hy
           · have hk':k < gs.length - 1:=by omega
             refine hst (yields P o.op e (gs.getD k AH0) (gs.getD k AH0) v) ?_
             unfold stages
             refine List.mem_map.2 ⟨gs.getD k AH0,?_,rfl⟩
             rw [List.mem_iff_getElem?]
             refine ⟨k - loOf (befs vops) es vs.length,?_⟩
             rw [List.getElem?_drop,show loOf (befs vops) es vs.length + (k - loOf (befs vops) es vs.length)=k by omega,List.getElem?_dropLast,if_pos hk']
             rw [List.getD_eq_getElem?_getD,List.getElem?_eq_getElem (by omega)]
             rfl
end
end Go.Ab
namespace Go.Ab
open Go Go.RowKit
variable {P:Program} {ι:Names} {W:World} {B:Base} {h:AH} {D:List AD}
section
variable {N:Nat} {ops vops:Array Oper} {vals:Nat→V} {mem:(Nat→Bool)→AH} {e0:Env} {ι0:Names} {S:Nat→Bool}
theorem envK_vals {vals vals':Nat→V} {S:Nat→Bool}:∀ k,(∀ i,i < k→S i=true→vals' i=vals i)→envK N vops vals' e0 S k=envK N vops vals e0 S k
 | 0,_=>rfl
 | k + 1,h=>by
   simp only [envK,envK_vals k fun i hi=>h i (by omega)]
   cases hS:S k with
   | false=>rfl
   | true=>rw [h k (by omega) hS]
theorem nd_step (K:Ok P) (hp:pairsB vops=true) (hlit:∀ i,litAt N vops i=none) {k:Nat} {o:Oper} (ho:vops[k]?=some o) (hg:o.guard=none) {e:Env} (he:Below e (envK N vops vals e0 (fun _=>true) k)) (hc:Closed vops S) (hr:Ready vops S k) {Kv:V→AH→Prop}
   (hv:vcN P o.op e (mem S) Kv) {a:Act} {W:World} (g:Good P B ι0 N (fun _=>D) vops vals mem e0 S a W) (Q:Exit→Act→World→Prop) :
   wpOp P vops Q k (fun a' w'=>∃ v h',Kv v h'∧∀ vals' mem',(∀ i,i < vops.size→S i=true→vals' i=vals i)→vals' k=v→mem' (addS S k)=h'→Good P B ι0 N (fun _=>D) vops vals' mem' e0 (addS S k) a' w') a W:=by
 obtain ⟨ι,B',hle,hB,F,r,hl⟩:=g.ex
 have re:=relE_looks hp hc hr ho r he
 unfold wpOp
 rw [ho]
 simp only
 rw [if_pos (by simp [Region.wanted,hg])]
 left
 have y:=vcN_congr (fun x hx=>(opnd_keep (ops:=vops) x hx).symm) hv
 refine wp_upto (Q:=Post P B' ι N D fun _ _ _=>False) (fun x a w p=>by obtain ⟨_,_,_,_,_,_,_,_,f⟩:=p;exact f.elim) (vcOp_ok K F re (vcN_vcOp y) ?_)
 intro ι' h' v x w' g1 g2 g3 g4
 refine ⟨v,h',g4,fun vals' mem' q1 q2 q3=>⟨ι',B',Names.le_trans hle g1,hB,by rw [q3];exact g2,?_,fun i d s dd hl=>by rw [hlit i] at hl;cases hl⟩⟩
 refine relE_add hp hc hr ho ?_ (by rw [q2];exact g3)
 rw [envK_vals _ q1]
 exact relE_le g1 r
theorem good_step1 (K:Ok P) (hp:pairsB vops=true) (hlit:∀ i,litAt N vops i=none) {j:Nat} {o:Oper} (ho:vops[j]?=some o) (hg:o.guard=none) {e:Env} (he:Below e (envK N vops vals e0 (fun _=>true) j)) (hc:Closed vops S) (hr:Ready vops S j)
   (hy:yields P o.op e (mem S) (mem (addS S j)) (vals j)) {a:Act} {W:World} (g:Good P B ι0 N (fun _=>D) vops vals mem e0 S a W) (Q:Exit→Act→World→Prop) :
   wpOp P vops Q j (Good P B ι0 N (fun _=>D) vops vals mem e0 (addS S j)) a W:=by
 obtain ⟨ι,B',hle,hB,F,r,hl⟩:=g.ex
 have re:=relE_looks hp hc hr ho r he
 unfold wpOp
 rw [ho]
 simp only
 rw [if_pos (by simp [Region.wanted,hg])]
 left
 have y:=yields_congr (fun x hx=>(opnd_keep (ops:=vops) x hx).symm) hy
 refine wp_upto (Q:=Post P B' ι N D fun _ _ _=>False) (fun x a w p=>by obtain ⟨_,_,_,_,_,_,_,_,f⟩:=p;exact f.elim) (vcOp_ok K F re (yields_vcOp y) ?_)
 rintro ι' h' v x w' g1 g2 g3 ⟨rfl,rfl⟩
 exact ⟨ι',B',Names.le_trans hle g1,hB,g2,relE_add hp hc hr ho (relE_le g1 r) g3,fun i d s dd hl=>by rw [hlit i] at hl;cases hl⟩
theorem cnt_cut {b:Nat→Bool} {es:List Nat} {kk:Nat} (h:∀ i∈es,b i=true→i < kk):cnt es b≤rank es kk :=
 List.countP_mono_left fun e he hb=>by simpa using h e he hb
theorem getD_app {α:Type} {l l':List α} {d:α} {i:Nat} (h:i < l.length):(l++l').getD i d=l.getD i d:=by
 simp [List.getElem?_append_left h]
end
def allocB (P:Program) (ops:Array Oper) (i:Nat):Bool:=match ops[i]? with
 | some o=>(match o.op with
   | .alloc t=>(floOp P (fun _=>.und) (.alloc t)).isSome
   | _=>false)
 | none=>false
def draw4Ok (P:Program) (N:Nat) (ops:Array Oper) (es fl:List Nat) (l kk:Nat):Bool :=
 draw2Ok P N (vopsOf ops fl l) es && backB ops && pairsB ops && flB N ops fl l && (fl.all fun i=>es.contains i) && (fl.all fun i=>allocB P ops i) && es.contains kk && !fl.contains kk && (decide (kk < l) || fl.isEmpty) && ((List.range ops.size).all fun i=>decide (i≤kk) || isBef (befs (vopsOf ops fl l)) kk i)
theorem vcDraw4_ok (K:Ok P) {N:Nat} {ops:Array Oper} {es fl:List Nat} {l kk:Nat} {id:Nat} {Q:AExit→Env→AH→Prop} {e:Env} {a:Act} (hd:draw4Ok P N ops es fl l kk=true) (F:Fits P B ι h W) (r:relE P ι N D e a)
   (hv:vc4 P N (vopsOf ops fl l) (befs (vopsOf ops fl l)) es fl kk 0 (vopsOf ops fl l).toList [h] h [] (Q .normal) (clr N ops fl e)):(Code.region id ops true).wp P (Post P B ι N D Q) a W:=by
 unfold draw4Ok at hd
 simp only [Bool.and_eq_true] at hd
 obtain ⟨⟨⟨⟨⟨⟨⟨⟨⟨hd,hbo⟩,hpo⟩,hfb⟩,hsub⟩,hal⟩,hkm⟩,hkf⟩,hkl⟩,hcut⟩:=hd
 have hsub:∀ i∈fl,i∈es:=fun i hi=>by have:=List.all_eq_true.1 hsub i hi;simpa using this
 have hkm:kk∈es:=by simpa using hkm
 have hkf:kk ∉ fl:=by simpa using hkf
 have hkl:kk < l∨fl=[]:=by simpa using hkl
 have hvsz:=vopsOf_size (ops:=ops) (fl:=fl) (l:=l)
 have hvget:∀ i,(vopsOf ops fl l)[i]?=(ops[i]?).map fun o=>seen ops fl (ops.toList.getD l default) i o:=fun i=>vopsOf_get
 generalize vopsOf ops fl l=vops at *
 unfold draw2Ok drawOk at hd
 simp only [Bool.and_eq_true] at hd
 obtain ⟨⟨⟨⟨⟨⟨h1,h2⟩,h3⟩,h4⟩,h5⟩,h6⟩,h7⟩:=hd
 have hp:=chain_spec h4
 have hcut:∀ i,i < ops.size→kk < i→isBef (befs vops) kk i=true:=fun i hi hk=>by
   have:=List.all_eq_true.1 hcut i (List.mem_range.2 hi)
   simp only [Bool.or_eq_true,decide_eq_true_eq] at this
   rcases this with q | q
   · omega
   · exact q
 have hks:kk < vops.size:=by have:=List.all_eq_true.1 h5 kk hkm;simpa using this
 have hr0:rank es 0=0:=by unfold rank;rw [List.countP_eq_zero];intro e _;simp
 have hlit:∀ j,litAt N vops j=none:=by
   intro j
   rcases Nat.lt_or_ge j vops.size with hj | hj
   · have:=List.all_eq_true.1 h7 j (List.mem_range.2 hj)
     simpa using this
   · unfold litAt;rw [Array.getElem?_eq_none hj]
 have hguard:∀ (j:Nat) (o:Oper),vops[j]?=some o→o.guard=none:=fun j o q=>by
   rw [Array.all_eq_true'] at h6
   have:=h6 o (Array.mem_of_getElem? q)
   simpa using this
 have hrn:rank es vops.size=es.length:=by
   unfold rank
   rw [List.countP_eq_length]
   intro j hj
   exact List.all_eq_true.1 h5 j hj
 -- the first part of the text
 obtain ⟨vs0,gs0,h0,pend0,e1,l0,r1,r2,⟨x0,_⟩,⟨y0,r4⟩,u0,hv0,r7⟩:=run4_ok (P:=P) (N:=N) (vops:=vops) (es:=es) (fl:=fl) (kk:=kk) (e0:=clr N ops fl e) hsub hp vops.toList [] [h] h [] (clr N ops fl e) (by intro i hi;simp)
   ⟨fun vals _ t=>.inr rfl,fun i hi=>by simp at hi,by simp [hr0],by simp [hr0]⟩ hv
 simp only [List.length_nil,Nat.zero_add,Array.length_toList] at r1
 have r7:vs0.length=kk∧l0≠[]:=by
   rcases r7 with q | ⟨q1,q2⟩
   · exact q
   · subst q1
     simp only [List.length_nil,Nat.add_zero] at r1 q2
     omega
 obtain ⟨hl0,r8⟩:=r7
 obtain ⟨o0,l1,rfl⟩:∃ o0 l1,l0=o0 :: l1:=by
   cases l0 with
   | nil=>exact absurd rfl r8
   | cons a b=>exact ⟨a,b,rfl⟩
 have ho0:vops[vs0.length]?=some o0:=by have:=r2 0 (by simp);simpa using this
 simp only [vc4] at hv0
 have hbt:Nat.beq vs0.length kk=true:=by rw [hl0];exact Nat.beq_refl kk
 rw [hbt] at hv0
 try simp only [bsel_true] at hv0
 have hm0:vs0.length∈es:=by rw [hl0];exact hkm
 -- what comes of each end of the call
 have outc:∀ v h',andL (later gs0.length h' pend0) (vc4 P N vops (befs vops) es fl kk (vs0.length + 1) l1 (gs0++[h']) h' pend0 (Q .normal) (Env.put N o0.dst v e1)) →
     ∃ vs gs h2 e2 pend2,vs.length=vops.size∧(∃ x,vs=(vs0++[v])++x)∧(∃ y,gs=(gs0++[h'])++y)∧Upto4 P N vops es fl kk (clr N ops fl e) vs gs h2 pend2 e2∧Q .normal e2 h2:=by
   intro v h' q
   obtain ⟨q1,q2⟩:=andL_all q
   have u1:=upto4_write hp u0 ho0 (v:=v) (h':=h') hm0 q1 (.inl hl0)
   have hl1:(vs0++[v]).length=vs0.length + 1:=by simp
   obtain ⟨vs',gs',h2,pend',e',l',s1,s2,⟨x,s3⟩,⟨y,s4⟩,s5,s6,s7⟩:=run4_ok (P:=P) (N:=N) (kk:=kk) hsub hp l1 (vs0++[v]) (gs0++[h']) h' pend0 _ (by
     intro i hi
     rw [hl1]
     have:=r2 (i + 1) (by simp;omega);simpa [Nat.add_assoc,Nat.add_comm 1 i] using this) u1 (by rw [hl1];exact q2)
   rcases s7 with ⟨s7,_⟩ | ⟨rfl,_⟩
   · have:vs'.length=vs0.length + 1 + x.length:=by rw [s3];simp;omega
     omega
   · simp only [List.length_nil,Nat.add_zero,List.length_cons] at s1 r1
     exact ⟨vs',gs',h2,e',pend',by rw [s1,hl1];omega,⟨x,s3⟩,⟨y,s4⟩,s5,s6⟩
 -- the static facts
 unfold flB at hfb
 simp only [Bool.and_eq_true,decide_eq_true_eq,Bool.not_eq_true',List.contains_eq_mem,decide_eq_false_iff_not] at hfb
 obtain ⟨⟨⟨⟨b1,b2⟩,b3⟩,b4⟩,b5⟩:=hfb
 have hol:ops[l]?=some ops[l]:=by simp [b1]
 have hold:ops.toList.getD l default=ops[l]:=by simp [b1]
 have flf:∀ i∈fl,∃ o d,ops[i]?=some o∧o.guard=none∧o.dst=some d∧d < N∧(∀ (j:Nat) (o':Oper),ops[j]?=some o'→o'.dst=some d→j=i)∧(∃ e∈ops[l].after,Region.binds .any e=true∧e.on=i)∧∀ t∈o.looksAt ops,∀ i'∈fl,(ops[i']?).bind (·.dst)≠some t:=by
   intro i hi
   have:=List.all_eq_true.1 b4 i hi
   split at this
   · rename_i o ho
     simp only [Bool.and_eq_true] at this
     obtain ⟨⟨⟨g1,g2⟩,g4⟩,g3⟩:=this
     split at g2
     · rename_i d hdd
       simp only [Bool.and_eq_true,decide_eq_true_eq] at g2
       rw [hol] at g3
       simp only [Array.any_eq_true',Bool.and_eq_true,beq_iff_eq] at g3
       refine ⟨o,d,ho,by simpa using g1,hdd,g2.1,fun j o' hj hd'=>?_,g3,fun t ht i' hi'=>by
         have:=List.all_eq_true.1 (List.all_eq_true.1 g4 t ht) i' hi'
         simpa using this⟩
       have hjs:j < ops.size:=(Array.getElem?_eq_some_iff.1 hj).1
       have:=List.all_eq_true.1 g2.2 j (List.mem_range.2 hjs)
       rw [hj] at this
       simp only [Option.bind_some,Bool.or_eq_true,beq_iff_eq,bne_iff_ne,ne_eq] at this
       rcases this with h | h
       · exact h
       · exact absurd hd' h
     · cases g2
   · cases this
 have vflo:∀ i∈fl,∀ o,ops[i]?=some o→vops[i]?=some { o with after:=newAfter ops[l] o i }:=fun i hi o ho=>by
   rw [hvget,ho,hold];simp [seen,hi]
 have vsame:∀ j o,ops[j]?=some o→j ∉ fl→vops[j]?=some o:=fun j o ho hj=>by rw [hvget,ho];simp [seen,hj]
 have flal:∀ i∈fl,∃ o t ob mk,ops[i]?=some o∧o.op=.alloc t∧floOp P (fun _=>.und) (.alloc t)=some (ob,mk):=fun i hi=>by
   have:=List.all_eq_true.1 hal i hi
   unfold allocB at this
   split at this
   · rename_i o ho
     split at this
     · rename_i t ht
       obtain ⟨x,hx⟩:=Option.isSome_iff_exists.1 this
       exact ⟨o,t,x.1,x.2,ho,ht,hx⟩
     · cases this
   · cases this
 let obm:Nat→AO × (Nat→V):=fun i=>match ops[i]? with
   | some o=>(floOp P (fun _=>.und) o.op).getD (.mp 0 0 [],fun _=>.und)
   | none=>(.mp 0 0 [],fun _=>.und)
 have hobm:∀ i∈fl,∀ o,ops[i]?=some o→∀ ρ,floOp P ρ o.op=some ((obm i).1,(obm i).2):=fun i hi o ho ρ=>by
   obtain ⟨o',t,ob,mk,g1,g2,g3⟩:=flal i hi
   rw [ho] at g1;cases g1
   have e1:obm i=(ob,mk):=by show (match ops[i]? with | some o=>_ | none=>_)=_;rw [ho];show (floOp P _ o.op).getD _=_;rw [g2,g3];rfl
   rw [e1,g2]
   exact g3
 let dsf:Nat→Tmp:=fun i=>((ops[i]?).bind (·.dst)).getD 0
 have hds:∀ i o d,ops[i]?=some o→o.dst=some d→dsf i=d:=fun i o d ho hdd=>by show ((ops[i]?).bind (·.dst)).getD 0=d;rw [ho];simp [hdd]
 have X:∀ vals,FlOk P N ops vops fl l vals (clr N ops fl e) (fun i=>(obm i).1) (fun i=>(obm i).2) dsf:=by
   intro vals
   refine ⟨hvsz,vsame,fun i hi=>?_,fun i hi=>?_,fun i hi o ho t ht i' hi' hne=>?_,b2,b1,fun i hi=>?_,fun j o ho hj hjl ed he hb hf S hc hS=>?_,b3⟩
   · obtain ⟨o,d,g1,g2,g3,g4,g5,g6⟩:=flf i hi
     refine ⟨o,newAfter ops[l] o i,g1,vflo i hi o g1,g2,by rw [hds i o d g1 g3];exact g3,⟨[],fun t=>.inl rfl,hobm i hi o g1 _⟩,fun ed he hb=>?_⟩
     unfold newAfter at he
     have he:=Array.mem_filter.1 he
     refine ⟨fun _=>by simpa using he.2,?_⟩
     rcases Array.mem_append.1 he.1 with h | h
     · exact .inr ⟨ed,h,hb,rfl⟩
     · exact .inl ⟨ops[l],hol,ed,h,hb,rfl⟩
   · obtain ⟨o,d,g1,g2,g3,g4,g5,g6⟩:=flf i hi
     rw [hds i o d g1 g3]
     exact ⟨g4,clr_und fl e i d hi (by rw [g1];exact g3) g4,g5⟩
   · obtain ⟨o',d,g1,g2,g3,g4,g5,g6,g7⟩:=flf i hi
     rw [ho] at g1;cases g1
     obtain ⟨o2,d2,k1,k2,k3,_⟩:=flf i' hi'
     refine g7 t ht i' hi' ?_
     rw [k1]
     show o2.dst=some t
     rw [k3,← hne,hds i' o2 d2 k1 k3]
   · obtain ⟨o,d,g1,g2,g3,g4,g5,⟨ed,g6,g7,g8⟩,_⟩:=flf i hi
     exact ⟨ops[l],hol,ed,g6,g7,g8⟩
   · have hjs:j < ops.size:=(Array.getElem?_eq_some_iff.1 ho).1
     have:=List.all_eq_true.1 b5 j (List.mem_range.2 hjs)
     rw [ho] at this
     simp only [Bool.or_eq_true,List.contains_eq_mem,decide_eq_true_eq,beq_iff_eq,Bool.not_eq_true'] at this
     rcases this with (h | h) | (h | h)
     · exact absurd h hj
     · exact absurd h hjl
     · exfalso
       have hno:=h
       rw [Array.any_eq_false'] at hno
       have:=hno ed he
       simp [hb,hf] at this
     · unfold isBef at h
       exact befs_ok j l (by simpa using h) S hc (fun o' ho'=>by rw [ho] at ho';cases ho';exact hS)
 -- behind the call
 have lexF:∀ vs gs h2 pend2 e2,vs.length=vops.size→Upto4 P N vops es fl kk (clr N ops fl e) vs gs h2 pend2 e2→∀ j,j < ops.size→j≠kk→OpLex P N vops (fun i=>vs.getD i .und) (fun S=>gs.getD (cnt es S) AH0) (fun _=>D) (clr N ops fl e) j:=by
   intro vs gs h2 pend2 e2 hn u j hj hjk
   have ha:agrees (fun i=>vs.getD i .und) vs:=fun k _=>rfl
   have hlen:gs.length=es.length + 1:=by rw [u.len,hn,hrn]
   obtain q | ⟨o,ej,q1,q2,q3⟩:=u.lex j (by rw [hn,hvsz];exact hj)
   · exact absurd q hjk
   refine .ord (hlit j) (fun i _=>hlit i) ej (q2 _ ha) o q1 (by unfold want;rw [hguard j o q1]) (fun S hc hr=>?_) fun _ _ _=>rfl
   by_cases hf:j∈fl
   · rw [if_pos hf] at q3
     have hm:=hsub j hf
     show yields P o.op ej (gs.getD (cnt es S) AH0) (gs.getD (cnt es (addS S j)) AH0) (vs.getD j .und)
     rw [cnt_add_mem hp hm hr.1,cnt_eff hp hm hc hr]
     obtain ⟨q4,q5,ob,mk,q6,q7,q8⟩:=q3
     rw [q7,q8]
     have hz:=(floOp_spec q6).1 (gs.getD (rank es j) AH0)
     unfold yields
     cases hop:o.op <;> rw [hop] at hz q6 <;> first | exact hz | (exfalso;unfold floOp at q6;cases q6;done)
   · rw [if_neg hf] at q3
     show yields P o.op ej (gs.getD (cnt es S) AH0) (gs.getD (cnt es (addS S j)) AH0) (vs.getD j .und)
     by_cases hm:j∈es
     · rw [if_pos hm] at q3
       rw [cnt_add_mem hp hm hr.1,cnt_eff hp hm hc hr]
       exact q3.2
     · rw [if_neg hm] at q3
       rw [cnt_add_not hm]
       rcases q3 with ⟨q3,g,q4⟩ | ⟨q3,_⟩
       · exact memless_ok q3 q4
       · exact q3 _ (cnt_lo hc hr) (cnt_hi hc hr) (by rw [hlen];have:=cnt_le (es:=es) (S:=S);omega)
 have floF:∀ vs gs h2 pend2 e2,vs.length=vops.size→Upto4 P N vops es fl kk (clr N ops fl e) vs gs h2 pend2 e2→gs.getD 0 AH0=h→∀ i∈fl,∀ T,Closed vops T→Ready vops T i →
     OwnBut h (gs.getD (cnt es T) AH0)∧vs.getD i .und=(obm i).2 (gs.getD (cnt es T) AH0).next∧gs.getD (cnt es (addS T i)) AH0=(gs.getD (cnt es T) AH0).make (obm i).1∧D=D:=by
   intro vs gs h2 pend2 e2 hn u hg i hi T hc hr
   have hm:=hsub i hi
   obtain ⟨oi,d,g1,_⟩:=flf i hi
   have his:i < vops.size:=by rw [hvsz];exact (Array.getElem?_eq_some_iff.1 g1).1
   obtain q | ⟨o,ej,q1,q2,q3⟩:=u.lex i (by rw [hn];exact his)
   · exact absurd (q▸hi) hkf
   rw [if_pos hi] at q3
   obtain ⟨q4,q5,ob,mk,q6,q7,q8⟩:=q3
   have e2:=vflo i hi oi g1
   rw [q1] at e2;cases e2
   have e3:=hobm i hi oi g1 (opnd ej)
   have q6:floOp P (opnd ej) oi.op=some (ob,mk):=q6
   rw [q6] at e3;cases e3
   rw [cnt_add_mem hp hm hr.1,cnt_eff hp hm hc hr]
   exact ⟨hg▸q5,q7,q8,rfl⟩
 -- what is seen,and ready
 have ready':∀ {S:Nat→Bool} {j:Nat},Closed ops S→Ready ops S j→j ∉ fl→(j≠l∨fl=[])→j < ops.size→Ready vops (vis fl l S) j:=by
   intro S j hc hr hj hjl hjs
   rcases hjl with hjl | hjl
   · exact (X (fun _=>.und)).ready hc hr hj hjl hjs
   · refine ⟨by unfold vis;rw [hr.1];rfl,fun o ho e he hb=>?_⟩
     have hoj:ops[j]?=some ops[j]:=by simp [hjs]
     rw [vsame j _ hoj hj] at ho;cases ho
     refine vis_of (hr.2 _ hoj e he hb) fun hf=>?_
     rw [hjl] at hf;cases hf
 have visadd:∀ {S:Nat→Bool} {j:Nat},j ∉ fl→(j≠l∨fl=[])→vis fl l (addS S j)=addS (vis fl l S) j:=by
   intro S j hj hjl
   rcases hjl with hjl | hjl
   · exact vis_add hj hjl
   · subst hjl
     have:∀ S,vis [] l S=S:=fun S=>by funext i;unfold vis;simp
     rw [this,this]
 have before:∀ {V:Nat→Bool} {i:Nat},Closed vops V→V kk=false→V i=true→i < ops.size→i < kk:=by
   intro V i hc hk hi his
   rcases Nat.lt_trichotomy i kk with q | q | q
   · exact q
   · subst q;rw [hk] at hi;cases hi
   · exfalso
     have:=befs_ok i kk (by have:=hcut i his q;simpa [isBef] using this) V hc (fun o ho e he hb=>hc i o ho hi e he hb)
     rw [hk] at this;cases this
 have visk:∀ {S:Nat→Bool},S kk=false→vis fl l S kk=false:=fun h=>by unfold vis;rw [h];rfl
 have esz:∀ i∈es,i < ops.size:=fun i hi=>by have:=List.all_eq_true.1 h5 i hi;rw [hvsz] at this;simpa using this
 have hlen0:gs0.length=rank es kk + 1:=by rw [u0.len,hl0]
 obtain ⟨B1,F1,hBL,hheld⟩:∃ B1,Fits P B1 ι h W∧BaseLe B B1∧∀ n,(∃ o',h.m n=some o'∧o'.isOwn=false)→∃ L,ι n=some L∧B1.F L.blk:=⟨_,F.hold⟩
 -- the state behind a part of the operations
 let I0:(Nat→Bool)→Act→World→Prop:=FInv P B1 ι N (fun _=>D) vops fl l (fun i=>(obm i).1) (fun i=>(obm i).2) dsf (fun i=>vs0.getD i .und) (fun S=>gs0.getD (cnt es S) AH0) (clr N ops fl e)
 let I1:(Nat→Bool)→Act→World→Prop:=fun S a W=>∃ vs gs h2 pend2 e2,vs.length=vops.size∧gs.getD 0 AH0=h∧Upto4 P N vops es fl kk (clr N ops fl e) vs gs h2 pend2 e2∧Q .normal e2 h2 ∧
   FInv P B1 ι N (fun _=>D) vops fl l (fun i=>(obm i).1) (fun i=>(obm i).2) dsf (fun i=>vs.getD i .und) (fun S=>gs.getD (cnt es S) AH0) (clr N ops fl e) S a W
 let I:(Nat→Bool)→Act→World→Prop:=fun S a W=>(S kk=false∧I0 S a W)∨(S kk=true∧I1 S a W)
 have hS0:setOf (Array.replicate ops.size false)=fun _=>false:=by
   funext i
   unfold setOf
   by_cases hi:i < ops.size <;> simp [hi]
 have hnone:∀ vals k,envK N vops vals (clr N ops fl e) (fun _=>false) k=clr N ops fl e:=by
   intro vals k
   induction k with
   | zero=>rfl
   | succ k ih=>simp only [envK,cond_false,ih]
 refine wp_region_any h1 (family_of (I:=I) hbo (fun S j a W hjs hc hr g=>?_) (fun S a w hS g=>?_) ops.size _ a _ (by simp) ?_ ?_ ?_)
 · have hoj:ops[j]?=some ops[j]:=by simp [hjs]
   rcases g with ⟨hk,g⟩ | ⟨hk,vs,gs,h2',pend2,e2,s1,s4,s2,s3,g⟩
   rotate_left
   · -- behind the call
     have hjk:j≠kk:=fun q=>by have:=hr.1;rw [q,hk] at this;cases this
     refine wpOp_mono (fun a' w' g'=>.inr ⟨by rw [addS_ne S (Ne.symm hjk)];exact hk,vs,gs,h2',pend2,e2,s1,s4,s2,s3,g'⟩) (finv_step K hpo h2 hlit (X _) (fun _=>lexF vs gs h2' pend2 e2 s1 s2 j hjs hjk) hheld (fun _=>floF vs gs h2' pend2 e2 s1 s2 s4) hjs hc hr g _)
   have hV:=visk (S:=S) hk
   have hcV:=(X (fun _=>.und)).closed hc
   by_cases hjf:j∈fl
   · -- a variable is made
     have hjk:j≠kk:=fun q=>hkf (q▸hjf)
     exact wpOp_mono (fun a' w' g'=>.inl ⟨by rw [addS_ne S (Ne.symm hjk)];exact hk,g'⟩) (finv_step K hpo h2 hlit (X _) (fun q=>absurd hjf q) hheld (fun q=>absurd (q▸hjf) b2) hjs hc hr g _)
   have hjl:j≠l∨fl=[]:=by
     by_cases q:fl=[]
     · exact .inr q
     · refine .inl fun e=>?_
       subst e
       have hkl:kk < j:=hkl.resolve_right q
       -- the first use of the variables is behind the call
       have hcS:Closed vops S:=by
         intro i o ho hi ed he hb
         by_cases hif:i∈fl
         · obtain ⟨oi,d,g1,_⟩:=flf i hif
           rw [vflo i hif oi g1] at ho;cases ho
           unfold newAfter at he
           have he:=(Array.mem_filter.1 he).1
           rcases Array.mem_append.1 he with h | h
           · exact hc i oi g1 hi ed h hb
           · exact hr.2 _ hoj ed h hb
         · have his:i < ops.size:=by have:=(Array.getElem?_eq_some_iff.1 ho).1;rw [hvsz] at this;exact this
           have g1:ops[i]?=some ops[i]:=by simp [his]
           rw [vsame i _ g1 hif] at ho;cases ho
           exact hc i _ g1 hi ed he hb
       have:=befs_ok j kk (by have:=hcut j hjs hkl;simpa [isBef] using this) S hcS (fun o ho ed he hb=>by
         rw [vsame j _ hoj hjf] at ho;cases ho
         exact hr.2 _ hoj ed he hb)
       rw [hk] at this;cases this
   obtain ⟨Bf,hb,gd,hfo⟩:=g
   have hrV:=ready' hc hr hjf hjl hjs
   have hvj:=vsame j _ hoj hjf
   have hadd:=visadd (S:=S) hjf hjl
   have ne:∀ i∈fl,i≠j:=fun i hi q=>hjf (q▸hi)
   have hdst:∀ i∈fl,(ops[j]).dst≠some (dsf i):=fun i hi hd=>hjf (((X (fun _=>.und)).slot i hi).2.2 j _ hoj hd▸hi)
   -- the variables that wait
   have wait:∀ a':Act,(∀ i∈fl,a'.tmps.getD (dsf i) undef=a.tmps.getD (dsf i) undef)→addS S j l=false→∃ bl:Nat→Nat,(∀ i∈fl,addS S j i=true→¬ B1.F (bl i)∧Flo P Bf ((obm i).1) ((obm i).2) (a'.tmps.getD (dsf i) undef) (bl i)) ∧
       ∀ i∈fl,∀ i'∈fl,addS S j i=true→addS S j i'=true→i≠i'→bl i≠bl i':=by
     intro a' ht hl
     have hSl:S l=false:=by
       by_cases q:l=j
       · subst q;rw [addS_self] at hl;cases hl
       · rw [addS_ne S q] at hl;exact hl
     obtain ⟨bl,q1,q2⟩:=hfo hSl
     refine ⟨bl,fun i hi hs=>?_,fun i hi i' hi' hs hs' hne=>?_⟩
     · rw [addS_ne S (ne i hi)] at hs
       rw [ht i hi]
       exact q1 i hi hs
     · rw [addS_ne S (ne i hi)] at hs
       rw [addS_ne S (ne i' hi')] at hs'
       exact q2 i hi i' hi' hs hs' hne
   by_cases hjk:j=kk
   · -- the call
     subst hjk
     rw [hl0] at ho0
     have eo:ops[j]=o0:=by rw [ho0] at hvj;cases hvj;rfl
     have hm:(gs0.getD (cnt es (vis fl l S)) AH0)=h0:=by
       rw [cnt_eff hp hkm hcV hrV,← hl0];exact u0.cur
     have st:=nd_step (P:=P) (ι0:=ι) (B:=Bf) (D:=D) (mem:=fun S=>gs0.getD (cnt es S) AH0) (vals:=fun i=>vs0.getD i .und) (e:=e1) K h2 hlit ho0 (hguard _ _ ho0) (by have:=u0.below (fun i=>vs0.getD i .und) (fun k _=>rfl);rw [hl0] at this;exact this) hcV hrV (by rw [hm];exact hv0) gd (Post P B ι N D Q)
     have st2:=wpOp_keeps (ds:=dsf) hoj fl hdst (wpOp_same (X (fun _=>.und)).dsts hoj (by rw [eo];exact ho0) st)
     refine wpOp_mono (fun a' w' g'=>?_) st2
     obtain ⟨⟨v,h',q1,q2⟩,q3⟩:=g'
     obtain ⟨vs,gs,h3,e3,pend3,s1,⟨x,s2⟩,⟨y,s3⟩,s4,s5⟩:=outc v h' q1
     refine .inr ⟨addS_self ..,vs,gs,h3,pend3,e3,s1,by rw [s3,r4,List.append_assoc,List.append_assoc];rfl,s4,s5,Bf,hb,?_,wait a' q3⟩
     rw [hadd]
     refine q2 _ _ (fun i his hi=>?_) ?_ ?_
     · have:=before hcV hV hi (by rw [hvsz] at his;exact his)
       show vs.getD i .und=vs0.getD i .und
       rw [s2,List.append_assoc,getD_app (by omega)]
     · show vs.getD j .und=v
       rw [s2,getD_app (by simp;omega),← hl0,getD_last]
     · show gs.getD (cnt es (addS (vis fl l S) j)) AH0=h'
       rw [cnt_add_mem hp hkm hV,cnt_eff hp hkm hcV hrV,← hlen0,s3,getD_app (by simp),getD_last]
   · -- ahead of the call
     have hjlt:j < kk:=by
       rcases Nat.lt_trichotomy j kk with q | q | q
       · exact q
       · exact absurd q hjk
       · have:=bef_done (hcut j hjs q) hcV hrV
         rw [hV] at this;cases this
     obtain q | ⟨o,ej,q1,q2,q3⟩:=u0.lex j (by omega)
     · exact absurd q hjk
     have hcnt:cnt es (vis fl l S)≤rank es kk:=cnt_cut fun i hi hb=>before hcV hV hb (esz i hi)
     have hy:yields P o.op ej ((fun S=>gs0.getD (cnt es S) AH0) (vis fl l S)) ((fun S=>gs0.getD (cnt es S) AH0) (addS (vis fl l S) j)) ((fun i=>vs0.getD i .und) j):=by
       show yields P o.op ej (gs0.getD (cnt es (vis fl l S)) AH0) (gs0.getD (cnt es (addS (vis fl l S) j)) AH0) (vs0.getD j .und)
       rw [if_neg hjf] at q3
       by_cases hm:j∈es
       · rw [if_pos hm] at q3
         rw [cnt_add_mem hp hm hrV.1,cnt_eff hp hm hcV hrV]
         exact q3.2
       · rw [if_neg hm] at q3
         rw [cnt_add_not hm]
         rcases q3 with ⟨q3,g,q4⟩ | ⟨q3,_⟩
         · exact memless_ok q3 q4
         · exact q3 _ (cnt_lo hcV hrV) (cnt_hi hcV hrV) (by omega)
     have eo:ops[j]=o:=by rw [q1] at hvj;cases hvj;rfl
     have st:=good_step1 (P:=P) (ι0:=ι) (B:=Bf) (D:=D) (mem:=fun S=>gs0.getD (cnt es S) AH0) (vals:=fun i=>vs0.getD i .und) K h2 hlit q1 (hguard _ _ q1) (q2 _ (fun k _=>rfl)) hcV hrV hy gd (Post P B ι N D Q)
     have st2:=wpOp_keeps (ds:=dsf) hoj fl hdst (wpOp_same (X (fun _=>.und)).dsts hoj (by rw [eo];exact q1) st)
     refine wpOp_mono (fun a' w' g'=>.inl ⟨by rw [addS_ne S (Ne.symm hjk)];exact hk,Bf,hb,by rw [hadd];exact g'.1,wait a' g'.2⟩) st2
 · -- the end
   obtain ⟨hk,_⟩ | ⟨hk,vs,gs,h2',pend2,e2,s1,s4,s2,s3,g⟩:=g
   · rw [hS kk (by rw [← hvsz];exact hks)] at hk;cases hk
   obtain ⟨Bf,q0,gd,_⟩:=g
   obtain ⟨ι',B',k1,k2,k3,k4,k5⟩:=gd.ex
   have hv:∀ i,i < ops.size→vis fl l S i=true:=fun i hi=>vis_of (hS i hi) fun _=>hS l b1
   refine ⟨ι',h2',e2,.normal,k1,?_,?_,trivial,s3⟩
   · have:cnt es (vis fl l S)=es.length:=by
       unfold cnt
       rw [List.countP_eq_length]
       intro j hj
       exact hv j (esz j hj)
     have e4:gs.getD (cnt es (vis fl l S)) AH0=h2':=by rw [this,← hrn,← s1];exact s2.cur
     rw [e4] at k3;exact k3.rebase (hBL.trans (q0.trans k2))
   · refine relE_of k4 fun t=>?_
     rw [envK_same (S:=vis fl l S) (S':=fun _=>true) t vops.size fun i hi _=>hv i (by rw [← hvsz];exact hi)]
     have:=s2.below (fun i=>vs.getD i .und) (fun k _=>rfl)
     rw [s1] at this
     exact this t
 · unfold left
   refine Nat.le_trans List.countP_le_length ?_
   simp
 · rw [hS0];intro i o ho h;cases h
 · rw [hS0]
   have hv0':vis fl l (fun _=>false)=fun _=>false:=by funext i;rfl
   have hc0:cnt es (fun _=>false)=0:=by unfold cnt;rw [List.countP_eq_zero];intro _ _;simp
   refine .inl ⟨rfl,_,BaseLe.refl _,⟨ι,_,Names.le_refl _,BaseLe.refl _,?_,?_,?_⟩,fun _=>⟨fun _=>0,(fun i _ h=>nomatch h),(fun i _ i' _ h=>nomatch h)⟩⟩
   · show Fits P B1 ι (gs0.getD (cnt es (vis fl l fun _=>false)) AH0) _
     rw [hv0',hc0,r4,getD_app (by simp)]
     exact F1.drew _
   · rw [hv0',hnone];exact relE_of r fun t=>clr_get fl e t
   · intro i d s dd hl h;rw [hlit i] at hl;cases hl
end Go.Ab
