import Derived.Calls
import Derived.Below
import Derived.KernelRfl
import Derived.Laws.Sem
import Derived.Laws.Cells
import Derived.WalkKit
import Derived.ChangeKeysEq
import Derived.Laws.StructEq
import Derived.Lib.SlBytesConst
set_option linter.unusedVariables false
set_option linter.unusedSimpArgs false
namespace Go.Ab
inductive BTy where
 | one (t:TypeId)
 | row (e:TypeId)
 deriving DecidableEq
structure PA where
 n:Nat
 ty:BTy
 p:List Nat
 deriving DecidableEq
inductive V where
 | bool (b:Bool)
 | int (k:IntKind) (n:Int)
 | str (s:List UInt8)
 | ptr (a:Option PA)
 | slc (a:Option (PA × Nat)) (len:Nat)
 | agg (l:List V)
 | map (r:Option Nat)
 | fn (f:Fn) (first captured:List V)
 | nilFn
 | ifc (t:TypeId) (v:V)
 | nilIfc
 | tup (l:List V)
 | und
instance:Inhabited V:=⟨.und⟩
def ul (P:Program) (t:TypeId):Option TypeDesc:=if t < P.types.size then P.underlying t else none
def lay (P:Program):TypeId→List Nat→Option (Nat × TypeId)
 | t,[]=>some (0,t)
 | t,i :: p =>
   match ul P t with
   | some (.struct fs) =>
     match fs[i]? with
     | some f=>match lay P f.type p with
       | some (o,u)=>some (f.offset + o,u)
       | none=>none
     | none=>none
   | some (.array _ e)=>match lay P e p with
     | some (o,u)=>some (i * P.cellsOf e + o,u)
     | none=>none
   | _=>none
def layB (P:Program):BTy→List Nat→Option (Nat × TypeId)
 | .one t,p=>lay P t p
 | .row e,i :: p=>match lay P e p with
   | some (o,u)=>some (i * P.cellsOf e + o,u)
   | none=>none
 | .row _,[]=>none
def rowAt (P:Program) (ty:BTy) (p:List Nat):Option (Nat × TypeId) :=
 match ty,p with
 | .row e,[]=>some (0,e)
 | ty,p=>match layB P ty p with
   | some (o,t)=>match ul P t with
     | some (.array _ e)=>some (o,e)
     | _=>none
   | none=>none
structure Loc where
 blk:Nat
 off:Nat
 size:Nat
 ty:BTy
abbrev Names:=Nat→Option Loc
def aggOK:V→Value→Bool
 | .agg _,.agg _=>true
 | .agg _,_=>false
 | _,.agg _=>false
 | _,_=>true
def relA (P:Program) (ι:Names) (a:PA) (x:Addr):Prop :=
 ∃ L o t,ι a.n=some L∧L.ty=a.ty∧layB P a.ty a.p=some (o,t)∧x=⟨L.blk,L.off + o,none⟩
def relRow (P:Program) (ι:Names) (a:PA) (s cap:Nat) (x:Addr):Prop :=
 ∃ L o e,ι a.n=some L∧L.ty=a.ty∧rowAt P a.ty a.p=some (o,e)∧x=⟨L.blk,L.off + o + s * P.cellsOf e,none⟩ ∧
   L.off + o + (s + cap) * P.cellsOf e≤L.size
mutual
def relC (P:Program) (ι:Names):V→List Value→Prop
 | .agg l,cs=>relCs P ι l cs
 | .bool b,cs=>cs=[.bool b]
 | .int k n,cs=>cs=[.int k n]
 | .str s,cs=>cs=[.string ⟨s.toArray⟩]
 | .ptr none,cs=>cs=[.pointer none]
 | .ptr (some a),cs=>∃ x,relA P ι a x∧cs=[.pointer (some x)]
 | .slc none len,cs=>len=0∧cs=[.slice none 0 0]
 | .slc (some (a,s)) len,cs=>∃ x cap,len≤cap∧(∃ L,ι a.n=some L)∧(0 < cap→relRow P ι a s cap x)∧cs=[.slice (some x) len cap]
 | .map none,cs=>cs=[.map none]
 | .map (some n),cs=>∃ L,ι n=some L∧cs=[.map (some L.blk)]
 | .fn f a b,cs=>∃ a' b',relL P ι a a'∧relL P ι b b'∧cs=[.func f a'.toArray b'.toArray]
 | .nilFn,cs=>cs=[.nilFunc]
 | .ifc t v,cs=>∃ y,aggOK v y=true∧relC P ι v y.cells.toList∧cs=[.iface t y]
 | .nilIfc,cs=>cs=[.nilIface]
 | .tup l,cs=>∃ vs,relL P ι l vs∧cs=[.tuple vs.toArray]
 | .und,_=>False
def relCs (P:Program) (ι:Names):List V→List Value→Prop
 | [],cs=>cs=[]
 | v :: vs,cs=>∃ a b,relC P ι v a∧relCs P ι vs b∧cs=a++b
def relL (P:Program) (ι:Names):List V→List Value→Prop
 | [],xs=>xs=[]
 | v :: vs,xs=>∃ y ys,(v=.und∨aggOK v y=true∧relC P ι v y.cells.toList)∧relL P ι vs ys∧xs=y :: ys
end
def rel (P:Program) (ι:Names) (v:V) (x:Value):Prop:=v=.und∨aggOK v x=true∧relC P ι v x.cells.toList
def leafT (P:Program) (t:TypeId) (f:TypeDesc→Bool):Bool :=
 match ul P t with
 | some d=>f d
 | none=>false
mutual
def hasShape (P:Program):V→TypeId→Bool
 | .agg l,t=>match ul P t with
   | some (.struct fs)=>shapes P l (fs.toList.map (·.type))
   | some (.array n e)=>l.length == n && shapesAll P l e
   | _=>false
 | .und,_=>false
 | .tup _,_=>false
 | .bool _,t=>leafT P t fun | .bool=>true | _=>false
 | .int k _,t=>leafT P t fun | .int k'=>decide (k=k') | _=>false
 | .str _,t=>leafT P t fun | .string=>true | _=>false
 | .ptr _,t=>leafT P t fun | .pointer _=>true | _=>false
 | .slc _ _,t=>leafT P t fun | .slice _=>true | _=>false
 | .map _,t=>leafT P t fun | .map _ _=>true | _=>false
 | .fn _ _ _,t=>leafT P t fun | .func _ _ _=>true | _=>false
 | .nilFn,t=>leafT P t fun | .func _ _ _=>true | _=>false
 | .ifc _ _,t=>leafT P t fun | .interface _=>true | _=>false
 | .nilIfc,t=>leafT P t fun | .interface _=>true | _=>false
def shapes (P:Program):List V→List TypeId→Bool
 | [],[]=>true
 | v :: vs,t :: ts=>hasShape P v t && shapes P vs ts
 | _,_=>false
def shapesAll (P:Program):List V→TypeId→Bool
 | [],_=>true
 | v :: vs,e=>hasShape P v e && shapesAll P vs e
end
def shapeB (P:Program) (v:V):BTy→Bool
 | .one t=>hasShape P v t
 | .row e=>match v with
   | .agg l=>shapesAll P l e
   | _=>false
def getV:V→List Nat→Option V
 | v,[]=>some v
 | .agg l,i :: p=>match l[i]? with
   | some x=>getV x p
   | none=>none
 | _,_ :: _=>none
def setV:V→List Nat→V→Option V
 | _,[],w=>some w
 | .agg l,i :: p,w=>match l[i]? with
   | some x=>match setV x p w with
     | some y=>some (.agg (l.set i y))
     | none=>none
   | none=>none
 | _,_ :: _,_=>none
def offsOk (P:Program):List Field→Nat→Bool
 | [],_=>true
 | f :: fs,o=>f.offset == o && offsOk P fs (o + P.cellsOf f.type)
structure LayOK (P:Program):Prop where
 struct:∀ t fs,ul P t=some (.struct fs)→P.cellsOf t=(fs.toList.map fun f=>P.cellsOf f.type).sum ∧
   ∀ i f,fs[i]?=some f→f.offset=((fs.toList.take i).map fun f=>P.cellsOf f.type).sum
 offs:∀ t fs,ul P t=some (.struct fs)→offsOk P fs.toList 0=true
 array:∀ t n e,ul P t=some (.array n e)→P.cellsOf t=n * P.cellsOf e
 leaf:∀ t d,ul P t=some d→(∀ fs,d≠.struct fs)→(∀ n e,d≠.array n e)→P.cellsOf t=1
def layAt (P:Program) (t:TypeId):Bool :=
 match ul P t with
 | some (.struct fs)=>P.cellsOf t == (fs.toList.map fun f=>P.cellsOf f.type).sum && offsOk P fs.toList 0
 | some (.array n e)=>P.cellsOf t == n * P.cellsOf e
 | some _=>P.cellsOf t == 1
 | none=>true
end Go.Ab
namespace Go.Ab
variable {P:Program} {ι ι':Names}
def Names.le (ι ι':Names):Prop:=∀ n L,ι n=some L→ι' n=some L
theorem Names.le_refl (ι:Names):Names.le ι ι:=fun _ _ h=>h
theorem Names.le_trans {a b c:Names} (h:Names.le a b) (k:Names.le b c):Names.le a c:=fun n L e=>k n L (h n L e)
theorem relA_le (h:Names.le ι ι') {a:PA} {x:Addr} (r:relA P ι a x):relA P ι' a x:=by
 obtain ⟨L,o,t,h1,h2⟩:=r;exact ⟨L,o,t,h _ _ h1,h2⟩
theorem relRow_le (h:Names.le ι ι') {a:PA} {s c:Nat} {x:Addr} (r:relRow P ι a s c x):relRow P ι' a s c x:=by
 obtain ⟨L,o,e,h1,h2⟩:=r;exact ⟨L,o,e,h _ _ h1,h2⟩
mutual
theorem relC_le (h:Names.le ι ι'):∀ (v:V) (cs:List Value),relC P ι v cs→relC P ι' v cs
 | .agg l,cs,r=>by simp only [relC] at r ⊢;exact relCs_le h l cs r
 | .bool _,_,r=>by simpa only [relC] using r
 | .int _ _,_,r=>by simpa only [relC] using r
 | .str _,_,r=>by simpa only [relC] using r
 | .ptr none,_,r=>by simpa only [relC] using r
 | .ptr (some _),_,r=>by
   simp only [relC] at r ⊢
   obtain ⟨x,h1,h2⟩:=r;exact ⟨x,relA_le h h1,h2⟩
 | .slc none _,_,r=>by simpa only [relC] using r
 | .slc (some (_,_)) _,_,r=>by
   simp only [relC] at r ⊢
   obtain ⟨x,c,h1,⟨L,hL⟩,h2,h3⟩:=r;exact ⟨x,c,h1,⟨L,h _ _ hL⟩,fun hc=>relRow_le h (h2 hc),h3⟩
 | .map none,_,r=>by simpa only [relC] using r
 | .map (some _),_,r=>by
   simp only [relC] at r ⊢
   obtain ⟨L,h1,h2⟩:=r;exact ⟨L,h _ _ h1,h2⟩
 | .fn _ a b,_,r=>by
   simp only [relC] at r ⊢
   obtain ⟨a',b',h1,h2,h3⟩:=r;exact ⟨a',b',relL_le h a a' h1,relL_le h b b' h2,h3⟩
 | .nilFn,_,r=>by simpa only [relC] using r
 | .ifc _ v,_,r=>by
   simp only [relC] at r ⊢
   obtain ⟨y,h1,h2,h3⟩:=r;exact ⟨y,h1,relC_le h v _ h2,h3⟩
 | .nilIfc,_,r=>by simpa only [relC] using r
 | .tup l,_,r=>by
   simp only [relC] at r ⊢
   obtain ⟨vs,h1,h2⟩:=r;exact ⟨vs,relL_le h l vs h1,h2⟩
 | .und,_,r=>by simp only [relC] at r
theorem relCs_le (h:Names.le ι ι'):∀ (l:List V) (cs:List Value),relCs P ι l cs→relCs P ι' l cs
 | [],_,r=>by simpa only [relCs] using r
 | v :: vs,_,r=>by
   simp only [relCs] at r ⊢
   obtain ⟨a,b,h1,h2,h3⟩:=r;exact ⟨a,b,relC_le h v a h1,relCs_le h vs b h2,h3⟩
theorem relL_le (h:Names.le ι ι'):∀ (l:List V) (xs:List Value),relL P ι l xs→relL P ι' l xs
 | [],_,r=>by simpa only [relL] using r
 | v :: vs,_,r=>by
   simp only [relL] at r ⊢
   obtain ⟨y,ys,h1,h2,h3⟩:=r
   refine ⟨y,ys,?_,relL_le h vs ys h2,h3⟩
   rcases h1 with h1 | ⟨h1,h1'⟩
   · exact .inl h1
   · exact .inr ⟨h1,relC_le h v _ h1'⟩
end
theorem rel_le (h:Names.le ι ι') {v:V} {x:Value} (r:rel P ι v x):rel P ι' v x:=by
 rcases r with r | ⟨r1,r2⟩
 · exact .inl r
 · exact .inr ⟨r1,relC_le h v _ r2⟩
theorem relL_nil:relL P ι [] []:=by simp only [relL]
theorem relL_cons {v:V} {vs:List V} {x:Value} {xs:List Value} (h:rel P ι v x) (k:relL P ι vs xs):relL P ι (v :: vs) (x :: xs):=by
 simp only [relL];exact ⟨x,xs,h,k,rfl⟩
theorem relL_cons_iff {v:V} {vs:List V} {xs:List Value}:relL P ι (v :: vs) xs↔∃ y ys,rel P ι v y∧relL P ι vs ys∧xs=y :: ys:=by
 simp only [relL];rfl
theorem relL_length:∀ {l:List V} {xs:List Value},relL P ι l xs→xs.length=l.length
 | [],xs,h=>by simp only [relL] at h;subst h;rfl
 | v :: vs,xs,h=>by
   obtain ⟨y,ys,_,h2,rfl⟩:=relL_cons_iff.1 h
   simp [relL_length h2]
theorem relL_append:∀ {l m:List V} {xs ys:List Value},relL P ι l xs→relL P ι m ys→relL P ι (l++m) (xs++ys)
 | [],m,xs,ys,h,k=>by simp only [relL] at h;subst h;simpa using k
 | v :: vs,m,xs,ys,h,k=>by
   obtain ⟨y,zs,h1,h2,rfl⟩:=relL_cons_iff.1 h
   exact relL_cons h1 (relL_append h2 k)
theorem relL_get:∀ {l:List V} {xs:List Value} (_:relL P ι l xs) (i:Nat) {v:V},l[i]?=some v→∃ x,xs[i]?=some x∧rel P ι v x
 | [],xs,h,i,v,e=>by simp at e
 | w :: vs,xs,h,i,v,e=>by
   obtain ⟨y,ys,h1,h2,rfl⟩:=relL_cons_iff.1 h
   cases i with
   | zero=>simp at e;subst e;exact ⟨y,rfl,h1⟩
   | succ i=>simp at e;obtain ⟨x,hx,hr⟩:=relL_get h2 i e;exact ⟨x,by simpa using hx,hr⟩
theorem relCs_append:∀ {l m:List V} {a b:List Value},relCs P ι l a→relCs P ι m b→relCs P ι (l++m) (a++b)
 | [],m,a,b,h,k=>by simp only [relCs] at h;subst h;simpa using k
 | v :: vs,m,a,b,h,k=>by
   simp only [relCs] at h
   obtain ⟨x,y,h1,h2,rfl⟩:=h
   simp only [List.cons_append,relCs]
   exact ⟨x,y++b,h1,relCs_append h2 k,by simp⟩
theorem relCs_split:∀ {l m:List V} {cs:List Value},relCs P ι (l++m) cs→∃ a b,relCs P ι l a∧relCs P ι m b∧cs=a++b
 | [],m,cs,h=>⟨[],cs,by simp only [relCs],by simpa using h,rfl⟩
 | v :: vs,m,cs,h=>by
   simp only [List.cons_append,relCs] at h
   obtain ⟨x,y,h1,h2,rfl⟩:=h
   obtain ⟨a,b,h3,h4,rfl⟩:=relCs_split h2
   exact ⟨x++a,b,by simp only [relCs];exact ⟨x,a,h1,h3,rfl⟩,h4,by simp⟩
theorem relCs_cons {v:V} {vs:List V} {a b:List Value} (h:relC P ι v a) (k:relCs P ι vs b):relCs P ι (v :: vs) (a++b):=by
 simp only [relCs];exact ⟨a,b,h,k,rfl⟩
theorem leafT_some {t:TypeId} {f:TypeDesc→Bool} (h:leafT P t f=true):∃ d,ul P t=some d∧f d=true:=by
 unfold leafT at h
 split at h
 · exact ⟨_,by assumption,h⟩
 · cases h
theorem leaf_size {v:V} {t:TypeId} (H:LayOK P) (hv:∀ l,v≠.agg l) (hs:hasShape P v t=true):P.cellsOf t=1:=by
 have key:∃ f,leafT P t f=true∧(∀ fs,f (.struct fs)=false)∧∀ n e,f (.array n e)=false:=by
   cases v <;> first | exact absurd rfl (hv _) | (simp only [hasShape] at hs;first | exact ⟨_,hs,fun _=>rfl,fun _ _=>rfl⟩ | cases hs)
 obtain ⟨f,h1,h2,h3⟩:=key
 obtain ⟨d,hu,hd⟩:=leafT_some h1
 refine H.leaf t d hu ?_ ?_
 · rintro fs rfl;rw [h2] at hd;cases hd
 · rintro n e rfl;rw [h3] at hd;cases hd
theorem relC_leaf_len {v:V} {cs:List Value} (hv:∀ l,v≠.agg l) (h:relC P ι v cs):cs.length=1:=by
 cases v with
 | agg l=>exact absurd rfl (hv l)
 | ptr a => cases a <;> simp only [relC] at h
            · subst h;rfl
            · obtain ⟨_,_,rfl⟩:=h;rfl
 | slc a n=>cases a with
   | none=>simp only [relC] at h;obtain ⟨_,rfl⟩:=h;rfl
   | some a=>obtain ⟨a,s⟩:=a;simp only [relC] at h;obtain ⟨_,_,_,_,_,rfl⟩:=h;rfl
 | map r => cases r <;> simp only [relC] at h
            · subst h;rfl
            · obtain ⟨_,_,rfl⟩:=h;rfl
 | fn f a b=>simp only [relC] at h;obtain ⟨_,_,_,_,rfl⟩:=h;rfl
 | ifc t v=>simp only [relC] at h;obtain ⟨_,_,_,rfl⟩:=h;rfl
 | tup l=>simp only [relC] at h;obtain ⟨_,_,rfl⟩:=h;rfl
 | und=>simp only [relC] at h
 | _=>simp only [relC] at h;subst h;rfl
mutual
theorem size_ok (H:LayOK P):∀ (v:V) (t:TypeId) (cs:List Value),hasShape P v t=true→relC P ι v cs→cs.length=P.cellsOf t
 | .agg l,t,cs,hs,r=>by
   simp only [relC] at r
   simp only [hasShape] at hs
   split at hs
   · rename_i fs hu
     rw [(H.struct t fs hu).1]
     have:=sizes_ok H l (fs.toList.map (·.type)) cs hs r
     simpa [List.map_map,Function.comp_def] using this
   · rename_i n e hu
     simp only [Bool.and_eq_true,beq_iff_eq] at hs
     rw [H.array t n e hu,← hs.1]
     exact sizesAll_ok H l e cs hs.2 r
   · simp at hs
 | .bool b,t,cs,hs,r=>by rw [relC_leaf_len (by simp) r,leaf_size H (by simp) hs]
 | .int k n,t,cs,hs,r=>by rw [relC_leaf_len (by simp) r,leaf_size H (by simp) hs]
 | .str s,t,cs,hs,r=>by rw [relC_leaf_len (by simp) r,leaf_size H (by simp) hs]
 | .ptr a,t,cs,hs,r=>by rw [relC_leaf_len (by simp) r,leaf_size H (by simp) hs]
 | .slc a n,t,cs,hs,r=>by rw [relC_leaf_len (by simp) r,leaf_size H (by simp) hs]
 | .map a,t,cs,hs,r=>by rw [relC_leaf_len (by simp) r,leaf_size H (by simp) hs]
 | .fn f a b,t,cs,hs,r=>by rw [relC_leaf_len (by simp) r,leaf_size H (by simp) hs]
 | .nilFn,t,cs,hs,r=>by rw [relC_leaf_len (by simp) r,leaf_size H (by simp) hs]
 | .ifc u v,t,cs,hs,r=>by rw [relC_leaf_len (by simp) r,leaf_size H (by simp) hs]
 | .nilIfc,t,cs,hs,r=>by rw [relC_leaf_len (by simp) r,leaf_size H (by simp) hs]
 | .tup l,t,cs,hs,r=>by simp [hasShape] at hs
 | .und,t,cs,hs,r=>by simp [hasShape] at hs
theorem sizes_ok (H:LayOK P):∀ (l:List V) (ts:List TypeId) (cs:List Value),shapes P l ts=true→relCs P ι l cs→cs.length=(ts.map P.cellsOf).sum
 | [],[],cs,_,r=>by simp only [relCs] at r;subst r;rfl
 | [],_ :: _,cs,h,_=>by simp [shapes] at h
 | _ :: _,[],cs,h,_=>by simp [shapes] at h
 | v :: vs,t :: ts,cs,h,r=>by
   simp only [shapes,Bool.and_eq_true] at h
   simp only [relCs] at r
   obtain ⟨a,b,h1,h2,rfl⟩:=r
   rw [List.length_append,size_ok H v t a h.1 h1,sizes_ok H vs ts b h.2 h2]
   simp
theorem sizesAll_ok (H:LayOK P):∀ (l:List V) (e:TypeId) (cs:List Value),shapesAll P l e=true→relCs P ι l cs→cs.length=l.length * P.cellsOf e
 | [],e,cs,_,r=>by simp only [relCs] at r;subst r;simp
 | v :: vs,e,cs,h,r=>by
   simp only [shapesAll,Bool.and_eq_true] at h
   simp only [relCs] at r
   obtain ⟨a,b,h1,h2,rfl⟩:=r
   rw [List.length_append,size_ok H v e a h.1 h1,sizesAll_ok H vs e b h.2 h2]
   simp [Nat.add_mul,Nat.add_comm]
end
theorem shapesAll_get:∀ {l:List V} {e:TypeId} {i:Nat} {v:V},shapesAll P l e=true→l[i]?=some v→hasShape P v e=true
 | [],e,i,v,h,k=>by simp at k
 | w :: vs,e,0,v,h,k=>by simp only [shapesAll,Bool.and_eq_true] at h;simp at k;subst k;exact h.1
 | w :: vs,e,i + 1,v,h,k=>by simp only [shapesAll,Bool.and_eq_true] at h;exact shapesAll_get h.2 (by simpa using k)
theorem shapesAll_set:∀ {l:List V} {e:TypeId} {i:Nat} {v:V},shapesAll P l e=true→hasShape P v e=true→shapesAll P (l.set i v) e=true
 | [],e,i,v,h,k=>by simpa using h
 | w :: vs,e,0,v,h,k=>by simp only [shapesAll,Bool.and_eq_true] at h;simp only [List.set_cons_zero,shapesAll,k,h.2,Bool.and_self]
 | w :: vs,e,i + 1,v,h,k=>by
   simp only [shapesAll,Bool.and_eq_true] at h
   simp only [List.set_cons_succ,shapesAll,h.1,shapesAll_set h.2 k,Bool.and_self]
theorem shapesAll_append:∀ {l m:List V} {e:TypeId},shapesAll P (l++m) e=(shapesAll P l e && shapesAll P m e)
 | [],m,e=>by simp [shapesAll]
 | w :: vs,m,e=>by simp [shapesAll,shapesAll_append,Bool.and_assoc]
theorem shapesAll_take:∀ {l:List V} {e:TypeId} (i:Nat),shapesAll P l e=true→shapesAll P (l.take i) e=true
 | [],e,i,h=>by simpa using h
 | w :: vs,e,0,h=>by simp [shapesAll]
 | w :: vs,e,i + 1,h=>by
   simp only [shapesAll,Bool.and_eq_true] at h
   simp only [List.take_succ_cons,shapesAll,h.1,shapesAll_take i h.2,Bool.and_self]
theorem shapesAll_drop:∀ {l:List V} {e:TypeId} (i:Nat),shapesAll P l e=true→shapesAll P (l.drop i) e=true
 | [],e,i,h=>by simpa using h
 | w :: vs,e,0,h=>by simpa using h
 | w :: vs,e,i + 1,h=>by
   simp only [shapesAll,Bool.and_eq_true] at h
   simpa using shapesAll_drop i h.2
theorem shapesAll_rep {v:V} {e:TypeId} (h:hasShape P v e=true):∀ n,shapesAll P (List.replicate n v) e=true
 | 0=>by simp [shapesAll]
 | n + 1=>by simp [List.replicate_succ,shapesAll,h,shapesAll_rep h n]
theorem shapes_get:∀ {l:List V} {ts:List TypeId} {i:Nat} {v:V},shapes P l ts=true→l[i]?=some v→∃ t,ts[i]?=some t∧hasShape P v t=true
 | [],ts,i,v,h,k=>by simp at k
 | w :: vs,[],i,v,h,k=>by simp [shapes] at h
 | w :: vs,t :: ts,0,v,h,k=>by simp only [shapes,Bool.and_eq_true] at h;simp at k;subst k;exact ⟨t,rfl,h.1⟩
 | w :: vs,t :: ts,i + 1,v,h,k=>by
   simp only [shapes,Bool.and_eq_true] at h
   obtain ⟨u,h1,h2⟩:=shapes_get h.2 (i:=i) (by simpa using k)
   exact ⟨u,by simpa using h1,h2⟩
theorem shapes_set:∀ {l:List V} {ts:List TypeId} {i:Nat} {v:V} {t:TypeId},shapes P l ts=true→ts[i]?=some t→hasShape P v t=true→shapes P (l.set i v) ts=true
 | [],ts,i,v,t,h,k,hv=>by simpa using h
 | w :: vs,[],i,v,t,h,k,hv=>by simp [shapes] at h
 | w :: vs,u :: ts,0,v,t,h,k,hv=>by
   simp only [shapes,Bool.and_eq_true] at h;simp at k;subst k
   simp only [List.set_cons_zero,shapes,hv,h.2,Bool.and_self]
 | w :: vs,u :: ts,i + 1,v,t,h,k,hv=>by
   simp only [shapes,Bool.and_eq_true] at h
   simp only [List.set_cons_succ,shapes,h.1,shapes_set h.2 (by simpa using k) hv,Bool.and_self]
theorem shapes_take:∀ {l:List V} {ts:List TypeId} (i:Nat),shapes P l ts=true→shapes P (l.take i) (ts.take i)=true
 | l,ts,0,h=>by simp [shapes]
 | [],[],i + 1,h=>by simp [shapes]
 | [],_ :: _,i + 1,h=>by simp [shapes] at h
 | _ :: _,[],i + 1,h=>by simp [shapes] at h
 | v :: vs,t :: ts,i + 1,h=>by
   simp only [shapes,Bool.and_eq_true] at h
   simp only [List.take_succ_cons,shapes,h.1,shapes_take i h.2,Bool.and_self]
theorem split_at {α:Type}:∀ {l:List α} {i:Nat} {x:α},l[i]?=some x→l=l.take i++x :: l.drop (i + 1)
 | [],i,x,h=>by simp at h
 | y :: l,0,x,h=>by simp at h;subst h;simp
 | y :: l,i + 1,x,h=>by
   have:=split_at (l:=l) (i:=i) (x:=x) (by simpa using h)
   simp only [List.take_succ_cons,List.drop_succ_cons,List.cons_append]
   rw [← this]
theorem set_at {α:Type}:∀ {l:List α} {i:Nat} {x:α} (y:α),l[i]?=some x→l.set i y=l.take i++y :: l.drop (i + 1)
 | [],i,x,y,h=>by simp at h
 | z :: l,0,x,y,h=>by simp
 | z :: l,i + 1,x,y,h=>by
   have:=set_at (l:=l) (i:=i) (x:=x) y (by simpa using h)
   simp only [List.set_cons_succ,List.take_succ_cons,List.drop_succ_cons,List.cons_append,this]
theorem relCs_at {l:List V} {cs:List Value} {i:Nat} {v:V} (h:l[i]?=some v) (r:relCs P ι l cs) :
   ∃ a b c,cs=a++b++c∧relCs P ι (l.take i) a∧relC P ι v b∧relCs P ι (l.drop (i + 1)) c:=by
 rw [split_at h] at r
 obtain ⟨a,d,h1,h2,rfl⟩:=relCs_split r
 simp only [relCs] at h2
 obtain ⟨b,c,h3,h4,rfl⟩:=h2
 exact ⟨a,b,c,by simp,h1,h3,h4⟩
theorem relCs_put {l:List V} {a b c:List Value} {i:Nat} {v w:V} (h:l[i]?=some v) (h1:relCs P ι (l.take i) a) (h2:relC P ι w b) (h3:relCs P ι (l.drop (i + 1)) c) :
   relCs P ι (l.set i w) (a++b++c):=by
 rw [set_at w h,List.append_assoc]
 exact relCs_append h1 (relCs_cons h2 h3)
theorem part_ok (H:LayOK P):∀ (p:List Nat) (v:V) (t:TypeId) (cs:List Value) (o:Nat) (u:TypeId) (w:V),
   hasShape P v t=true→relC P ι v cs→lay P t p=some (o,u)→getV v p=some w →
   hasShape P w u=true∧∃ a b c,cs=a++b++c∧a.length=o∧relC P ι w b ∧
     (∀ (w':V) (b':List Value) (v':V),hasShape P w' u=true→relC P ι w' b'→setV v p w'=some v'→hasShape P v' t=true∧relC P ι v' (a++b'++c))
 | [],v,t,cs,o,u,w,hs,r,hl,hg=>by
   simp only [lay,Option.some.injEq,Prod.mk.injEq] at hl
   obtain ⟨rfl,rfl⟩:=hl
   simp only [getV,Option.some.injEq] at hg
   subst hg
   refine ⟨hs,[],cs,[],by simp,rfl,r,?_⟩
   intro w' b' v' h1 h2 h3
   simp only [setV,Option.some.injEq] at h3
   subst h3
   exact ⟨h1,by simpa using h2⟩
 | i :: p,v,t,cs,o,u,w,hs,r,hl,hg=>by
   cases v with
   | agg l =>
     simp only [getV] at hg
     cases hx:l[i]? with
     | none=>simp [hx] at hg
     | some x =>
       simp only [hx] at hg
       simp only [relC] at r
       obtain ⟨a,b,c,rfl,h1,h2,h3⟩:=relCs_at hx r
       simp only [lay] at hl
       simp only [hasShape] at hs
       split at hl
       · rename_i fs hu
         rw [hu] at hs
         simp only at hs
         split at hl
         · rename_i f hf
           split at hl
           · rename_i o' u' hl'
             simp only [Option.some.injEq,Prod.mk.injEq] at hl
             obtain ⟨rfl,rfl⟩:=hl
             obtain ⟨tx,ht,hsx⟩:=shapes_get hs hx
             have htf:tx=f.type:=by
               simp only [List.getElem?_map,Array.getElem?_toList,hf,Option.map_some,Option.some.injEq] at ht
               exact ht.symm
             subst htf
             obtain ⟨hw,a2,b2,c2,hcs,hlen,hrw,hset⟩:=part_ok H p x f.type b o' u' w hsx h2 hl' hg
             refine ⟨hw,a++a2,b2,c2++c,by rw [hcs];simp,?_,hrw,?_⟩
             · have:=sizes_ok H _ _ a (shapes_take i hs) h1
               rw [List.length_append,this,hlen,(H.struct t fs hu).2 i f hf]
               simp [← List.map_take,List.map_map,Function.comp_def]
             · intro w' b' v' g1 g2 g3
               simp only [setV,hx] at g3
               split at g3
               · rename_i y hy
                 simp only [Option.some.injEq] at g3
                 subst g3
                 obtain ⟨k1,k2⟩:=hset w' b' y g1 g2 hy
                 refine ⟨?_,?_⟩
                 · simp only [hasShape,hu]
                   exact shapes_set hs ht k1
                 · simp only [relC]
                   have:=relCs_put hx h1 k2 h3
                   simpa [List.append_assoc] using this
               · simp at g3
           · simp at hl
         · simp at hl
       · rename_i n e hu
         rw [hu] at hs
         simp only [Bool.and_eq_true,beq_iff_eq] at hs
         split at hl
         · rename_i o' u' hl'
           simp only [Option.some.injEq,Prod.mk.injEq] at hl
           obtain ⟨rfl,rfl⟩:=hl
           have hsx:=shapesAll_get hs.2 hx
           obtain ⟨hw,a2,b2,c2,hcs,hlen,hrw,hset⟩:=part_ok H p x e b o' u' w hsx h2 hl' hg
           refine ⟨hw,a++a2,b2,c2++c,by rw [hcs];simp,?_,hrw,?_⟩
           · have:=sizesAll_ok H _ e a (shapesAll_take i hs.2) h1
             have hi:i < l.length:=by
               rcases Nat.lt_or_ge i l.length with h | h
               · exact h
               · simp [List.getElem?_eq_none h] at hx
             rw [List.length_append,this,hlen,List.length_take,Nat.min_eq_left (Nat.le_of_lt hi)]
           · intro w' b' v' g1 g2 g3
             simp only [setV,hx] at g3
             split at g3
             · rename_i y hy
               simp only [Option.some.injEq] at g3
               subst g3
               obtain ⟨k1,k2⟩:=hset w' b' y g1 g2 hy
               refine ⟨?_,?_⟩
               · simp only [hasShape,hu,List.length_set,hs.1,beq_self_eq_true,Bool.true_and]
                 exact shapesAll_set hs.2 k1
               · simp only [relC]
                 have:=relCs_put hx h1 k2 h3
                 simpa [List.append_assoc] using this
             · simp at g3
         · simp at hl
       · simp at hl
   | _=>simp [getV] at hg
theorem partB_ok (H:LayOK P) (ty:BTy) (p:List Nat) (v:V) (cs:List Value) (o:Nat) (u:TypeId) (w:V)
   (hs:shapeB P v ty=true) (r:relC P ι v cs) (hl:layB P ty p=some (o,u)) (hg:getV v p=some w) :
   hasShape P w u=true∧∃ a b c,cs=a++b++c∧a.length=o∧relC P ι w b ∧
     (∀ (w':V) (b':List Value) (v':V),hasShape P w' u=true→relC P ι w' b'→setV v p w'=some v'→shapeB P v' ty=true∧relC P ι v' (a++b'++c)):=by
 cases ty with
 | one t=>exact part_ok H p v t cs o u w hs r hl hg
 | row e =>
   cases p with
   | nil=>simp [layB] at hl
   | cons i p =>
     cases v with
     | agg l =>
       simp only [getV] at hg
       simp only [shapeB] at hs
       cases hx:l[i]? with
       | none=>simp [hx] at hg
       | some x =>
         simp only [hx] at hg
         simp only [relC] at r
         obtain ⟨a,b,c,rfl,h1,h2,h3⟩:=relCs_at hx r
         simp only [layB] at hl
         split at hl
         · rename_i o' u' hl'
           simp only [Option.some.injEq,Prod.mk.injEq] at hl
           obtain ⟨rfl,rfl⟩:=hl
           have hsx:=shapesAll_get hs hx
           obtain ⟨hw,a2,b2,c2,hcs,hlen,hrw,hset⟩:=part_ok H p x e b o' u' w hsx h2 hl' hg
           refine ⟨hw,a++a2,b2,c2++c,by rw [hcs];simp,?_,hrw,?_⟩
           · have:=sizesAll_ok H _ e a (shapesAll_take i hs) h1
             have hi:i < l.length:=by
               rcases Nat.lt_or_ge i l.length with h | h
               · exact h
               · simp [List.getElem?_eq_none h] at hx
             rw [List.length_append,this,hlen,List.length_take,Nat.min_eq_left (Nat.le_of_lt hi)]
           · intro w' b' v' g1 g2 g3
             simp only [setV,hx] at g3
             split at g3
             · rename_i y hy
               simp only [Option.some.injEq] at g3
               subst g3
               obtain ⟨k1,k2⟩:=hset w' b' y g1 g2 hy
               refine ⟨?_,?_⟩
               · simp only [shapeB]
                 exact shapesAll_set hs k1
               · simp only [relC]
                 have:=relCs_put hx h1 k2 h3
                 simpa [List.append_assoc] using this
             · simp at g3
         · simp at hl
     | _=>simp [getV] at hg
theorem offsOk_spec (P:Program):∀ (fs:List Field) (o:Nat),offsOk P fs o=true→∀ i f,fs[i]?=some f→f.offset=o + ((fs.take i).map fun f=>P.cellsOf f.type).sum
 | [],o,_,i,f,h=>by simp at h
 | g :: fs,o,h,i,f,k=>by
   simp only [offsOk,Bool.and_eq_true,beq_iff_eq] at h
   cases i with
   | zero=>simp at k;subst k;simp [h.1]
   | succ i =>
     have:=offsOk_spec P fs _ h.2 i f (by simpa using k)
     rw [this];simp [Nat.add_assoc]
theorem ul_some {t:TypeId} {d:TypeDesc} (h:ul P t=some d):P.underlying t=some d:=by
 unfold ul at h;split at h
 · exact h
 · simp at h
theorem layOK_of (P:Program) (h:∀ t,t < P.types.size→layAt P t=true):LayOK P:=by
 have key:∀ t,layAt P t=true:=by
   intro t
   by_cases ht:t < P.types.size
   · exact h t ht
   · have hn:ul P t=none:=by simp [ul,ht]
     simp [layAt,hn]
 refine ⟨fun t fs hu=>?_,fun t fs hu=>?_,fun t n e hu=>?_,fun t d hu h1 h2=>?_⟩
 · have:=key t
   simp only [layAt,hu,Bool.and_eq_true,beq_iff_eq] at this
   refine ⟨this.1,fun i f hf=>?_⟩
   have:=offsOk_spec P fs.toList 0 this.2 i f (by simpa using hf)
   simpa using this
 · have:=key t
   simp only [layAt,hu,Bool.and_eq_true,beq_iff_eq] at this
   exact this.2
 · have:=key t
   simpa only [layAt,hu,beq_iff_eq] using this
 · have:=key t
   simp only [layAt,hu] at this
   cases d <;> first | exact absurd rfl (h1 _) | exact absurd rfl (h2 _ _) | simpa using this
end Go.Ab
namespace Go.Ab
open Go Go.RowKit
inductive AO where
 | cells (own:Bool) (ty:BTy) (v:V)
 | mp (kt et:TypeId) (es:List (V × V))
 | mps (kt et:TypeId) (es:List (V × V)) (st:List Nat) (clock:Nat)
 | sit (s:List UInt8) (pos:Nat)
 | mit (m:Option Nat) (since:Nat) (seen:List Nat) (last:Nat)
def AO.isOwn:AO→Bool
 | .cells own _ _=>own
 | _=>true
structure AH where
 next:Nat
 m:Nat→Option AO
def AH.put (h:AH) (n:Nat) (o:AO):AH:={ h with m:=fun i=>if i=n then some o else h.m i }
def AH.make (h:AH) (o:AO):AH:={ next:=h.next + 1,m:=fun i=>if i=h.next then some o else h.m i }
def AH.kill (h:AH) (n:Nat):AH:={ h with m:=fun i=>if i=n then none else h.m i }
structure Base where
 F:Nat→Prop
 W0:World
def unfrozen (fr:Nat × Nat) (n:Nat):Prop:=∀ i,i < n→¬ (fr.1≤i∧i < fr.2)
def relM (P:Program) (ι:Names) (kt et:TypeId):List (V × V)→List MapEntry→Prop
 | [],xs=>xs=[]
 | (k,v) :: es,xs=>∃ e rest,xs=e :: rest∧(rel P ι k e.key∧hasShape P k kt=true)∧(rel P ι v e.val∧hasShape P v et=true)∧relM P ι kt et es rest
def exactB (P:Program) (ty:BTy) (elem:TypeId) (L:Loc):Prop :=
 match ty with
 | .one t=>elem=t∧L.off=0∧L.size=P.cellsOf t
 | .row e=>elem=e
def Stamped (xs:List MapEntry) (clock:Nat):Prop:=(∀ x∈xs,x.born < clock)∧(xs.map (·.born)).Nodup
def objR (P:Program) (ι:Names) (W:World) (L:Loc):AO→Prop
 | .cells own ty v=>L.ty=ty∧shapeB P v ty=true∧∃ a b c elem fr,W.heap[L.blk]?=some (.cells (a++b++c).toArray elem fr) ∧
     a.length=L.off∧(a++b++c).length=L.size∧relC P ι v b∧(own=true→unfrozen fr L.size∧exactB P ty elem L)
 | .mp kt et es=>∃ xs clock,W.heap[L.blk]?=some (.map xs clock)∧relM P ι kt et es xs.toList∧Stamped xs.toList clock
 | .mps kt et es st clock=>∃ xs,W.heap[L.blk]?=some (.map xs clock)∧relM P ι kt et es xs.toList∧Stamped xs.toList clock∧xs.toList.map (·.born)=st
 | .sit s pos=>L.off=0∧W.heap[L.blk]?=some (.stringIter ⟨s.toArray⟩ pos)
 | .mit m since seen last=>L.off=0∧∃ mb,(match m with
     | none=>mb=none
     | some n=>∃ M,ι n=some M∧mb=some M.blk)∧W.heap[L.blk]?=some (.mapIter mb since seen.toArray last)
structure Fits (P:Program) (B:Base) (ι:Names) (h:AH) (W:World):Prop where
 obj:∀ n o,h.m n=some o→∃ L,ι n=some L∧objR P ι W L o
 fresh:∀ n,h.next≤n→ι n=none
 apart:∀ n n' o o' L L',h.m n=some o→h.m n'=some o'→n≠n'→o.isOwn=true→ι n=some L→ι n'=some L'→L.blk≠L'.blk
 free:∀ n o L,h.m n=some o→o.isOwn=true→ι n=some L→¬ B.F L.blk
 frame:∀ b,B.F b→W.heap[b]?=B.W0.heap[b]?∧b < W.heap.size
 os:W.os=B.W0.os
 tape:W.tape=B.W0.tape
 output:W.output=B.W0.output
 size:B.W0.heap.size≤W.heap.size
variable {P:Program} {B:Base} {ι:Names} {h:AH} {W:World}
theorem getBlk_lt {W:World} {b:Nat} {o:Obj} (h:W.heap[b]?=some o):b < W.heap.size:=by
 rcases Nat.lt_or_ge b W.heap.size with k | k
 · exact k
 · simp [Array.getElem?_eq_none k] at h
theorem objR_blk {L:Loc} {o:AO} (h:objR P ι W L o):L.blk < W.heap.size:=by
 cases o with
 | cells own ty v=>obtain ⟨_,_,a,b,c,elem,fr,h1,_⟩:=h;exact getBlk_lt h1
 | mp kt et es=>obtain ⟨xs,c,h1,_⟩:=h;exact getBlk_lt h1
 | mps kt et es st c=>obtain ⟨xs,h1,_⟩:=h;exact getBlk_lt h1
 | sit s p=>exact getBlk_lt h.2
 | mit m a b c=>obtain ⟨_,mb,_,h1⟩:=h;exact getBlk_lt h1
theorem relM_le {ι':Names} {kt et:TypeId} (h:Names.le ι ι'):∀ {es:List (V × V)} {xs:List MapEntry},relM P ι kt et es xs→relM P ι' kt et es xs
 | [],xs,r=>by simpa only [relM] using r
 | (k,v) :: es,xs,r=>by
   simp only [relM] at r ⊢
   obtain ⟨e,rest,h1,h2,h3,h4⟩:=r
   exact ⟨e,rest,h1,⟨rel_le h h2.1,h2.2⟩,⟨rel_le h h3.1,h3.2⟩,relM_le h h4⟩
theorem objR_keep {ι':Names} {W':World} {L:Loc} {o:AO} (hl:Names.le ι ι') (hb:W'.heap[L.blk]?=W.heap[L.blk]?) (r:objR P ι W L o):objR P ι' W' L o:=by
 cases o with
 | cells own ty v =>
   obtain ⟨h1,h2,a,b,c,elem,fr,h3,h4,h5,h6,h7⟩:=r
   exact ⟨h1,h2,a,b,c,elem,fr,by rw [hb];exact h3,h4,h5,relC_le hl _ _ h6,h7⟩
 | mp kt et es =>
   obtain ⟨xs,c,h1,h2,h3⟩:=r
   exact ⟨xs,c,by rw [hb];exact h1,relM_le hl h2,h3⟩
 | mps kt et es st c =>
   obtain ⟨xs,h1,h2,h3⟩:=r
   exact ⟨xs,by rw [hb];exact h1,relM_le hl h2,h3⟩
 | sit s p=>exact ⟨r.1,by rw [hb];exact r.2⟩
 | mit m a b c =>
   obtain ⟨h0,mb,h1,h2⟩:=r
   refine ⟨h0,mb,?_,by rw [hb];exact h2⟩
   cases m with
   | none=>exact h1
   | some n=>obtain ⟨M,g1,g2⟩:=h1;exact ⟨M,hl _ _ g1,g2⟩
theorem Fits.drew (F:Fits P B ι h W) (n:Nat):Fits P B ι h { W with drawn:=n } :=
 ⟨fun k o hk=>let ⟨L,h1,h2⟩:=F.obj k o hk;⟨L,h1,objR_keep (Names.le_refl _) rfl h2⟩,F.fresh,F.apart,F.free,F.frame,F.os,F.tape,F.output,F.size⟩
theorem addr_add (b o n:Nat):(⟨b,o,none⟩:Addr).add n=⟨b,o + n,none⟩:=by
 unfold Addr.add;split
 · rename_i h;subst h;rfl
 · rfl
theorem relC_one {v:V} {cs:List Value} (hv:∀ l,v≠.agg l) (hr:relC P ι v cs):∃ x,cs=[x]∧∀ ys,x≠.agg ys:=by
 cases v with
 | agg l=>exact absurd rfl (hv l)
 | ptr a => cases a <;> simp only [relC] at hr
            · subst hr;exact ⟨_,rfl,by simp⟩
            · obtain ⟨_,_,rfl⟩:=hr;exact ⟨_,rfl,by simp⟩
 | slc a n=>cases a with
   | none=>simp only [relC] at hr;obtain ⟨_,rfl⟩:=hr;exact ⟨_,rfl,by simp⟩
   | some a=>obtain ⟨a,s⟩:=a;simp only [relC] at hr;obtain ⟨_,_,_,_,_,rfl⟩:=hr;exact ⟨_,rfl,by simp⟩
 | map r => cases r <;> simp only [relC] at hr
            · subst hr;exact ⟨_,rfl,by simp⟩
            · obtain ⟨_,_,rfl⟩:=hr;exact ⟨_,rfl,by simp⟩
 | fn f a b=>simp only [relC] at hr;obtain ⟨_,_,_,_,rfl⟩:=hr;exact ⟨_,rfl,by simp⟩
 | ifc t v=>simp only [relC] at hr;obtain ⟨_,_,_,rfl⟩:=hr;exact ⟨_,rfl,by simp⟩
 | tup l=>simp only [relC] at hr;obtain ⟨_,_,rfl⟩:=hr;exact ⟨_,rfl,by simp⟩
 | und=>simp only [relC] at hr
 | _=>simp only [relC] at hr;subst hr;exact ⟨_,rfl,by simp⟩
theorem rel_leaf {v:V} {x:Value} (hv:∀ l,v≠.agg l) (hr:relC P ι v [x]):rel P ι v x:=by
 obtain ⟨y,h1,h2⟩:=relC_one hv hr
 obtain rfl:x=y:=by simpa using h1
 refine .inr ⟨?_,?_⟩
 · cases v <;> cases x <;> first | rfl | exact absurd rfl (hv _) | exact absurd rfl (h2 _)
 · cases x <;> first | exact hr | exact absurd rfl (h2 _)
theorem rel_leaf_inv {v:V} {x:Value} (hv:∀ l,v≠.agg l) (hu:v≠.und) (hr:rel P ι v x):relC P ι v [x]∧∀ ys,x≠.agg ys:=by
 rcases hr with h | ⟨h1,h2⟩
 · exact absurd h hu
 · cases x with
   | agg ys=>cases v <;> first | exact absurd rfl (hv _) | (simp [aggOK] at h1)
   | _=>exact ⟨h2,by simp⟩
mutual
theorem cells_ok:∀ (v:V) (t:TypeId) (cs:List Value),hasShape P v t=true→relC P ι v cs→∀ c∈cs,c.oneCell'=true
 | .agg l,t,cs,hs,r=>by
   simp only [relC] at r
   simp only [hasShape] at hs
   split at hs
   · exact cellss_ok l _ cs hs r
   · simp only [Bool.and_eq_true] at hs;exact cellsAll_ok l _ cs hs.2 r
   · simp at hs
 | .bool b,t,cs,hs,r=>by simp only [relC] at r;subst r;simp [Value.oneCell']
 | .int k n,t,cs,hs,r=>by simp only [relC] at r;subst r;simp [Value.oneCell']
 | .str s,t,cs,hs,r=>by simp only [relC] at r;subst r;simp [Value.oneCell']
 | .ptr none,t,cs,hs,r=>by simp only [relC] at r;subst r;simp [Value.oneCell']
 | .ptr (some a),t,cs,hs,r=>by simp only [relC] at r;obtain ⟨_,_,rfl⟩:=r;simp [Value.oneCell']
 | .slc none n,t,cs,hs,r=>by simp only [relC] at r;obtain ⟨_,rfl⟩:=r;simp [Value.oneCell']
 | .slc (some (a,s)) n,t,cs,hs,r=>by simp only [relC] at r;obtain ⟨_,_,_,_,_,rfl⟩:=r;simp [Value.oneCell']
 | .map none,t,cs,hs,r=>by simp only [relC] at r;subst r;simp [Value.oneCell']
 | .map (some n),t,cs,hs,r=>by simp only [relC] at r;obtain ⟨_,_,rfl⟩:=r;simp [Value.oneCell']
 | .fn f a b,t,cs,hs,r=>by simp only [relC] at r;obtain ⟨_,_,_,_,rfl⟩:=r;simp [Value.oneCell']
 | .nilFn,t,cs,hs,r=>by simp only [relC] at r;subst r;simp [Value.oneCell']
 | .ifc u v,t,cs,hs,r=>by simp only [relC] at r;obtain ⟨_,_,_,rfl⟩:=r;simp [Value.oneCell']
 | .nilIfc,t,cs,hs,r=>by simp only [relC] at r;subst r;simp [Value.oneCell']
 | .tup l,t,cs,hs,r=>by simp [hasShape] at hs
 | .und,t,cs,hs,r=>by simp [hasShape] at hs
theorem cellss_ok:∀ (l:List V) (ts:List TypeId) (cs:List Value),shapes P l ts=true→relCs P ι l cs→∀ c∈cs,c.oneCell'=true
 | [],ts,cs,_,r=>by simp only [relCs] at r;subst r;simp
 | _ :: _,[],cs,h,_=>by simp [shapes] at h
 | v :: vs,t :: ts,cs,h,r=>by
   simp only [shapes,Bool.and_eq_true] at h
   simp only [relCs] at r
   obtain ⟨a,b,h1,h2,rfl⟩:=r
   intro c hc
   rcases List.mem_append.1 hc with hc | hc
   · exact cells_ok v t a h.1 h1 c hc
   · exact cellss_ok vs ts b h.2 h2 c hc
theorem cellsAll_ok:∀ (l:List V) (e:TypeId) (cs:List Value),shapesAll P l e=true→relCs P ι l cs→∀ c∈cs,c.oneCell'=true
 | [],e,cs,_,r=>by simp only [relCs] at r;subst r;simp
 | v :: vs,e,cs,h,r=>by
   simp only [shapesAll,Bool.and_eq_true] at h
   simp only [relCs] at r
   obtain ⟨a,b,h1,h2,rfl⟩:=r
   intro c hc
   rcases List.mem_append.1 hc with hc | hc
   · exact cells_ok v e a h.1 h1 c hc
   · exact cellsAll_ok vs e b h.2 h2 c hc
end
theorem cell_in {W:World} {b:Nat} {a m c:List Value} {elem:TypeId} {fr:Nat × Nat} (hb:W.heap[b]?=some (.cells (a++m++c).toArray elem fr)) (i:Nat) (v:Value) (hi:m[i]?=some v) :
   W.cell? ⟨b,a.length + i,none⟩=some v:=by
 simp only [World.cell?,hb]
 have hlt:i < m.length:=by
   rcases Nat.lt_or_ge i m.length with h | h
   · exact h
   · simp [List.getElem?_eq_none h] at hi
 simp only [Option.isSome_none,Bool.false_eq_true,if_false]
 simp only [List.getElem?_toArray]
 rw [List.append_assoc,List.getElem?_append_right (by omega),List.getElem?_append_left (by omega)]
 have:a.length + i - a.length=i:=by omega
 rw [this,hi]
theorem run_loadCells_in {W:World} {b:Nat} {a m c:List Value} {elem:TypeId} {fr:Nat × Nat} (hb:W.heap[b]?=some (.cells (a++m++c).toArray elem fr)) :
   (loadCells ⟨b,a.length,none⟩ m.length).run P W=.ok m.toArray W :=
 run_loadCells_list W _ m fun j v hj=>by rw [addr_add];exact cell_in hb j v hj
def World.putRow (W:World) (b:Nat) (cs:List Value) (elem:TypeId) (fr:Nat × Nat):World:={ W with heap:=W.heap.setIfInBounds b (.cells cs.toArray elem fr) }
theorem putRow_at {W:World} {b:Nat} {cs:List Value} {elem:TypeId} {fr:Nat × Nat} (hb:b < W.heap.size):(World.putRow W b cs elem fr).heap[b]?=some (.cells cs.toArray elem fr):=by
 simp [World.putRow,hb]
theorem putRow_ne {W:World} {b k:Nat} {cs:List Value} {elem:TypeId} {fr:Nat × Nat} (hb:k≠b):(World.putRow W b cs elem fr).heap[k]?=W.heap[k]?:=by
 simp only [World.putRow]
 rw [Array.getElem?_setIfInBounds_ne (by omega)]
theorem putRow_putRow {W:World} {b:Nat} {cs cs':List Value} {elem elem':TypeId} {fr fr':Nat × Nat}:World.putRow (World.putRow W b cs elem fr) b cs' elem' fr'=World.putRow W b cs' elem' fr':=by
 simp [World.putRow]
theorem putRow_self {W:World} {b:Nat} {cs:List Value} {elem:TypeId} {fr:Nat × Nat} (hb:W.heap[b]?=some (.cells cs.toArray elem fr)):World.putRow W b cs elem fr=W:=by
 have hlt:=getBlk_lt hb
 have:W.heap.setIfInBounds b (.cells cs.toArray elem fr)=W.heap:=by
   apply Array.ext_getElem?
   intro i
   by_cases hi:i=b
   · subst hi;rw [hb];simp [hlt]
   · rw [Array.getElem?_setIfInBounds_ne (by omega)]
 simp [World.putRow,this]
theorem run_storeCells_in {b:Nat} {elem:TypeId} {fr:Nat × Nat}:∀ (m':List Value) (a m c:List Value) (W:World) (i:Nat),W.heap[b]?=some (.cells (a++m++c).toArray elem fr)→m'.length=m.length →
   unfrozen fr (a++m++c).length→(∀ v∈m',v.oneCell'=true)→∀ o,o + i=a.length →
   (storeCells ⟨b,o,none⟩ m' i).run P W=.ok () (World.putRow W b (a++m'++c) elem fr)
 | [],a,m,c,W,i,hb,hl,hf,h1,o,ho=>by
   obtain rfl:m=[]:=List.length_eq_zero_iff.1 (by simpa using hl.symm)
   rw [putRow_self hb];rfl
 | v :: rest,a,[],c,W,i,hb,hl,hf,h1,o,ho=>by simp at hl
 | v :: rest,a,x :: m,c,W,i,hb,hl,hf,h1,o,ho=>by
   have hv:=h1 v (by simp)
   have hc:W.cell? ((⟨b,o,none⟩:Addr).add i)=some x:=by
     rw [addr_add,ho]
     have:=cell_in (m:=x :: m) hb 0 x (by simp)
     simpa using this
   have hfz:W.frozen? ((⟨b,o,none⟩:Addr).add i)=false:=by
     rw [addr_add,ho]
     have:=hf a.length (by simp)
     obtain ⟨lo,hi⟩:=fr
     simp only [World.frozen?,hb,Bool.and_eq_false_iff,decide_eq_false_iff_not]
     simp only at this
     omega
   have hset:W.setCell ((⟨b,o,none⟩:Addr).add i) v=World.putRow W b (a++[v]++(m++c)) elem fr:=by
     rw [addr_add,ho]
     simp only [World.setCell,World.putRow]
     congr 1
     apply Array.ext_getElem?
     intro k
     by_cases hk:k=b
     · subst hk
       have hlt:=getBlk_lt hb
       rw [Array.getElem?_modify,if_pos rfl,hb,Array.getElem?_setIfInBounds_self_of_lt hlt]
       simp [List.set_append]
     · rw [Array.getElem?_modify,if_neg (by omega),Array.getElem?_setIfInBounds_ne (by omega)]
   simp only [storeCells,Sem.run_bind,run_store P _ _ _ _ hv,hc,hfz,Bool.false_eq_true,if_false,Result.andThen_ok,hset]
   have hb':(World.putRow W b (a++[v]++(m++c)) elem fr).heap[b]?=some (.cells ((a++[v])++m++c).toArray elem fr):=by
     rw [putRow_at (getBlk_lt hb)];simp
   have:=run_storeCells_in rest (a++[v]) m c _ (i + 1) hb' (by simpa using hl) (by simpa using hf) (fun w hw=>h1 w (by simp [hw])) o (by simp;omega)
   rw [this,putRow_putRow]
   simp
theorem run_underlying' {t:TypeId} {d:TypeDesc} (h:ul P t=some d) (W:World):(underlying t).run P W=.ok d W:=by
 have h:=ul_some h
 simp [underlying,h]
theorem cellsOf_info {t:TypeId} {d:TypeDesc} (h:ul P t=some d):∃ i,P.info? t=some i∧i.size=P.cellsOf t:=by
 have h:=ul_some h
 cases hi:P.info? t with
 | none=>simp [Program.underlying,hi] at h
 | some i=>exact ⟨i,rfl,by simp [Program.cellsOf,hi]⟩
theorem run_sizeOf' {t:TypeId} {d:TypeDesc} (h:ul P t=some d) (W:World):(sizeOf t).run P W=.ok (P.cellsOf t) W:=by
 obtain ⟨i,hi,hs⟩:=cellsOf_info h
 simp [Go.sizeOf,typeInfo,hi,hs]
theorem shape_ul {v:V} {t:TypeId} (h:hasShape P v t=true):∃ d,ul P t=some d:=by
 cases hu:ul P t with
 | some d=>exact ⟨d,rfl⟩
 | none=>cases v <;> simp [hasShape,leafT,hu] at h
def aggT (P:Program) (t:TypeId):Bool :=
 match ul P t with
 | some (.struct _)=>true
 | some (.array _ _)=>true
 | _=>false
theorem shape_agg {v:V} {t:TypeId} (h:hasShape P v t=true):aggT P t=(match v with | .agg _=>true | _=>false):=by
 unfold aggT
 cases v with
 | agg l=>simp only [hasShape] at h;split at h <;> simp_all
 | _ =>
   simp only [hasShape] at h
   first
     | (cases h;done)
     | (obtain ⟨d,hu,hd⟩:=leafT_some h
        cases d <;> simp_all)
theorem run_isAgg' {t:TypeId} {d:TypeDesc} (h:ul P t=some d) (W:World):(isAgg t).run P W=.ok (aggT P t) W:=by
 simp only [isAgg,Sem.run_bind,run_underlying' h,Result.andThen_ok,aggT,h]
 cases d <;> rfl
theorem run_loadVar' (H:LayOK P) {v:V} {t:TypeId} {W:World} {b:Nat} {a m c:List Value} {elem:TypeId} {fr:Nat × Nat} (hb:W.heap[b]?=some (.cells (a++m++c).toArray elem fr))
   (hs:hasShape P v t=true) (hr:relC P ι v m):∃ x,(loadVar t ⟨b,a.length,none⟩).run P W=.ok x W∧rel P ι v x∧v≠.und:=by
 obtain ⟨d,hu⟩:=shape_ul hs
 have hlen:=size_ok H v t m hs hr
 have hne:v≠.und:=by rintro rfl;simp [hasShape] at hs
 have hag:=shape_agg hs
 cases v with
 | agg l =>
   simp only at hag
   refine ⟨.agg m.toArray,?_,.inr ⟨rfl,by simpa [Value.cells] using hr⟩,hne⟩
   simp only [loadVar,Sem.run_bind,run_isAgg' hu,Result.andThen_ok,hag,if_true,run_sizeOf' hu,← hlen,run_loadCells_in hb,Sem.run_pure]
 | und=>exact absurd rfl hne
 | _ =>
   obtain ⟨x,rfl,hx⟩:=relC_one (by simp) hr
   refine ⟨x,?_,rel_leaf (by simp) hr,hne⟩
   have hc:=cell_in hb 0 x rfl
   simp only [Nat.add_zero] at hc
   simp only [loadVar,Sem.run_bind,run_isAgg' hu,Result.andThen_ok,hag,Bool.false_eq_true,if_false,run_load,hc]
theorem rel_cells {v:V} {x:Value} (hne:v≠.und) (hr:rel P ι v x):relC P ι v x.cells.toList:=by
 rcases hr with h | ⟨_,h⟩
 · exact absurd h hne
 · exact h
theorem run_storeVar' (H:LayOK P) {v w:V} {t:TypeId} {W:World} {b:Nat} {a m c:List Value} {elem:TypeId} {fr:Nat × Nat} (hb:W.heap[b]?=some (.cells (a++m++c).toArray elem fr))
   (hf:unfrozen fr (a++m++c).length) (hs:hasShape P v t=true) (hr:relC P ι v m) (hs':hasShape P w t=true) {x:Value} (hx:rel P ι w x) :
   (storeVar t ⟨b,a.length,none⟩ x).run P W=.ok () (World.putRow W b (a++x.cells.toList++c) elem fr):=by
 obtain ⟨d,hu⟩:=shape_ul hs
 have hne:w≠.und:=by rintro rfl;simp [hasShape] at hs'
 have hxc:=rel_cells hne hx
 have h1:=size_ok H v t m hs hr
 have h2:=size_ok H w t _ hs' hxc
 have h3:x.cells.size=P.cellsOf t:=by rw [← h2];simp
 simp only [storeVar,Sem.run_bind,run_sizeOf' hu,Result.andThen_ok,h3,ne_eq,not_true_eq_false,if_false,Sem.run_pure]
 exact run_storeCells_in _ a m c W 0 hb (by rw [h1,h2]) hf (cells_ok w t _ hs' hxc) _ rfl
theorem Fits.store (F:Fits P B ι h W) {n:Nat} {ty:BTy} {v v':V} {L:Loc} (hm:h.m n=some (.cells true ty v)) (hL:ι n=some L)
   {cs:List Value} {elem:TypeId} {fr:Nat × Nat} (ho:objR P ι (World.putRow W L.blk cs elem fr) L (.cells true ty v')) :
   Fits P B ι (h.put n (.cells true ty v')) (World.putRow W L.blk cs elem fr):=by
 obtain ⟨L',hL',hobj⟩:=F.obj n _ hm
 rw [hL] at hL';cases hL'
 have hlt:=objR_blk hobj
 refine ⟨?_,F.fresh,?_,?_,?_,F.os,F.tape,F.output,by simpa [World.putRow] using F.size⟩
 · intro k o hk
   by_cases e:k=n
   · subst e
     simp only [AH.put,if_true,Option.some.injEq] at hk
     subst hk
     exact ⟨L,hL,ho⟩
   · simp only [AH.put,if_neg e] at hk
     obtain ⟨Lk,h1,h2⟩:=F.obj k o hk
     refine ⟨Lk,h1,objR_keep (Names.le_refl _) ?_ h2⟩
     exact putRow_ne (fun e'=>F.apart n k _ _ L Lk hm hk (fun e''=>e e''.symm) rfl hL h1 e'.symm)
 · intro i j o o' Li Lj hi hj hne hown h1 h2
   simp only [AH.put] at hi hj
   split at hi <;> split at hj
   · omega
   · rename_i e1 _;subst e1;cases hi;exact F.apart i j _ _ Li Lj hm hj hne rfl h1 h2
   · rename_i _ e2;subst e2;cases hj;exact F.apart i j _ _ Li Lj hi hm hne hown h1 h2
   · exact F.apart i j _ _ Li Lj hi hj hne hown h1 h2
 · intro i o Li hi hown h1
   simp only [AH.put] at hi
   split at hi
   · rename_i e;subst e;cases hi;exact F.free i _ Li hm rfl h1
   · exact F.free i o Li hi hown h1
 · intro b hb
   obtain ⟨h1,h2⟩:=F.frame b hb
   have:b≠L.blk:=fun e=>F.free n _ L hm rfl hL (e▸hb)
   exact ⟨by rw [putRow_ne this,h1],by simpa [World.putRow] using h2⟩
def Names.add (ι:Names) (n:Nat) (L:Loc):Names:=fun i=>if i=n then some L else ι i
theorem Names.le_add {n:Nat} {L:Loc} (hn:ι n=none):Names.le ι (Names.add ι n L):=by
 intro i M hi
 unfold Names.add
 split
 · rename_i e;subst e;rw [hn] at hi;cases hi
 · exact hi
theorem Fits.make (F:Fits P B ι h W) (o:AO) (x:Obj) (L:Loc) (hL:L.blk=W.heap.size)
   (ho:objR P (Names.add ι h.next L) { W with heap:=W.heap.push x } L o) :
   Names.le ι (Names.add ι h.next L)∧Fits P B (Names.add ι h.next L) (h.make o) { W with heap:=W.heap.push x }:=by
 have hle:Names.le ι (Names.add ι h.next L):=Names.le_add (F.fresh _ (Nat.le_refl _))
 have hold:∀ k o',h.m k=some o'→k≠h.next:=by
   intro k o' hk e
   obtain ⟨L',h1,_⟩:=F.obj k o' hk
   rw [F.fresh k (by omega)] at h1;cases h1
 have hpush:∀ b,b < W.heap.size→(W.heap.push x)[b]?=W.heap[b]?:=by
   intro b hb;rw [Array.getElem?_push,if_neg (by omega)]
 refine ⟨hle,?_,?_,?_,?_,?_,F.os,F.tape,F.output,?_⟩
 · intro k o' hk
   simp only [AH.make] at hk
   split at hk
   · rename_i e;subst e;cases hk;exact ⟨L,by simp [Names.add],ho⟩
   · obtain ⟨L',h1,h2⟩:=F.obj k o' hk
     exact ⟨L',hle _ _ h1,objR_keep hle (hpush _ (objR_blk h2)) h2⟩
 · intro k hk
   simp only [AH.make] at hk
   simp only [Names.add]
   rw [if_neg (by omega)]
   exact F.fresh k (by omega)
 · intro i j o1 o2 Li Lj hi hj hne hown h1 h2
   have get:∀ k o' Lk,(AH.make h o).m k=some o'→Names.add ι h.next L k=some Lk→(k=h.next∧Lk=L)∨(k≠h.next∧h.m k=some o'∧ι k=some Lk∧Lk.blk < W.heap.size):=by
     intro k o' Lk a1 a2
     by_cases e:k=h.next
     · left;subst e;simp [Names.add] at a2;exact ⟨rfl,a2.symm⟩
     · right
       simp only [AH.make,if_neg e] at a1
       simp only [Names.add,if_neg e] at a2
       obtain ⟨L',b1,b2⟩:=F.obj k o' a1
       rw [a2] at b1;cases b1
       exact ⟨e,a1,a2,objR_blk b2⟩
   rcases get i o1 Li hi h1 with ⟨e1,e2⟩ | ⟨e1,e2,e3,e4⟩ <;> rcases get j o2 Lj hj h2 with ⟨f1,f2⟩ | ⟨f1,f2,f3,f4⟩
   · omega
   · subst e2;omega
   · subst f2;omega
   · exact F.apart i j o1 o2 Li Lj e2 f2 hne hown e3 f3
 · intro i o' Li hi hown h1
   simp only [AH.make] at hi
   simp only [Names.add] at h1
   split at hi
   · rename_i e;subst e;simp only [if_true,Option.some.injEq] at h1;subst h1
     intro hb
     have:=(F.frame _ hb).2
     omega
   · rename_i e;rw [if_neg e] at h1;exact F.free i o' Li hi hown h1
 · intro b hb
   obtain ⟨h1,h2⟩:=F.frame b hb
   exact ⟨by show (W.heap.push x)[b]?=_;rw [hpush b h2,h1],by show b < (W.heap.push x).size;simp;omega⟩
 · show _≤(W.heap.push x).size
   have:=F.size
   simp;omega
theorem Fits.sub (F:Fits P B ι h W) {h':AH} (hn:h'.next=h.next) (hs:∀ n o,h'.m n=some o→h.m n=some o):Fits P B ι h' W :=
 ⟨fun n o k=>F.obj n o (hs n o k),fun n k=>F.fresh n (by omega),fun n n' o o' L L' a b=>F.apart n n' o o' L L' (hs n o a) (hs n' o' b),fun n o L a=>F.free n o L (hs n o a),F.frame,F.os,F.tape,F.output,F.size⟩
theorem Fits.kill (F:Fits P B ι h W) (n:Nat):Fits P B ι (h.kill n) W :=
 F.sub rfl fun k o hk => by simp only [AH.kill] at hk; split at hk; · cases hk
                            · exact hk
end Go.Ab
namespace Go.Ab
open Go Go.RowKit
variable {P:Program} {ι:Names} {W:World}
mutual
def beqV:V→V→Option Bool
 | .bool a,.bool b=>some (a == b)
 | .int k a,.int k' b=>if k=k' then some (a == b) else none
 | .str a,.str b=>some (a == b)
 | .agg a,.agg b=>beqVs a b
 | .ptr none,.ptr b=>some b.isNone
 | .ptr (some _),.ptr none=>some false
 | .slc none _,.slc b _=>some b.isNone
 | .slc (some _) _,.slc none _=>some false
 | .map none,.map b=>some b.isNone
 | .map (some _),.map none=>some false
 | .nilFn,.nilFn=>some true
 | .nilFn,.fn _ _ _=>some false
 | .fn _ _ _,.nilFn=>some false
 | .nilIfc,.nilIfc=>some true
 | .nilIfc,.ifc _ _=>some false
 | .ifc _ _,.nilIfc=>some false
 | _,_=>none
def beqVs:List V→List V→Option Bool
 | [],[]=>some true
 | v :: vs,w :: ws=>match beqV v w with
   | some true=>beqVs vs ws
   | some false=>some false
   | none=>none
 | _,_=>none
end
def plainT (P:Program):Nat→TypeId→Bool
 | 0,_=>false
 | d + 1,t=>match ul P t with
   | some .bool=>true
   | some (.int _)=>true
   | some .string=>true
   | some (.struct fs)=>!P.stoodInHeld t && fs.toList.all fun f=>f.name != "_" && plainT P d f.type
   | some (.array _ e)=>plainT P d e
   | _=>false
theorem run_part' (H:LayOK P) {v:V} {t:TypeId} {a m c:List Value} (hs:hasShape P v t=true) (hr:relC P ι v m) (W:World) :
   ∃ x,(part t (a++m++c).toArray a.length).run P W=.ok x W∧rel P ι v x∧v≠.und:=by
 obtain ⟨d,hu⟩:=shape_ul hs
 have hlen:=size_ok H v t m hs hr
 have hne:v≠.und:=by rintro rfl;simp [hasShape] at hs
 have hag:=shape_agg hs
 cases v with
 | agg l =>
   simp only at hag
   refine ⟨.agg m.toArray,?_,.inr ⟨rfl,by simpa [Value.cells] using hr⟩,hne⟩
   simp only [part,Sem.run_bind,run_isAgg' hu,Result.andThen_ok,hag,if_true,run_sizeOf' hu,← hlen,Sem.run_pure,List.extract_toArray]
   congr 3
   simp [List.extract,List.drop_append,List.take_append]
 | und=>exact absurd rfl hne
 | _ =>
   obtain ⟨x,rfl,hx⟩:=relC_one (by simp) hr
   refine ⟨x,?_,rel_leaf (by simp) hr,hne⟩
   simp only [part,Sem.run_bind,run_isAgg' hu,Result.andThen_ok,hag,Bool.false_eq_true,if_false]
   have:(a++[x]++c).toArray[a.length]?=some x:=by simp
   rw [this];rfl
theorem fieldsOf_eq {t:TypeId} {fs:Array Field} (h:P.underlying t=some (.struct fs)):P.fieldsOf t=fs:=by
 simp [Program.fieldsOf,h]
mutual
theorem run_equalIn' (H:LayOK P):∀ (x y:V) (t:TypeId) (d D:Nat) (a b:Value) (r:Bool) (W:World),plainT P d t=true→d≤D→hasShape P x t=true→hasShape P y t=true →
   rel P ι x a→rel P ι y b→beqV x y=some r→(Op.equalIn D t a b).run P W=.ok r W
 | .agg l,y,t,0,D,a,b,r,W,hp,_,_,_,_,_,_=>by simp [plainT] at hp
 | .agg l,y,t,d + 1,D,a,b,r,W,hp,hD,hx,hy,ha,hb,he=>by
   obtain ⟨D,rfl⟩:∃ k,D=k + 1:=⟨D - 1,by omega⟩
   have hax:=rel_cells (by simp) ha
   cases y with
   | agg m =>
     have hbx:=rel_cells (by simp) hb
     simp only [beqV] at he
     rcases ha with ha | ⟨ha,_⟩
     · cases ha
     rcases hb with hb | ⟨hb,_⟩
     · cases hb
     cases a with
     | agg xs =>
       cases b with
       | agg ys =>
         simp only [Value.cells,relC] at hax hbx
         simp only [hasShape] at hx hy
         simp only [plainT] at hp
         cases hu:ul P t with
         | none=>rw [hu] at hp;simp at hp
         | some dd =>
           rw [hu] at hp hx hy
           cases dd with
           | struct fs =>
             simp only [Bool.and_eq_true,Bool.not_eq_true'] at hp hx hy
             have hu':=ul_some hu
             have hfo:=fieldsOf_eq hu'
             rw [run_equalIn_struct (P:=P) W D t xs ys (by rw [hfo];exact hu') hp.1,hfo]
             have hoff:=H.offs t fs hu
             have key:=run_eqFields' H l m fs.toList d D [] xs.toList [] ys.toList xs ys r W hp.2 (by omega) (by simpa using hx) (by simpa using hy) hax hbx (by simpa using hoff) rfl (by simp) (by simp) he
             exact key
           | array n e =>
             simp only [Bool.and_eq_true,beq_iff_eq] at hx hy
             have hu':=ul_some hu
             obtain ⟨i,hi⟩:∃ i,P.info? e=some i:=by
               cases l with
               | cons v vs =>
                 simp only [shapesAll,Bool.and_eq_true] at hx
                 obtain ⟨q,hq⟩:=shape_ul hx.2.1
                 obtain ⟨i,hi,_⟩:=cellsOf_info hq
                 exact ⟨i,hi⟩
               | nil =>
                 cases d with
                 | zero=>simp [plainT] at hp
                 | succ d =>
                   simp only [plainT] at hp
                   cases hq:ul P e with
                   | none=>rw [hq] at hp;simp at hp
                   | some q=>obtain ⟨i,hi,_⟩:=cellsOf_info hq;exact ⟨i,hi⟩
             rw [run_equalIn_array (P:=P) W D xs ys hu' hi]
             have key:=run_eqItems' H l m e d D 0 [] xs.toList [] ys.toList xs ys r W hp (by omega) hx.2 hy.2 hax hbx (by simp) (by simp) (by simp) (by simp) he
             rw [← hx.1]
             simpa [List.range_eq_range'] using key
           | _=>simp at hx
       | _=>simp [aggOK] at hb
     | _=>simp [aggOK] at ha
   | _=>simp [beqV] at he
 | .bool p,y,t,d,D,a,b,r,W,hp,hD,hx,hy,ha,hb,he=>by
   obtain ⟨D,rfl⟩:∃ k,D=k + 1:=⟨D - 1,by cases d with | zero=>simp [plainT] at hp | succ d=>omega⟩
   simp only [hasShape] at hx
   obtain ⟨dd,hu,hd⟩:=leafT_some hx
   cases y with
   | bool q =>
     have ha':=(rel_leaf_inv (by simp) (by simp) ha).1
     have hb':=(rel_leaf_inv (by simp) (by simp) hb).1
     simp only [relC,List.cons.injEq,and_true] at ha' hb'
     subst ha';subst hb'
     simp only [beqV,Option.some.injEq] at he
     subst he
     cases dd <;> simp at hd
     simp only [Op.equalIn,Sem.run_bind,run_underlying' hu,Result.andThen_ok,Sem.run_pure]
   | _=>simp [beqV] at he
 | .int k p,y,t,d,D,a,b,r,W,hp,hD,hx,hy,ha,hb,he=>by
   obtain ⟨D,rfl⟩:∃ k,D=k + 1:=⟨D - 1,by cases d with | zero=>simp [plainT] at hp | succ d=>omega⟩
   simp only [hasShape] at hx
   obtain ⟨dd,hu,hd⟩:=leafT_some hx
   cases y with
   | int k' q =>
     have ha':=(rel_leaf_inv (by simp) (by simp) ha).1
     have hb':=(rel_leaf_inv (by simp) (by simp) hb).1
     simp only [relC,List.cons.injEq,and_true] at ha' hb'
     subst ha';subst hb'
     simp only [beqV] at he
     split at he
     · rename_i hk
       subst hk
       simp only [Option.some.injEq] at he
       subst he
       cases dd <;> simp at hd
       simp only [Op.equalIn,Sem.run_bind,run_underlying' hu,Result.andThen_ok,Sem.run_pure,if_true]
     · cases he
   | _=>simp [beqV] at he
 | .str p,y,t,d,D,a,b,r,W,hp,hD,hx,hy,ha,hb,he=>by
   obtain ⟨D,rfl⟩:∃ k,D=k + 1:=⟨D - 1,by cases d with | zero=>simp [plainT] at hp | succ d=>omega⟩
   simp only [hasShape] at hx
   obtain ⟨dd,hu,hd⟩:=leafT_some hx
   cases y with
   | str q =>
     have ha':=(rel_leaf_inv (by simp) (by simp) ha).1
     have hb':=(rel_leaf_inv (by simp) (by simp) hb).1
     simp only [relC,List.cons.injEq,and_true] at ha' hb'
     subst ha';subst hb'
     simp only [beqV,Option.some.injEq] at he
     subst he
     cases dd <;> simp at hd
     simp only [Op.equalIn,Sem.run_bind,run_underlying' hu,Result.andThen_ok,Sem.run_pure]
     have hq:((⟨p.toArray⟩:ByteArray) == ⟨q.toArray⟩)=(p.toArray == q.toArray):=rfl
     rw [hq];simp
   | _=>simp [beqV] at he
 | .ptr p,y,t,d,D,a,b,r,W,hp,hD,hx,hy,ha,hb,he=>by
   simp only [hasShape] at hx
   obtain ⟨dd,hu,hd⟩:=leafT_some hx
   cases d with
   | zero=>simp [plainT] at hp
   | succ d=>simp only [plainT,hu] at hp;cases dd <;> simp_all
 | .slc p n,y,t,d,D,a,b,r,W,hp,hD,hx,hy,ha,hb,he=>by
   simp only [hasShape] at hx
   obtain ⟨dd,hu,hd⟩:=leafT_some hx
   cases d with
   | zero=>simp [plainT] at hp
   | succ d=>simp only [plainT,hu] at hp;cases dd <;> simp_all
 | .map p,y,t,d,D,a,b,r,W,hp,hD,hx,hy,ha,hb,he=>by
   simp only [hasShape] at hx
   obtain ⟨dd,hu,hd⟩:=leafT_some hx
   cases d with
   | zero=>simp [plainT] at hp
   | succ d=>simp only [plainT,hu] at hp;cases dd <;> simp_all
 | .fn f p q,y,t,d,D,a,b,r,W,hp,hD,hx,hy,ha,hb,he=>by
   simp only [hasShape] at hx
   obtain ⟨dd,hu,hd⟩:=leafT_some hx
   cases d with
   | zero=>simp [plainT] at hp
   | succ d=>simp only [plainT,hu] at hp;cases dd <;> simp_all
 | .nilFn,y,t,d,D,a,b,r,W,hp,hD,hx,hy,ha,hb,he=>by
   simp only [hasShape] at hx
   obtain ⟨dd,hu,hd⟩:=leafT_some hx
   cases d with
   | zero=>simp [plainT] at hp
   | succ d=>simp only [plainT,hu] at hp;cases dd <;> simp_all
 | .ifc u v,y,t,d,D,a,b,r,W,hp,hD,hx,hy,ha,hb,he=>by
   simp only [hasShape] at hx
   obtain ⟨dd,hu,hd⟩:=leafT_some hx
   cases d with
   | zero=>simp [plainT] at hp
   | succ d=>simp only [plainT,hu] at hp;cases dd <;> simp_all
 | .nilIfc,y,t,d,D,a,b,r,W,hp,hD,hx,hy,ha,hb,he=>by
   simp only [hasShape] at hx
   obtain ⟨dd,hu,hd⟩:=leafT_some hx
   cases d with
   | zero=>simp [plainT] at hp
   | succ d=>simp only [plainT,hu] at hp;cases dd <;> simp_all
 | .tup l,y,t,d,D,a,b,r,W,hp,hD,hx,hy,ha,hb,he=>by simp [hasShape] at hx
 | .und,y,t,d,D,a,b,r,W,hp,hD,hx,hy,ha,hb,he=>by simp [hasShape] at hx
theorem run_eqFields' (H:LayOK P):∀ (l m:List V) (fs:List Field) (d D:Nat) (pa ra pb rb:List Value) (xs ys:Array Value) (r:Bool) (W:World),(fs.all fun f=>f.name != "_" && plainT P d f.type)=true→d≤D →
   shapes P l (fs.map (·.type))=true→shapes P m (fs.map (·.type))=true→relCs P ι l ra→relCs P ι m rb→offsOk P fs pa.length=true→pa.length=pb.length→xs.toList=pa++ra→ys.toList=pb++rb →
   beqVs l m=some r→(Op.eqFields D xs ys fs).run P W=.ok r W
 | [],m,[],d,D,pa,ra,pb,rb,xs,ys,r,W,_,_,_,h2,_,_,_,_,_,_,he=>by
   cases m with
   | nil=>simp only [beqVs,Option.some.injEq] at he;subst he;rfl
   | cons _ _=>simp [shapes] at h2
 | [],m,_ :: _,d,D,pa,ra,pb,rb,xs,ys,r,W,_,_,h1,_,_,_,_,_,_,_,he=>by simp [shapes] at h1
 | _ :: _,m,[],d,D,pa,ra,pb,rb,xs,ys,r,W,_,_,h1,_,_,_,_,_,_,_,he=>by simp [shapes] at h1
 | v :: vs,[],f :: fs,d,D,pa,ra,pb,rb,xs,ys,r,W,_,_,_,h2,_,_,_,_,_,_,he=>by simp [shapes] at h2
 | v :: vs,w :: ws,f :: fs,d,D,pa,ra,pb,rb,xs,ys,r,W,hall,hD,h1,h2,ra',rb',ho,hpl,hx,hy,he=>by
   simp only [List.all_cons,Bool.and_eq_true,bne_iff_ne,ne_eq] at hall
   simp only [List.map_cons,shapes,Bool.and_eq_true] at h1 h2
   simp only [relCs] at ra' rb'
   obtain ⟨a1,a2,k1,k2,rfl⟩:=ra'
   obtain ⟨b1,b2,k3,k4,rfl⟩:=rb'
   simp only [offsOk,Bool.and_eq_true,beq_iff_eq] at ho
   have l1:=size_ok H v f.type a1 h1.1 k1
   have l2:=size_ok H w f.type b1 h2.1 k3
   obtain ⟨x,p1,p2,_⟩:=run_part' (a:=pa) (c:=a2) H h1.1 k1 W
   obtain ⟨y,p3,p4,_⟩:=run_part' (a:=pb) (c:=b2) H h2.1 k3 W
   have ex:(pa++a1++a2).toArray=xs:=by rw [List.append_assoc,← hx]
   have ey:(pb++b1++b2).toArray=ys:=by rw [List.append_assoc,← hy]
   rw [ex,← ho.1] at p1
   rw [ey,← hpl,← ho.1] at p3
   simp only [beqVs] at he
   cases hq:beqV v w with
   | none=>rw [hq] at he;cases he
   | some q =>
     rw [hq] at he
     have e1:=run_equalIn' H v w f.type d D x y q W hall.1.2 hD h1.1 h2.1 p2 p4 hq
     have hnm:(f.name≠"_"):=hall.1.1
     simp only [Op.eqFields,hnm,ne_eq,not_false_eq_true,if_true,Sem.run_bind,p1,p3,e1,Result.andThen_ok]
     cases q with
     | false=>simp only [Option.some.injEq] at he;subst he;rfl
     | true =>
       simp only at he
       have:=run_eqFields' H vs ws fs d D (pa++a1) a2 (pb++b1) b2 xs ys r W hall.2 hD h1.2 h2.2 k2 k4 (by rw [List.length_append,l1];exact ho.2) (by simp [hpl,l1,l2]) (by rw [hx];simp) (by rw [hy];simp) he
       simpa using this
theorem run_eqItems' (H:LayOK P):∀ (l m:List V) (e:TypeId) (d D k:Nat) (pa ra pb rb:List Value) (xs ys:Array Value) (r:Bool) (W:World),plainT P d e=true→d≤D →
   shapesAll P l e=true→shapesAll P m e=true→relCs P ι l ra→relCs P ι m rb→pa.length=k * P.cellsOf e→pb.length=k * P.cellsOf e→xs.toList=pa++ra→ys.toList=pb++rb →
   beqVs l m=some r→(Op.eqItems D e (P.cellsOf e) xs ys (List.range' k l.length)).run P W=.ok r W
 | [],[],e,d,D,k,pa,ra,pb,rb,xs,ys,r,W,_,_,_,_,_,_,_,_,_,_,he=>by simp only [beqVs,Option.some.injEq] at he;subst he;rfl
 | [],_ :: _,e,d,D,k,pa,ra,pb,rb,xs,ys,r,W,_,_,_,_,_,_,_,_,_,_,he=>by simp [beqVs] at he
 | _ :: _,[],e,d,D,k,pa,ra,pb,rb,xs,ys,r,W,_,_,_,_,_,_,_,_,_,_,he=>by simp [beqVs] at he
 | v :: vs,w :: ws,e,d,D,k,pa,ra,pb,rb,xs,ys,r,W,hp,hD,h1,h2,ra',rb',hla,hlb,hx,hy,he=>by
   simp only [shapesAll,Bool.and_eq_true] at h1 h2
   simp only [relCs] at ra' rb'
   obtain ⟨a1,a2,k1,k2,rfl⟩:=ra'
   obtain ⟨b1,b2,k3,k4,rfl⟩:=rb'
   have l1:=size_ok H v e a1 h1.1 k1
   have l2:=size_ok H w e b1 h2.1 k3
   obtain ⟨x,p1,p2,_⟩:=run_part' (a:=pa) (c:=a2) H h1.1 k1 W
   obtain ⟨y,p3,p4,_⟩:=run_part' (a:=pb) (c:=b2) H h2.1 k3 W
   have ex:(pa++a1++a2).toArray=xs:=by rw [List.append_assoc,← hx]
   have ey:(pb++b1++b2).toArray=ys:=by rw [List.append_assoc,← hy]
   rw [ex,hla] at p1
   rw [ey,hlb] at p3
   simp only [beqVs] at he
   cases hq:beqV v w with
   | none=>rw [hq] at he;cases he
   | some q =>
     rw [hq] at he
     have e1:=run_equalIn' H v w e d D x y q W hp hD h1.1 h2.1 p2 p4 hq
     simp only [List.length_cons,List.range'_succ,Op.eqItems,Sem.run_bind,p1,p3,e1,Result.andThen_ok]
     cases q with
     | false=>simp only [Option.some.injEq] at he;subst he;rfl
     | true =>
       simp only at he
       have:=run_eqItems' H vs ws e d D (k + 1) (pa++a1) a2 (pb++b1) b2 xs ys r W hp hD h1.2 h2.2 k2 k4 (by rw [List.length_append,l1,hla,Nat.add_mul,Nat.one_mul]) (by rw [List.length_append,l2,hlb,Nat.add_mul,Nat.one_mul]) (by rw [hx];simp) (by rw [hy];simp) he
       simpa using this
end
end Go.Ab
namespace Go.Ab
open Go Go.RowKit
variable {P:Program} {ι:Names} {W:World}
abbrev Env:=List (Nat × V)
def Env.get:Env→Nat→V
 | [],_=>.und
 | (i,v) :: e,t=>if t=i then v else Env.get e t
def cst:Value→V
 | .bool b=>.bool b
 | .int k n=>.int k n
 | .string s=>.str s.data.toList
 | .pointer none=>.ptr none
 | .slice none 0 0=>.slc none 0
 | .map none=>.map none
 | .nilFunc=>.nilFn
 | .nilIface=>.nilIfc
 | _=>.und
theorem rel_cst (x:Value):rel P ι (cst x) x:=by
 unfold cst
 split <;> first | exact .inl rfl | (refine .inr ⟨rfl,?_⟩;simp [relC,Value.cells])
def isUnd:V→Bool
 | .und=>true
 | _=>false
theorem isUnd_ne {v:V} (h:isUnd v=false):v≠.und:=by rintro rfl;simp [isUnd] at h
def zeroT (P:Program):Nat→TypeId→Option V
 | 0,_=>none
 | d + 1,t=>match ul P t with
   | some .bool=>some (.bool false)
   | some (.int k)=>some (.int k 0)
   | some .string=>some (.str [])
   | some (.pointer _)=>some (.ptr none)
   | some (.slice _)=>some (.slc none 0)
   | some (.map _ _)=>some (.map none)
   | some (.func _ _ _)=>some .nilFn
   | some (.interface _)=>some .nilIfc
   | some (.struct fs)=>match fs.toList.mapM (fun f=>zeroT P d f.type) with
     | some l=>some (.agg l)
     | none=>none
   | some (.array n e)=>match zeroT P d e with
     | some v=>some (.agg (List.replicate n v))
     | none=>none
   | _=>none
mutual
def flatZ:V→List Value
 | .agg l=>flatZs l
 | .bool b=>[.bool b]
 | .int k n=>[.int k n]
 | .str s=>[.string ⟨s.toArray⟩]
 | .ptr none=>[.pointer none]
 | .slc none 0=>[.slice none 0 0]
 | .map none=>[.map none]
 | .nilFn=>[.nilFunc]
 | .nilIfc=>[.nilIface]
 | _=>[]
def flatZs:List V→List Value
 | []=>[]
 | v :: vs=>flatZ v++flatZs vs
end
mutual
def isZ:V→Bool
 | .agg l=>isZs l
 | .bool _=>true
 | .int _ _=>true
 | .str _=>true
 | .ptr none=>true
 | .slc none 0=>true
 | .map none=>true
 | .nilFn=>true
 | .nilIfc=>true
 | _=>false
def isZs:List V→Bool
 | []=>true
 | v :: vs=>isZ v && isZs vs
end
mutual
theorem relC_flatZ:∀ (v:V),isZ v=true→relC P ι v (flatZ v)
 | .agg l,h=>by simp only [relC,flatZ];exact relCs_flatZ l (by simpa [isZ] using h)
 | .bool b,_=>by simp [relC,flatZ]
 | .int k n,_=>by simp [relC,flatZ]
 | .str s,_=>by simp [relC,flatZ]
 | .ptr none,_=>by simp [relC,flatZ]
 | .ptr (some _),h=>by simp [isZ] at h
 | .slc none 0,_=>by simp [relC,flatZ]
 | .slc none (_ + 1),h=>by simp [isZ] at h
 | .slc (some _) _,h=>by simp [isZ] at h
 | .map none,_=>by simp [relC,flatZ]
 | .map (some _),h=>by simp [isZ] at h
 | .fn _ _ _,h=>by simp [isZ] at h
 | .nilFn,_=>by simp [relC,flatZ]
 | .ifc _ _,h=>by simp [isZ] at h
 | .nilIfc,_=>by simp [relC,flatZ]
 | .tup _,h=>by simp [isZ] at h
 | .und,h=>by simp [isZ] at h
theorem relCs_flatZ:∀ (l:List V),isZs l=true→relCs P ι l (flatZs l)
 | [],_=>by simp [relCs,flatZs]
 | v :: vs,h=>by
   simp only [isZs,Bool.and_eq_true] at h
   simp only [flatZs]
   exact relCs_cons (relC_flatZ v h.1) (relCs_flatZ vs h.2)
end
def sameZ:Value→Value→Bool
 | .bool a,.bool b=>a == b
 | .int k a,.int k' b=>decide (k=k') && a == b
 | .string a,.string b=>a.data.toList == b.data.toList
 | .pointer none,.pointer none=>true
 | .slice none 0 0,.slice none 0 0=>true
 | .map none,.map none=>true
 | .nilFunc,.nilFunc=>true
 | .nilIface,.nilIface=>true
 | _,_=>false
theorem sameZ_eq {a b:Value} (h:sameZ a b=true):a=b:=by
 unfold sameZ at h
 split at h <;> first | (cases h;done) | rfl | skip
 · simp at h;subst h;rfl
 · simp at h;obtain ⟨rfl,rfl⟩:=h;rfl
 · rename_i a b
   simp only [beq_iff_eq,Array.toList_inj] at h
   cases a;cases b;simp_all
def sameZs:List Value→List Value→Bool
 | [],[]=>true
 | a :: as,b :: bs=>sameZ a b && sameZs as bs
 | _,_=>false
theorem sameZs_eq:∀ {a b:List Value},sameZs a b=true→a=b
 | [],[],_=>rfl
 | [],_ :: _,h=>by simp [sameZs] at h
 | _ :: _,[],h=>by simp [sameZs] at h
 | a :: as,b :: bs,h=>by
   simp only [sameZs,Bool.and_eq_true] at h
   rw [sameZ_eq h.1,sameZs_eq h.2]
def zeroV (P:Program) (t:TypeId):Option V:=zeroT P 30 t
def zeroAt (P:Program) (t:TypeId):Bool :=
 match zeroV P t with
 | none=>true
 | some v=>hasShape P v t && isZ v && match (P.info? t).bind (·.zero) with
   | some z=>aggOK v z && sameZs (flatZ v) z.cells.toList
   | none=>false
structure Ok (P:Program):Prop where
 lay:LayOK P
 zero:∀ t v,zeroV P t=some v→hasShape P v t=true∧∃ z,(P.info? t).bind (·.zero)=some z∧aggOK v z=true∧∀ ι,relC P ι v z.cells.toList
theorem ok_of (P:Program) (h:∀ t,t < P.types.size→(layAt P t && zeroAt P t)=true):Ok P:=by
 refine ⟨layOK_of P fun t ht=>?_,fun t v hv=>?_⟩
 · have:=h t ht;simp only [Bool.and_eq_true] at this;exact this.1
 · by_cases ht:t < P.types.size
   · have:=h t ht
     simp only [Bool.and_eq_true,zeroAt,hv] at this
     obtain ⟨_,⟨h1,h2⟩,h3⟩:=this
     refine ⟨h1,?_⟩
     cases hz:(P.info? t).bind (·.zero) with
     | none=>rw [hz] at h3;cases h3
     | some z =>
       rw [hz] at h3
       simp only [Bool.and_eq_true] at h3
       refine ⟨z,rfl,h3.1,fun ι=>?_⟩
       rw [← sameZs_eq h3.2]
       exact relC_flatZ v h2
   · exfalso
     have:ul P t=none:=by simp [ul,ht]
     simp [zeroV,zeroT,this] at hv
theorem run_zeroValue' (K:Ok P) {t:TypeId} {v:V} (hv:zeroV P t=some v) (W:World):∃ z,(zeroValue t).run P W=.ok z W∧aggOK v z=true∧(∀ ι,relC P ι v z.cells.toList)∧hasShape P v t=true:=by
 obtain ⟨h1,z,h2,h3,h4⟩:=K.zero t v hv
 cases hi:P.info? t with
 | none=>rw [hi] at h2;cases h2
 | some i =>
   rw [hi] at h2
   simp only [Option.bind_some] at h2
   exact ⟨z,by simp [zeroValue,typeInfo,hi,h2],h3,h4,h1⟩
def putParts (P:Program) (child:Nat→Option TypeId):List V→List (Nat × V)→Option (List V)
 | l,[]=>some l
 | l,(i,v) :: rest=>match child i with
   | some u=>if decide (i < l.length) && hasShape P v u then putParts P child (l.set i v) rest else none
   | none=>none
theorem foldl_set (off:Nat):∀ (new:List Value) (k:Nat) (a m c:List Value),m.length=new.length→a.length=off + k →
   ((new.zipIdx k).foldl (fun (cs:Array Value) (p:Value × Nat)=>cs.setIfInBounds (off + p.2) p.1) (a++m++c).toArray)=(a++new++c).toArray
 | [],k,a,m,c,h,_=>by
   obtain rfl:m=[]:=List.length_eq_zero_iff.1 (by simpa using h)
   rfl
 | x :: new,k,a,[],c,h,_=>by simp at h
 | x :: new,k,a,y :: m,c,h,ha=>by
   simp only [List.zipIdx_cons,List.foldl_cons]
   have:(a++y :: m++c).toArray.setIfInBounds (off + k) x=((a++[x])++m++c).toArray:=by
     simp [← ha,List.set_append]
   rw [this,foldl_set off new (k + 1) (a++[x]) m c (by simpa using h) (by simp [ha];omega)]
   simp
theorem relCs_at' {l:List V} {cs:List Value} {i:Nat} {v:V} (h:l[i]?=some v) (r:relCs P ι l cs) :
   ∃ a b c,cs=a++b++c∧relCs P ι (l.take i) a∧relC P ι v b∧(∀ w b',relC P ι w b'→relCs P ι (l.set i w) (a++b'++c)):=by
 obtain ⟨a,b,c,h1,h2,h3,h4⟩:=relCs_at h r
 exact ⟨a,b,c,h1,h2,h3,fun w b' hw=>relCs_put h h2 hw h4⟩
theorem fill_cons {place:Nat→Option (Nat × Nat)} {i:Nat} {v:Value} {rest:List (Nat × Value)} {off:Nat} {a m c:List Value} (hp:place i=some (off,m.length)) (ha:a.length=off) (hv:v.cells.size=m.length) :
   Instr.fill place (a++m++c).toArray ((i,v) :: rest)=Instr.fill place (a++v.cells.toList++c).toArray rest:=by
 simp only [Instr.fill,hp]
 have h1:¬ (v.cells.size≠m.length∨off + v.cells.size > (a++m++c).toArray.size):=by
   simp [hv,← ha]
 have h2:=foldl_set off v.cells.toList 0 a m c (by simp [hv]) (by simpa using ha)
 have h3:(Array.zipIdx v.cells).foldl (fun (cs:Array Value) (p:Value × Nat)=>cs.setIfInBounds (off + p.2) p.1) (a++m++c).toArray=(a++v.cells.toList++c).toArray:=by
   rw [← h2,← Array.foldl_toList]
   simp
 rw [if_neg (by simpa using h1)]
 exact congrArg (fun x=>Instr.fill place x rest) h3
end Go.Ab
namespace Go.Ab
open Go Go.RowKit
variable {P:Program} {ι:Names} {W:World} {B:Base} {h:AH}
def Does (P:Program) (B:Base) (ι:Names) (W:World) (s:Sem Value) (v:V) (h':AH):Prop :=
 ∃ ι' W' x,s.run P W=.ok x W'∧Names.le ι ι'∧Fits P B ι' h' W'∧rel P ι' v x
def DoesU (P:Program) (B:Base) (ι:Names) (W:World) (s:Sem Unit) (h':AH):Prop :=
 ∃ ι' W',s.run P W=.ok () W'∧Names.le ι ι'∧Fits P B ι' h' W'
theorem Does.still (F:Fits P B ι h W) {s:Sem Value} {v:V} {x:Value} (hr:s.run P W=.ok x W) (hx:rel P ι v x):Does P B ι W s v h :=
 ⟨ι,W,x,hr,Names.le_refl _,F,hx⟩
def aLoad (P:Program) (h:AH) (a:PA) (t:TypeId):Option V :=
 match h.m a.n with
 | some (.cells _ ty v)=>if ty=a.ty then match layB P ty a.p with
   | some (_,u)=>match getV v a.p with
     | some w=>if u=t then some w else if hasShape P w t then some w else none
     | none=>none
   | none=>none
   else none
 | _=>none
theorem obj_at (H:LayOK P) {own:Bool} {ty:BTy} {v w:V} {L:Loc} {p:List Nat} {o:Nat} {u:TypeId} (ho:objR P ι W L (.cells own ty v)) (hl:layB P ty p=some (o,u)) (hg:getV v p=some w) :
   L.ty=ty∧hasShape P w u=true∧∃ a m c elem fr,W.heap[L.blk]?=some (.cells (a++m++c).toArray elem fr)∧a.length=L.off + o∧relC P ι w m∧(own=true→unfrozen fr (a++m++c).length) ∧
     (∀ (w':V) (m':List Value) (v':V),hasShape P w' u=true→relC P ι w' m'→setV v p w'=some v'→objR P ι (World.putRow W L.blk (a++m'++c) elem fr) L (.cells own ty v')):=by
 obtain ⟨h1,h2,a,b,c,elem,fr,h3,h4,h5,h6,h7⟩:=ho
 obtain ⟨k1,a',m,c',rfl,k2,k3,k4⟩:=partB_ok H ty p v b o u w h2 h6 hl hg
 refine ⟨h1,k1,a++a',m,c'++c,elem,fr,by rw [h3];simp,by simp [h4,k2],k3,?_,?_⟩
 · intro e;have:=(h7 e).1;rw [← h5] at this;simpa using this
 · intro w' m' v' g1 g2 g3
   obtain ⟨j1,j2⟩:=k4 w' m' v' g1 g2 g3
   have s1:=size_ok H w u m k1 k3
   have s2:=size_ok H w' u m' g1 g2
   refine ⟨h1,j1,a,a'++m'++c',c,elem,fr,?_,h4,?_,j2,h7⟩
   · rw [putRow_at (getBlk_lt h3)];simp
   · rw [← h5];simp [s1,s2]
theorem obj_exact {ty:BTy} {v:V} {L:Loc} {cs:Array Value} {elem:TypeId} {fr:Nat × Nat} (ho:objR P ι W L (.cells true ty v)) (hb:W.heap[L.blk]?=some (.cells cs elem fr)):exactB P ty elem L:=by
 obtain ⟨_,_,a,b,c,elem',fr',h3,_,_,_,h7⟩:=ho
 rw [h3] at hb
 simp only [Option.some.injEq,Obj.cells.injEq] at hb
 rw [← hb.2.1];exact (h7 rfl).2
theorem aLoad_ok (K:Ok P) (F:Fits P B ι h W) {a:PA} {t:TypeId} {v:V} {x:Addr} (hl:aLoad P h a t=some v) (hx:relA P ι a x) :
   Does P B ι W (loadVar t x) v h:=by
 simp only [aLoad] at hl
 split at hl
 · rename_i own ty v0 hm
   split at hl
   · rename_i hty
     split at hl
     · rename_i o u hlay
       split at hl
       · rename_i w hg
         obtain ⟨L,hL,hobj⟩:=F.obj _ _ hm
         obtain ⟨h1,h2,a1,m,c,elem,fr,h3,h4,h5,_,_⟩:=obj_at K.lay hobj hlay hg
         obtain ⟨L',o',t',g1,g2,g3,rfl⟩:=hx
         rw [hL] at g1;cases g1
         rw [← hty,hlay] at g3
         simp only [Option.some.injEq,Prod.mk.injEq] at g3
         obtain ⟨rfl,rfl⟩:=g3
         rw [← h4]
         split at hl
         · rename_i hut
           subst hut
           cases hl
           obtain ⟨y,k1,k2,_⟩:=run_loadVar' K.lay h3 h2 h5
           exact Does.still F k1 k2
         · split at hl
           · rename_i hsh
             cases hl
             obtain ⟨y,k1,k2,_⟩:=run_loadVar' K.lay h3 hsh h5
             exact Does.still F k1 k2
           · cases hl
       · cases hl
     · cases hl
   · cases hl
 · cases hl
def aStore (P:Program) (h:AH) (a:PA) (t:TypeId) (x:V):Option AH :=
 match h.m a.n with
 | some (.cells true ty v)=>if ty=a.ty then match layB P ty a.p with
   | some (_,u)=>match getV v a.p with
     | some w=>if hasShape P x u && (decide (u=t) || (hasShape P x t && hasShape P w t)) then match setV v a.p x with
       | some v'=>some (h.put a.n (.cells true ty v'))
       | none=>none
       else none
     | none=>none
   | none=>none
   else none
 | _=>none
theorem aStore_ok (K:Ok P) (F:Fits P B ι h W) {a:PA} {t:TypeId} {v:V} {h':AH} {x:Addr} {y:Value} (hl:aStore P h a t v=some h') (hx:relA P ι a x) (hy:rel P ι v y) :
   DoesU P B ι W (storeVar t x y) h':=by
 simp only [aStore] at hl
 split at hl
 · rename_i ty v0 hm
   split at hl
   · rename_i hty
     split at hl
     · rename_i o u hlay
       split at hl
       · rename_i w hg
         split at hl
         · rename_i hcond
           simp only [Bool.and_eq_true,Bool.or_eq_true,decide_eq_true_eq] at hcond
           split at hl
           · rename_i v' hset
             cases hl
             obtain ⟨L,hL,hobj⟩:=F.obj _ _ hm
             obtain ⟨h1,h2,a1,m,c,elem,fr,h3,h4,h5,h6,h7⟩:=obj_at K.lay hobj hlay hg
             obtain ⟨L',o',t',g1,g2,g3,rfl⟩:=hx
             rw [hL] at g1;cases g1
             rw [← hty,hlay] at g3
             simp only [Option.some.injEq,Prod.mk.injEq] at g3
             obtain ⟨rfl,rfl⟩:=g3
             have hne:v≠.und:=by rintro rfl;simp [hasShape] at hcond
             have hyc:=rel_cells hne hy
             have hrun:(storeVar t ⟨L.blk,a1.length,none⟩ y).run P W=.ok () (World.putRow W L.blk (a1++y.cells.toList++c) elem fr):=by
               rcases hcond.2 with e | e
               · subst e;exact run_storeVar' K.lay h3 (h6 rfl) h2 h5 hcond.1 hy
               · exact run_storeVar' K.lay h3 (h6 rfl) e.2 h5 e.1 hy
             rw [← h4]
             exact ⟨ι,_,hrun,Names.le_refl _,F.store hm hL (h7 v _ v' hcond.1 hyc hset)⟩
           · cases hl
         · cases hl
       · cases hl
     · cases hl
   · cases hl
 · cases hl
def aNew (P:Program) (h:AH) (t:TypeId) (v:V):Option (V × AH) :=
 if hasShape P v t then some (.ptr (some ⟨h.next,.one t,[]⟩),h.make (.cells true (.one t) v)) else none
theorem unfrozen_zero (n:Nat):unfrozen (0,0) n:=by intro i _;simp
theorem newRow_ok (F:Fits P B ι h W) {ty:BTy} {v:V} {cs rest:List Value} {e:TypeId} (hs:shapeB P v ty=true) (hr:relC P ι v cs) (hx:exactB P ty e ⟨W.heap.size,0,(cs++rest).length,ty⟩) :
   ∃ ι' L,(newRow e (cs++rest).toArray).run P W=.ok ⟨W.heap.size,0,none⟩ { W with heap:=W.heap.push (.cells (cs++rest).toArray e (0,0)) }∧Names.le ι ι' ∧
     Fits P B ι' (h.make (.cells true ty v)) { W with heap:=W.heap.push (.cells (cs++rest).toArray e (0,0)) }∧ι' h.next=some L∧L=⟨W.heap.size,0,(cs++rest).length,ty⟩:=by
 let L:Loc:=⟨W.heap.size,0,(cs++rest).length,ty⟩
 have hle:Names.le ι (Names.add ι h.next L):=Names.le_add (F.fresh _ (Nat.le_refl _))
 obtain ⟨f1,f2⟩:=F.make (.cells true ty v) (.cells (cs++rest).toArray e (0,0)) L rfl
   ⟨rfl,hs,[],cs,rest,e,(0,0),by simp [L],rfl,by simp [L],relC_le hle _ _ hr,fun _=>⟨unfrozen_zero _,hx⟩⟩
 exact ⟨Names.add ι h.next L,L,by simp [newRow],f1,f2,by simp [Names.add],rfl⟩
theorem aNew_ok (K:Ok P) (F:Fits P B ι h W) {t:TypeId} {v w:V} {h':AH} {y:Value} (hl:aNew P h t v=some (w,h')) (hy:rel P ι v y) :
   Does P B ι W (do pure (.pointer (some (← newVar t y)))) w h':=by
 simp only [aNew] at hl
 split at hl
 · rename_i hs
   simp only [Option.some.injEq,Prod.mk.injEq] at hl
   obtain ⟨rfl,rfl⟩:=hl
   have hne:v≠.und:=by rintro rfl;simp [hasShape] at hs
   obtain ⟨ι',L,h1,h2,h3,h4,h5⟩:=newRow_ok (rest:=[]) (ty:=.one t) (e:=t) F (by simpa [shapeB] using hs) (rel_cells hne hy) ⟨rfl,rfl,by
     rw [List.append_nil];exact size_ok K.lay v t _ hs (rel_cells hne hy)⟩
   simp only [List.append_nil,Array.toArray_toList] at h1 h3
   refine ⟨ι',_,.pointer (some ⟨W.heap.size,0,none⟩),?_,h2,h3,.inr ⟨rfl,?_⟩⟩
   · simp only [newVar,Sem.run_bind,h1,Result.andThen_ok,Sem.run_pure]
   · simp only [Value.cells,relC]
     exact ⟨⟨W.heap.size,0,none⟩,⟨L,0,t,h4,by rw [h5],by simp [layB,lay],by rw [h5]⟩,rfl⟩
 · cases hl
def aAlloc (P:Program) (h:AH) (t:TypeId):Option (V × AH) :=
 match zeroV P t with
 | some z=>aNew P h t z
 | none=>none
theorem aAlloc_ok (K:Ok P) (F:Fits P B ι h W) {t:TypeId} {w:V} {h':AH} (hl:aAlloc P h t=some (w,h')) :
   Does P B ι W (Instr.alloc t true (.tuple #[])) w h':=by
 simp only [aAlloc] at hl
 split at hl
 · rename_i z hz
   obtain ⟨y,h1,h2,h3,h4⟩:=run_zeroValue' K hz W
   have:=aNew_ok K F hl (.inr ⟨h2,h3 ι⟩)
   obtain ⟨ι',W',x,k1,k2⟩:=this
   refine ⟨ι',W',x,?_,k2⟩
   simp only [Instr.alloc,Sem.run_bind,h1,Result.andThen_ok]
   simpa only [Sem.run_bind] using k1
 · cases hl
theorem zeroT_ul {d:Nat} {t:TypeId} {v:V} (h:zeroT P d t=some v):∃ dd,ul P t=some dd:=by
 cases d with
 | zero=>simp [zeroT] at h
 | succ d =>
   cases hu:ul P t with
   | some dd=>exact ⟨dd,rfl⟩
   | none=>simp only [zeroT,hu] at h;cases h
theorem zeroT_elem {d n:Nat} {t e:TypeId} {v:V} (hu:ul P t=some (.array n e)) (h:zeroT P d t=some v):∃ dd,ul P e=some dd:=by
 cases d with
 | zero=>simp [zeroT] at h
 | succ d =>
   simp only [zeroT,hu] at h
   split at h
   · rename_i he;exact zeroT_ul he
   · cases h
def aBuild (P:Program) (t:TypeId) (parts:List (Nat × V)):Option V :=
 match zeroV P t with
 | some (.agg z)=>match ul P t with
   | some (.struct fs)=>match putParts P (fun i=>(fs[i]?).map (·.type)) z parts with
     | some l=>some (.agg l)
     | none=>none
   | some (.array _ e)=>match putParts P (fun _=>some e) z parts with
     | some l=>some (.agg l)
     | none=>none
   | _=>none
 | _=>none
def relP (P:Program) (ι:Names):List (Nat × V)→List (Nat × Value)→Prop
 | [],xs=>xs=[]
 | (i,v) :: ps,xs=>∃ x rest,xs=(i,x) :: rest∧rel P ι v x∧relP P ι ps rest
theorem putParts_struct (H:LayOK P) {t:TypeId} {fs:Array Field} (hu:ul P t=some (.struct fs)) {places:Array (Nat × Nat)} (hp:∀ (i:Nat) (f:Field),fs[i]?=some f→places[i]?=some (f.offset,P.cellsOf f.type)) :
   ∀ (ps:List (Nat × V)) (xs:List (Nat × Value)) (l l':List V) (cs:List Value),relP P ι ps xs→putParts P (fun i=>(fs[i]?).map (·.type)) l ps=some l'→shapes P l (fs.toList.map (·.type))=true→relCs P ι l cs →
   ∃ cs',Instr.fill (places[·]?) cs.toArray xs=some cs'.toArray∧shapes P l' (fs.toList.map (·.type))=true∧relCs P ι l' cs'
 | [],xs,l,l',cs,hx,hl,hs,hr=>by
   simp only [relP] at hx;subst hx
   simp only [putParts,Option.some.injEq] at hl;subst hl
   exact ⟨cs,rfl,hs,hr⟩
 | (i,v) :: ps,xs,l,l',cs,hx,hl,hs,hr=>by
   obtain ⟨x,rest,rfl,hvx,hrest⟩:=hx
   simp only [putParts] at hl
   cases hf:fs[i]? with
   | none=>simp [hf] at hl
   | some f =>
     simp only [hf,Option.map_some] at hl
     split at hl
     · rename_i hc
       simp only [Bool.and_eq_true,decide_eq_true_eq] at hc
       have hne:v≠.und:=by rintro rfl;simp [hasShape] at hc
       obtain ⟨w,hw⟩:∃ w,l[i]?=some w:=⟨l[i],by simp [hc.1]⟩
       obtain ⟨a,m,c,rfl,k1,k2,k3⟩:=relCs_at' hw hr
       obtain ⟨tw,e1,e2⟩:=shapes_get hs hw
       have etw:tw=f.type:=by
         simp only [List.getElem?_map,Array.getElem?_toList,hf,Option.map_some,Option.some.injEq] at e1
         exact e1.symm
       subst etw
       have s1:=size_ok H w _ m e2 k2
       have s2:=size_ok H v _ _ hc.2 (rel_cells hne hvx)
       have s3:=sizes_ok H _ _ a (shapes_take i hs) k1
       have hoff:a.length=f.offset:=by
         rw [s3,(H.struct t fs hu).2 i f hf];simp [← List.map_take,List.map_map,Function.comp_def]
       rw [fill_cons (by rw [hp i f hf,← s1]) hoff (by rw [s1,← s2];simp)]
       exact putParts_struct H hu hp ps rest _ l' _ hrest hl (shapes_set hs e1 hc.2) (k3 v _ (rel_cells hne hvx))
     · cases hl
theorem putParts_array (H:LayOK P) {e:TypeId} {place:Nat→Option (Nat × Nat)} (hp:∀ i,place i=some (i * P.cellsOf e,P.cellsOf e)) :
   ∀ (ps:List (Nat × V)) (xs:List (Nat × Value)) (l l':List V) (cs:List Value),relP P ι ps xs→putParts P (fun _=>some e) l ps=some l'→shapesAll P l e=true→relCs P ι l cs →
   ∃ cs',Instr.fill place cs.toArray xs=some cs'.toArray∧l'.length=l.length∧shapesAll P l' e=true∧relCs P ι l' cs'
 | [],xs,l,l',cs,hx,hl,hs,hr=>by
   simp only [relP] at hx;subst hx
   simp only [putParts,Option.some.injEq] at hl;subst hl
   exact ⟨cs,rfl,rfl,hs,hr⟩
 | (i,v) :: ps,xs,l,l',cs,hx,hl,hs,hr=>by
   obtain ⟨x,rest,rfl,hvx,hrest⟩:=hx
   simp only [putParts] at hl
   split at hl
   · rename_i hc
     simp only [Bool.and_eq_true,decide_eq_true_eq] at hc
     have hne:v≠.und:=by rintro rfl;simp [hasShape] at hc
     obtain ⟨w,hw⟩:∃ w,l[i]?=some w:=⟨l[i],by simp [hc.1]⟩
     obtain ⟨a,m,c,rfl,k1,k2,k3⟩:=relCs_at' hw hr
     have e2:=shapesAll_get hs hw
     have s1:=size_ok H w _ m e2 k2
     have s2:=size_ok H v _ _ hc.2 (rel_cells hne hvx)
     have s3:=sizesAll_ok H _ _ a (shapesAll_take i hs) k1
     rw [List.length_take,Nat.min_eq_left (Nat.le_of_lt hc.1)] at s3
     rw [fill_cons (by rw [hp i,← s1]) (by rw [s3,s1]) (by rw [s1,← s2];simp)]
     obtain ⟨cs',g1,g2,g3⟩:=putParts_array H hp ps rest _ l' _ hrest hl (shapesAll_set hs hc.2) (k3 v _ (rel_cells hne hvx))
     exact ⟨cs',g1,by simpa using g2,g3⟩
   · cases hl
theorem run_mapM_places {t:TypeId} {fs:Array Field} (H:LayOK P) (hk:∀ f∈fs.toList,∃ d,ul P f.type=some d) (W:World) :
   ∃ places:Array (Nat × Nat),(fs.mapM fun f=>(do pure (f.offset,← sizeOf f.type):Sem (Nat × Nat))).run P W=.ok places W∧∀ (i:Nat) (f:Field),fs[i]?=some f→places[i]?=some (f.offset,P.cellsOf f.type):=by
 refine ⟨(fs.toList.map fun f=>(f.offset,P.cellsOf f.type)).toArray,?_,?_⟩
 · rw [Array.mapM_eq_mapM_toList]
   have:∀ l:List Field,(∀ f∈l,∃ d,ul P f.type=some d)→(l.mapM fun f=>(do pure (f.offset,← sizeOf f.type):Sem (Nat × Nat))).run P W=.ok (l.map fun f=>(f.offset,P.cellsOf f.type)) W:=by
     intro l hl
     induction l with
     | nil=>rfl
     | cons f l ih =>
       obtain ⟨d,hd⟩:=hl f (by simp)
       simp only [List.mapM_cons,Sem.run_bind,run_sizeOf' hd,Result.andThen_ok,Sem.run_pure,ih (fun g hg=>hl g (by simp [hg])),List.map_cons]
   simp only [Sem.run_map,this fs.toList hk,Result.andThen_ok]
 · intro i f hf
   simp [hf]
theorem shapes_ul:∀ {l:List V} {ts:List TypeId},shapes P l ts=true→∀ t∈ts,∃ d,ul P t=some d
 | [],[],_,t,ht=>by simp at ht
 | [],_ :: _,h,_,_=>by simp [shapes] at h
 | _ :: _,[],h,_,_=>by simp [shapes] at h
 | v :: vs,u :: ts,h,t,ht=>by
   simp only [shapes,Bool.and_eq_true] at h
   rcases List.mem_cons.1 ht with rfl | ht
   · exact shape_ul h.1
   · exact shapes_ul h.2 t ht
theorem aBuild_ok (K:Ok P) {t:TypeId} {ps:List (Nat × V)} {xs:List (Nat × Value)} {v:V} (hl:aBuild P t ps=some v) (hx:relP P ι ps xs) (W:World) :
   ∃ x,(Instr.build t xs.toArray).run P W=.ok x W∧rel P ι v x:=by
 simp only [aBuild] at hl
 split at hl
 · rename_i z hz
   obtain ⟨zv,h1,h2,h3,h4⟩:=run_zeroValue' K hz W
   have h3:=h3 ι
   simp only [relC] at h3
   simp only [hasShape] at h4
   split at hl
   · rename_i fs hu
     rw [hu] at h4
     simp only at h4
     split at hl
     · rename_i l hp
       cases hl
       obtain ⟨places,p1,p2⟩:=run_mapM_places (t:=t) K.lay (fun f hf=>shapes_ul h4 _ (List.mem_map.2 ⟨f,hf,rfl⟩)) W
       obtain ⟨cs',g1,g2,g3⟩:=putParts_struct K.lay hu p2 ps xs z l _ hx hp h4 h3
       refine ⟨.agg cs'.toArray,?_,.inr ⟨rfl,by simpa [relC,Value.cells] using g3⟩⟩
       simp only [Array.toArray_toList] at g1
       simp only [Instr.build,Sem.run_bind,h1,Result.andThen_ok,run_underlying' hu,p1,Sem.run_pure,g1]
     · cases hl
   · rename_i n e hu
     rw [hu] at h4
     simp only [Bool.and_eq_true,beq_iff_eq] at h4
     split at hl
     · rename_i l hp
       cases hl
       obtain ⟨cs',g1,g2,g3,g4⟩:=putParts_array (place:=fun i=>some (i * P.cellsOf e,P.cellsOf e)) K.lay (fun i=>rfl) ps xs z l _ hx hp h4.2 h3
       refine ⟨.agg cs'.toArray,?_,.inr ⟨rfl,by simpa [relC,Value.cells] using g4⟩⟩
       simp only [Array.toArray_toList] at g1
       have hse:(sizeOf e).run P W=.ok (P.cellsOf e) W:=by
         cases ps with
         | nil =>
           cases z with
           | cons w ws =>
             simp only [shapesAll,Bool.and_eq_true] at h4
             obtain ⟨d,hd⟩:=shape_ul h4.2.1
             exact run_sizeOf' hd W
           | nil =>
             obtain ⟨d,hd⟩:=zeroT_elem hu hz
             exact run_sizeOf' hd W
         | cons p ps =>
           obtain ⟨i,w⟩:=p
           simp only [putParts] at hp
           split at hp
           · rename_i hc
             simp only [Bool.and_eq_true] at hc
             obtain ⟨d,hd⟩:=shape_ul hc.2
             exact run_sizeOf' hd W
           · cases hp
       simp only [Instr.build,Sem.run_bind,h1,Result.andThen_ok,run_underlying' hu,hse,Sem.run_pure,g1]
     · cases hl
   · cases hl
 · cases hl
end Go.Ab
namespace Go.Ab
open Go Go.RowKit
variable {P:Program} {ι:Names} {W:World} {B:Base} {h:AH}
def layStep (P:Program) (u:TypeId) (i:Nat):Option (Nat × TypeId) :=
 match ul P u with
 | some (.struct fs)=>match fs[i]? with
   | some f=>some (f.offset,f.type)
   | none=>none
 | some (.array _ e)=>some (i * P.cellsOf e,e)
 | _=>none
theorem lay_snoc:∀ (p:List Nat) (t:TypeId) (o:Nat) (u:TypeId) (i o2:Nat) (t2:TypeId),lay P t p=some (o,u)→layStep P u i=some (o2,t2)→lay P t (p++[i])=some (o + o2,t2)
 | [],t,o,u,i,o2,t2,hl,hs=>by
   simp only [lay,Option.some.injEq,Prod.mk.injEq] at hl
   obtain ⟨rfl,rfl⟩:=hl
   simp only [layStep] at hs
   simp only [List.nil_append,lay]
   split at hs
   · rename_i fs hu
     split at hs
     · rename_i f hf
       cases hs
       simp [hu,hf]
     · cases hs
   · rename_i n e hu
     cases hs
     simp [hu]
   · cases hs
 | j :: p,t,o,u,i,o2,t2,hl,hs=>by
   simp only [lay] at hl
   simp only [List.cons_append,lay]
   split at hl
   · rename_i fs hu
     split at hl
     · rename_i f hf
       split at hl
       · rename_i o' u' hl'
         simp only [Option.some.injEq,Prod.mk.injEq] at hl
         obtain ⟨rfl,rfl⟩:=hl
         rw [lay_snoc p f.type o' u' i o2 t2 hl' hs]
         simp [Nat.add_assoc]
       · cases hl
     · cases hl
   · rename_i n e hu
     split at hl
     · rename_i o' u' hl'
       simp only [Option.some.injEq,Prod.mk.injEq] at hl
       obtain ⟨rfl,rfl⟩:=hl
       rw [lay_snoc p e o' u' i o2 t2 hl' hs]
       simp [Nat.add_assoc]
     · cases hl
   · cases hl
theorem layB_snoc {ty:BTy} {p:List Nat} {o:Nat} {u:TypeId} {i o2:Nat} {t2:TypeId} (hl:layB P ty p=some (o,u)) (hs:layStep P u i=some (o2,t2)) :
   layB P ty (p++[i])=some (o + o2,t2):=by
 cases ty with
 | one t=>exact lay_snoc p t o u i o2 t2 hl hs
 | row e =>
   cases p with
   | nil=>simp [layB] at hl
   | cons j p =>
     simp only [layB] at hl
     simp only [List.cons_append,layB]
     split at hl
     · rename_i o' u' hl'
       simp only [Option.some.injEq,Prod.mk.injEq] at hl
       obtain ⟨rfl,rfl⟩:=hl
       rw [lay_snoc p e o' u' i o2 t2 hl' hs]
       simp [Nat.add_assoc]
     · cases hl
theorem rowAt_snoc {ty:BTy} {p:List Nat} {o:Nat} {e:TypeId} (i:Nat) (hl:rowAt P ty p=some (o,e)):layB P ty (p++[i])=some (o + i * P.cellsOf e,e):=by
 unfold rowAt at hl
 split at hl
 · simp only [Option.some.injEq,Prod.mk.injEq] at hl
   obtain ⟨rfl,rfl⟩:=hl
   simp [layB,lay]
 · split at hl
   · rename_i o' t hl'
     split at hl
     · rename_i n e' hu
       simp only [Option.some.injEq,Prod.mk.injEq] at hl
       obtain ⟨rfl,rfl⟩:=hl
       exact layB_snoc hl' (by simp [layStep,hu])
     · cases hl
   · cases hl
theorem rowAt_layB {ty:BTy} {p:List Nat} {o o':Nat} {t e:TypeId} (h:layB P ty p=some (o',t)) (k:rowAt P ty p=some (o,e)):o'=o:=by
 cases ty with
 | row f =>
   cases p with
   | nil=>simp [layB] at h
   | cons i p =>
     simp only [rowAt,h] at k
     split at k
     · simp only [Option.some.injEq,Prod.mk.injEq] at k;exact k.1
     · cases k
 | one f =>
   simp only [rowAt,h] at k
   split at k
   · simp only [Option.some.injEq,Prod.mk.injEq] at k;exact k.1
   · cases k
def sameField (P:Program) (u:TypeId) (f off:Nat):Bool :=
 match layStep P u f with
 | some (o,_)=>decide (o=off)
 | none=>false
def aFieldAddr (P:Program) (s:TypeId) (x:V) (f:Nat):Option V :=
 match x with
 | .ptr (some a)=>match ul P s with
   | some (.struct fs)=>match fs[f]?,layB P a.ty a.p with
     | some g,some (_,u)=>if decide (P.cellsOf g.type≠0) && sameField P u f g.offset && (ul P g.type).isSome then some (.ptr (some { a with p:=a.p++[f] })) else none
     | _,_=>none
   | _=>none
 | _=>none
theorem rel_ptr {a:PA} {x:Value} (hx:rel P ι (.ptr (some a)) x):∃ y,x=.pointer (some y)∧relA P ι a y:=by
 obtain ⟨h,_⟩:=rel_leaf_inv (by simp) (by simp) hx
 simp only [relC,List.cons.injEq,and_true] at h
 obtain ⟨y,h1,h2⟩:=h
 exact ⟨y,h2,h1⟩
theorem rel_int {k:IntKind} {n:Int} {x:Value} (hx:rel P ι (.int k n) x):x=.int k n:=by
 obtain ⟨h,_⟩:=rel_leaf_inv (by simp) (by simp) hx
 simpa [relC] using h
theorem rel_bool {b:Bool} {x:Value} (hx:rel P ι (.bool b) x):x=.bool b:=by
 obtain ⟨h,_⟩:=rel_leaf_inv (by simp) (by simp) hx
 simpa [relC] using h
theorem rel_str {s:List UInt8} {x:Value} (hx:rel P ι (.str s) x):x=.string ⟨s.toArray⟩:=by
 obtain ⟨h,_⟩:=rel_leaf_inv (by simp) (by simp) hx
 simpa [relC] using h
theorem rel_slc {a:PA} {s len:Nat} {x:Value} (hx:rel P ι (.slc (some (a,s)) len) x):∃ y cap,x=.slice (some y) len cap∧len≤cap∧(0 < cap→relRow P ι a s cap y):=by
 obtain ⟨h,_⟩:=rel_leaf_inv (by simp) (by simp) hx
 simp only [relC,List.cons.injEq,and_true] at h
 obtain ⟨y,cap,h1,_,h2,h3⟩:=h
 exact ⟨y,cap,h3,h1,h2⟩
theorem rel_slc_name {a:PA} {s len:Nat} {x:Value} (hx:rel P ι (.slc (some (a,s)) len) x):∃ L,ι a.n=some L:=by
 obtain ⟨h,_⟩:=rel_leaf_inv (by simp) (by simp) hx
 simp only [relC,List.cons.injEq,and_true] at h
 obtain ⟨y,cap,_,h1,_⟩:=h
 exact h1
theorem rel_slc_nil {len:Nat} {x:Value} (hx:rel P ι (.slc none len) x):len=0∧x=.slice none 0 0:=by
 obtain ⟨h,_⟩:=rel_leaf_inv (by simp) (by simp) hx
 simpa [relC] using h
theorem rel_agg {l:List V} {x:Value} (hx:rel P ι (.agg l) x):∃ cs,x=.agg cs∧relCs P ι l cs.toList:=by
 rcases hx with hx | ⟨h1,h2⟩
 · cases hx
 · cases x <;> first | (simp [aggOK] at h1;done) | skip
   simp only [Value.cells,relC] at h2
   exact ⟨_,rfl,h2⟩
theorem mk_int (k:IntKind) (n:Int):rel P ι (.int k n) (.int k n):=.inr ⟨rfl,by simp [relC,Value.cells]⟩
theorem mk_bool (b:Bool):rel P ι (.bool b) (.bool b):=.inr ⟨rfl,by simp [relC,Value.cells]⟩
theorem mk_str (s:List UInt8):rel P ι (.str s) (.string ⟨s.toArray⟩):=.inr ⟨rfl,by simp [relC,Value.cells]⟩
theorem mk_ptr {a:PA} {y:Addr} (hy:relA P ι a y):rel P ι (.ptr (some a)) (.pointer (some y)):=.inr ⟨rfl,by simp only [relC,Value.cells];exact ⟨y,hy,rfl⟩⟩
theorem mk_slc {a:PA} {s len cap:Nat} {y:Addr} (h1:len≤cap) (h0:∃ L,ι a.n=some L) (h2:0 < cap→relRow P ι a s cap y):rel P ι (.slc (some (a,s)) len) (.slice (some y) len cap) :=
 .inr ⟨rfl,by simp only [relC,Value.cells];exact ⟨y,cap,h1,h0,h2,rfl⟩⟩
theorem aFieldAddr_ok {s:TypeId} {x v:V} {f:Nat} {y:Value} (hl:aFieldAddr P s x f=some v) (hx:rel P ι x y) (W:World) :
   ∃ z,(Instr.fieldAt s y f).run P W=.ok z W∧rel P ι v z:=by
 simp only [aFieldAddr] at hl
 split at hl
 · rename_i a
   split at hl
   · rename_i fs hu
     split at hl
     · rename_i g o u hg hlay
       split at hl
       · rename_i hc
         cases hl
         simp only [Bool.and_eq_true,decide_eq_true_eq] at hc
         obtain ⟨⟨hc1,hc2⟩,hc3⟩:=hc
         obtain ⟨z,rfl,hz⟩:=rel_ptr hx
         obtain ⟨d,hd⟩:=Option.isSome_iff_exists.1 hc3
         refine ⟨.pointer (some (z.add g.offset)),?_,mk_ptr ?_⟩
         · simp only [Instr.fieldAt,Sem.run_bind,run_underlying' hu,Result.andThen_ok,hg,Instr.sureAddr,Sem.run_pure,fieldPlace,run_sizeOf' hd,hc1,if_false]
         · obtain ⟨L,o',t',g1,g2,g3,rfl⟩:=hz
           rw [hlay] at g3
           simp only [Option.some.injEq,Prod.mk.injEq] at g3
           obtain ⟨rfl,rfl⟩:=g3
           unfold sameField at hc2
           split at hc2
           · rename_i o2 t2 hst
             simp only [decide_eq_true_eq] at hc2
             refine ⟨L,o + o2,t2,g1,g2,layB_snoc hlay hst,?_⟩
             rw [addr_add,hc2,Nat.add_assoc]
           · cases hc2
       · cases hl
     · cases hl
   · cases hl
 · cases hl
def aIndexAddr (P:Program) (t:TypeId) (x i:V):Option V :=
 match i with
 | .int _ i=>match x with
   | .ptr (some a)=>match ul P t,rowAt P a.ty a.p with
     | some (.array n e),some (_,e')=>if decide (e=e') && (ul P e).isSome && decide (0≤i∧i < (n:Int)) then some (.ptr (some { a with p:=a.p++[i.toNat] })) else none
     | _,_=>none
   | .slc (some (a,s)) len=>match ul P t,rowAt P a.ty a.p with
     | some (.slice e),some (_,e')=>if decide (e=e') && (ul P e).isSome && decide (0≤i∧i < (len:Int)) then some (.ptr (some { a with p:=a.p++[s + i.toNat] })) else none
     | _,_=>none
   | _=>none
 | _=>none
theorem aIndexAddr_ok {t:TypeId} {x i v:V} {y j:Value} (hl:aIndexAddr P t x i=some v) (hx:rel P ι x y) (hi:rel P ι i j) (W:World) :
   ∃ z,(Instr.indexAt t y j).run P W=.ok z W∧rel P ι v z:=by
 simp only [aIndexAddr] at hl
 split at hl
 · rename_i k n
   obtain rfl:=rel_int hi
   split at hl
   · rename_i a
     obtain ⟨z,rfl,hz⟩:=rel_ptr hx
     split at hl
     · rename_i len e o e' hu hrow
       split at hl
       · rename_i hc
         cases hl
         simp only [Bool.and_eq_true,decide_eq_true_eq] at hc
         obtain ⟨⟨rfl,hc2⟩,hc3⟩:=hc
         obtain ⟨d,hd⟩:=Option.isSome_iff_exists.1 hc2
         refine ⟨.pointer (some (z.add (n.toNat * P.cellsOf e))),?_,mk_ptr ?_⟩
         · simp only [Instr.indexAt,Sem.run_bind,asIntOf,Sem.run_pure,Result.andThen_ok,run_underlying' hu,Instr.sureAddr,hc3,and_self,if_true,run_sizeOf' hd]
         · obtain ⟨L,o',t',g1,g2,g3,rfl⟩:=hz
           refine ⟨L,o + n.toNat * P.cellsOf e,e,g1,g2,rowAt_snoc _ hrow,?_⟩
           have ho:o'=o:=rowAt_layB g3 hrow
           rw [addr_add,ho,Nat.add_assoc]
       · cases hl
     · cases hl
   · rename_i a s len
     obtain ⟨z,cap,rfl,hcap,hz⟩:=rel_slc hx
     split at hl
     · rename_i e o e' hu hrow
       split at hl
       · rename_i hc
         cases hl
         simp only [Bool.and_eq_true,decide_eq_true_eq] at hc
         obtain ⟨⟨rfl,hc2⟩,hc3⟩:=hc
         obtain ⟨d,hd⟩:=Option.isSome_iff_exists.1 hc2
         refine ⟨.pointer (some (z.add (n.toNat * P.cellsOf e))),?_,mk_ptr ?_⟩
         · simp only [Instr.indexAt,Sem.run_bind,asIntOf,Sem.run_pure,Result.andThen_ok,run_underlying' hu,hc3,and_self,if_true,run_sizeOf' hd]
         · obtain ⟨L,o',e',g1,g2,g3,rfl,g4⟩:=hz (by omega)
           rw [hrow] at g3
           simp only [Option.some.injEq,Prod.mk.injEq] at g3
           obtain ⟨rfl,rfl⟩:=g3
           refine ⟨L,o + (s + n.toNat) * P.cellsOf e,e,g1,g2,rowAt_snoc _ hrow,?_⟩
           rw [addr_add,Nat.add_mul]
           congr 1;omega
       · cases hl
     · cases hl
   · cases hl
 · cases hl
def aField (P:Program) (t:TypeId) (x:V) (f:Nat):Option V :=
 match x with
 | .agg l=>if hasShape P x t then match ul P t with
     | some (.struct _)=>l[f]?
     | _=>none
   else none
 | _=>none
theorem aField_ok (K:Ok P) {t:TypeId} {x v:V} {f:Nat} {y:Value} (hl:aField P t x f=some v) (hx:rel P ι x y) (W:World) :
   ∃ z,(Instr.field t y f).run P W=.ok z W∧rel P ι v z:=by
 simp only [aField] at hl
 split at hl
 · rename_i l
   obtain ⟨cs,rfl,hcs⟩:=rel_agg hx
   split at hl
   · rename_i hs
     split at hl
     · rename_i fs hu
       simp only [hasShape,hu] at hs
       obtain ⟨a,m,c,e1,k1,k2,k3⟩:=relCs_at hl hcs
       obtain ⟨t',ht',hs'⟩:=shapes_get hs hl
       simp only [List.getElem?_map,Array.getElem?_toList] at ht'
       cases hf:fs[f]? with
       | none=>rw [hf] at ht';cases ht'
       | some g =>
         rw [hf] at ht'
         simp only [Option.map_some,Option.some.injEq] at ht'
         subst ht'
         have s3:=sizes_ok K.lay _ _ a (shapes_take f hs) k1
         have hoff:a.length=g.offset:=by
           rw [s3,(K.lay.struct t fs hu).2 f g hf];simp [← List.map_take,List.map_map,Function.comp_def]
         obtain ⟨z,r1,r2,_⟩:=run_part' (a:=a) (c:=c) K.lay hs' k2 W
         refine ⟨z,?_,r2⟩
         have hcs':cs=(a++m++c).toArray:=by rw [← e1]
         simp only [Instr.field,Sem.run_bind,run_underlying' hu,Result.andThen_ok,hf,asAgg,Sem.run_pure,hcs',← hoff,r1]
     · cases hl
   · cases hl
 · cases hl
def aIndex (P:Program) (t:TypeId) (x i:V):Option V :=
 match i with
 | .int _ i=>match x with
   | .agg l=>if hasShape P x t && decide (0≤i) then match ul P t with
       | some (.array _ _)=>l[i.toNat]?
       | _=>none
     else none
   | .str s=>match ul P t with
     | some .string=>if 0≤i then match s[i.toNat]? with
         | some b=>some (.int .u8 b.toNat)
         | none=>none
       else none
     | _=>none
   | _=>none
 | _=>none
theorem aIndex_ok (K:Ok P) {t:TypeId} {x i v:V} {y j:Value} (hl:aIndex P t x i=some v) (hx:rel P ι x y) (hi:rel P ι i j) (W:World) :
   ∃ z,(Instr.index t y j).run P W=.ok z W∧rel P ι v z:=by
 simp only [aIndex] at hl
 split at hl
 · rename_i k n
   obtain rfl:=rel_int hi
   split at hl
   · rename_i l
     obtain ⟨cs,rfl,hcs⟩:=rel_agg hx
     split at hl
     · rename_i hs
       simp only [Bool.and_eq_true,decide_eq_true_eq] at hs
       split at hl
       · rename_i len e hu
         have hs1:=hs.1
         simp only [hasShape,hu,Bool.and_eq_true,beq_iff_eq] at hs1
         obtain ⟨a,m,c,e1,k1,k2,k3⟩:=relCs_at hl hcs
         have hs':=shapesAll_get hs1.2 hl
         have hlt:n.toNat < l.length:=by
           rcases Nat.lt_or_ge n.toNat l.length with h | h
           · exact h
           · simp [List.getElem?_eq_none h] at hl
         have s3:=sizesAll_ok K.lay _ _ a (shapesAll_take n.toNat hs1.2) k1
         rw [List.length_take,Nat.min_eq_left (Nat.le_of_lt hlt)] at s3
         obtain ⟨d,hd⟩:=shape_ul hs'
         obtain ⟨z,r1,r2,_⟩:=run_part' (a:=a) (c:=c) K.lay hs' k2 W
         refine ⟨z,?_,r2⟩
         have hcs':cs=(a++m++c).toArray:=by rw [← e1]
         have hb:(0≤n∧n < (len:Int)):=⟨hs.2,by rw [← hs1.1];omega⟩
         simp only [Instr.index,Sem.run_bind,asIntOf,Sem.run_pure,Result.andThen_ok,run_underlying' hu,hb,and_self,if_true,run_sizeOf' hd,hcs',← s3,r1]
       · cases hl
     · cases hl
   · rename_i s
     obtain rfl:=rel_str hx
     split at hl
     · rename_i hu
       split at hl
       · rename_i h0
         split at hl
         · rename_i b hb
           cases hl
           refine ⟨.int .u8 b.toNat,?_,mk_int _ _⟩
           have:(⟨s.toArray⟩:ByteArray)[n.toNat]?=some b:=by
             have hlt:n.toNat < s.length:=by
               rcases Nat.lt_or_ge n.toNat s.length with h | h
               · exact h
               · simp [List.getElem?_eq_none h] at hb
             have hsz:n.toNat < (⟨s.toArray⟩:ByteArray).size:=by simpa [ByteArray.size] using hlt
             rw [getElem?_pos (⟨s.toArray⟩:ByteArray) n.toNat hsz]
             rw [List.getElem?_eq_getElem hlt] at hb
             simpa [ByteArray.getElem_eq_getElem_data] using hb
           simp only [Instr.index,Sem.run_bind,asIntOf,Sem.run_pure,Result.andThen_ok,run_underlying' hu,h0,if_true,this]
         · cases hl
       · cases hl
     · cases hl
   · cases hl
 · cases hl
end Go.Ab
