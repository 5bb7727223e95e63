import Derived.Calls
import Derived.Below
import Derived.KernelRfl
import Derived.Laws.Sem
import Derived.Laws.Cells
import Derived.WalkKit
import Derived.ChangeKeysEq
import Derived.Laws.StructEq
import Derived.Lib.SlBytesConst
set_option linter.unusedVariables false
set_option linter.unusedSimpArgs false
set_option linter.unusedSectionVars false
noncomputable section
namespace Go.Ab
theorem K_ {p : Prop} (h : p := by kernel_rfl) : p := h
theorem O_ {p : Prop} (h : p := by omega) : p := h
theorem W_ {p : Prop} (h : p := by with_unfolding_all exact rfl) : p := h
theorem D_ {p : Prop} (h : p := by decide) : p := h
theorem E_ {p : Prop} (h : p := by decide +kernel) : p := h
theorem S_ {p : Prop} (h : p := by simp) : p := h
inductive nC where
 | one (t:TypeId)
 | row (e:TypeId)
 deriving DecidableEq
structure PA where
 n:Nat
 ty:nC
 p:List Nat
 deriving DecidableEq
inductive V where
 | bool (b:Bool)
 | int (k:IntKind) (n:Int)
 | str (s:List UInt8)
 | ptr (a:Option PA)
 | y8 (a:Option (PA × Nat)) (len:Nat)
 | agg (l:List V)
 | map (r:Option Nat)
 | fn (f:Fn) (first captured:List V)
 | uf
 | mB (t:TypeId) (v:V)
 | wb
 | yX (l:List V)
 | xF
instance:Inhabited V:=⟨.xF⟩
def ul (P:Program) (t:TypeId):Option TypeDesc:=if t<P.types.size then P.underlying t else none
def lay (P:Program):TypeId->List Nat->Option (Nat × TypeId)
 | t,[]=>some (0,t)
 | t,i :: p =>
  match ul P t with
  | some (.struct fs) =>
   match fs[i]? with
   | some f=>match lay P f.type p with
    | some (o,u)=>some (f.offset+o,u)
    | none=>none
   | none=>none
  | some (.array _ e)=>match lay P e p with
   | some (o,u)=>some (i*P.cellsOf e+o,u)
   | none=>none
  | _=>none
def tN (P:Program):nC->List Nat->Option (Nat × TypeId)
 | .one t,p=>lay P t p
 | .row e,i :: p=>match lay P e p with
  | some (o,u)=>some (i*P.cellsOf e+o,u)
  | none=>none
 | .row _,[]=>none
def rowAt (P:Program) (ty:nC) (p:List Nat):Option (Nat × TypeId) :=
 match ty,p with
 | .row e,[]=>some (0,e)
 | ty,p=>match tN P ty p with
  | some (o,t)=>match ul P t with
   | some (.array _ e)=>some (o,e)
   | _=>none
  | none=>none
structure Loc where
 wC:Nat
 off:Nat
 size:Nat
 ty:nC
abbrev zw:=Nat->Option Loc
def mj:V->Value->Bool
 | .agg _,.agg _=>true
 | .agg _,_=>false
 | _,.agg _=>false
 | _,_=>true
def ZJ (P:Program) (ι:zw) (a:PA) (x:Addr):Prop :=
 ∃ L o t,ι a.n=some L/\L.ty=a.ty/\tN P a.ty a.p=some (o,t)/\x=⟨L.wC,L.off+o,none⟩
def jx (P:Program) (ι:zw) (a:PA) (s cap:Nat) (x:Addr):Prop :=
 ∃ L o e,ι a.n=some L/\L.ty=a.ty/\rowAt P a.ty a.p=some (o,e)/\x=⟨L.wC,L.off+o+s*P.cellsOf e,none⟩ /\
  L.off+o+(s+cap)*P.cellsOf e<=L.size
mutual
def zL (P:Program) (ι:zw):V->List Value->Prop
 | .agg l,cs=>y5 P ι l cs
 | .bool b,cs=>cs=[.bool b]
 | .int k n,cs=>cs=[.int k n]
 | .str s,cs=>cs=[.string ⟨s.toArray⟩]
 | .ptr none,cs=>cs=[.pointer none]
 | .ptr (some a),cs=>∃ x,ZJ P ι a x/\cs=[.pointer (some x)]
 | .y8 none len,cs=>len=0/\cs=[.slice none 0 0]
 | .y8 (some (a,s)) len,cs=>∃ x cap,len<=cap/\(∃ L,ι a.n=some L)/\(0<cap->jx P ι a s cap x)/\cs=[.slice (some x) len cap]
 | .map none,cs=>cs=[.map none]
 | .map (some n),cs=>∃ L,ι n=some L/\cs=[.map (some L.wC)]
 | .fn f a b,cs=>∃ a' b',wo P ι a a'/\wo P ι b b'/\cs=[.func f a'.toArray b'.toArray]
 | .uf,cs=>cs=[.nilFunc]
 | .mB t v,cs=>∃ y,mj v y=true/\zL P ι v y.cells.toList/\cs=[.iface t y]
 | .wb,cs=>cs=[.nilIface]
 | .yX l,cs=>∃ vs,wo P ι l vs/\cs=[.tuple vs.toArray]
 | .xF,_=>False
def y5 (P:Program) (ι:zw):List V->List Value->Prop
 | [],cs=>cs=[]
 | v :: vs,cs=>∃ a b,zL P ι v a/\y5 P ι vs b/\cs=a++b
def wo (P:Program) (ι:zw):List V->List Value->Prop
 | [],xs=>xs=[]
 | v :: vs,xs=>∃ y ys,(v=.xF\/mj v y=true/\zL P ι v y.cells.toList)/\wo P ι vs ys/\xs=y :: ys
end
def rel (P:Program) (ι:zw) (v:V) (x:Value):Prop:=v=.xF\/mj v x=true/\zL P ι v x.cells.toList
def si (P:Program) (t:TypeId) (f:TypeDesc->Bool):Bool :=
 match ul P t with
 | some d=>f d
 | none=>false
mutual
def zf (P:Program):V->TypeId->Bool
 | .agg l,t=>match ul P t with
  | some (.struct fs)=>yQ P l (fs.toList.map (·.type))
  | some (.array n e)=>l.length == n&&zF P l e
  | _=>false
 | .xF,_=>false
 | .yX _,_=>false
 | .bool _,t=>si P t fun | .bool=>true | _=>false
 | .int k _,t=>si P t fun | .int k'=>decide (k=k') | _=>false
 | .str _,t=>si P t fun | .string=>true | _=>false
 | .ptr _,t=>si P t fun | .pointer _=>true | _=>false
 | .y8 _ _,t=>si P t fun | .slice _=>true | _=>false
 | .map _,t=>si P t fun | .map _ _=>true | _=>false
 | .fn _ _ _,t=>si P t fun | .func _ _ _=>true | _=>false
 | .uf,t=>si P t fun | .func _ _ _=>true | _=>false
 | .mB _ _,t=>si P t fun | .interface _=>true | _=>false
 | .wb,t=>si P t fun | .interface _=>true | _=>false
def yQ (P:Program):List V->List TypeId->Bool
 | [],[]=>true
 | v :: vs,t :: ts=>zf P v t&&yQ P vs ts
 | _,_=>false
def zF (P:Program):List V->TypeId->Bool
 | [],_=>true
 | v :: vs,e=>zf P v e&&zF P vs e
end
def rT (P:Program) (v:V):nC->Bool
 | .one t=>zf P v t
 | .row e=>match v with
  | .agg l=>zF P l e
  | _=>false
def yF:V->List Nat->Option V
 | v,[]=>some v
 | .agg l,i :: p=>match l[i]? with
  | some x=>yF x p
  | none=>none
 | _,_ :: _=>none
def tX:V->List Nat->V->Option V
 | _,[],w=>some w
 | .agg l,i :: p,w=>match l[i]? with
  | some x=>match tX x p w with
   | some y=>some (.agg (l.set i y))
   | none=>none
  | none=>none
 | _,_ :: _,_=>none
def pB (P:Program):List Field->Nat->Bool
 | [],_=>true
 | f :: fs,o=>f.offset == o&&pB P fs (o+P.cellsOf f.type)
structure uF (P:Program):Prop where
 struct:∀ t fs,ul P t=some (.struct fs)->P.cellsOf t=(fs.toList.map λf=>P.cellsOf f.type).sum /\
  ∀ i f,fs[i]?=some f->f.offset=((fs.toList.take i).map λf=>P.cellsOf f.type).sum
 z4l:∀ t fs,ul P t=some (.struct fs)->pB P fs.toList 0=true
 array:∀ t n e,ul P t=some (.array n e)->P.cellsOf t=n*P.cellsOf e
 leaf:∀ t d,ul P t=some d->(∀ fs,d≠.struct fs)->(∀ n e,d≠.array n e)->P.cellsOf t=1
def ir (P:Program) (t:TypeId):Bool :=
 match ul P t with
 | some (.struct fs)=>P.cellsOf t == (fs.toList.map λf=>P.cellsOf f.type).sum&&pB P fs.toList 0
 | some (.array n e)=>P.cellsOf t == n*P.cellsOf e
 | some _=>P.cellsOf t == 1
 | none=>true
section
variable {P:Program} {ι ι':zw}
def zw.le (ι ι':zw):Prop:=∀ n L,ι n=some L->ι' n=some L
theorem zw.le_refl (ι:zw):zw.le ι ι:=λ_ _ h=>h
theorem zw.le_trans {a b c:zw} (h:zw.le a b) (k:zw.le b c):zw.le a c:=λn L e=>k n L (h n L e)
theorem IY (h:zw.le ι ι') {a:PA} {x:Addr} (r:ZJ P ι a x):ZJ P ι' a x:=by
 obtain ⟨L,o,t,h1,h2⟩:=r;exact ⟨L,o,t,h _ _ h1,h2⟩
theorem OK (h:zw.le ι ι') {a:PA} {s c:Nat} {x:Addr} (r:jx P ι a s c x):jx P ι' a s c x:=by
 obtain ⟨L,o,e,h1,h2⟩:=r;exact ⟨L,o,e,h _ _ h1,h2⟩
mutual
theorem md (h:zw.le ι ι'):∀ (v:V) (cs:List Value),zL P ι v cs->zL P ι' v cs
 | .agg l,cs,r=>by simp only [zL] at r ⊢;exact jO h l cs r
 | .bool _,_,r=>by simpa only [zL] using r
 | .int _ _,_,r=>by simpa only [zL] using r
 | .str _,_,r=>by simpa only [zL] using r
 | .ptr none,_,r=>by simpa only [zL] using r
 | .ptr (some _),_,r=>by
  simp only [zL] at r ⊢;obtain ⟨x,h1,h2⟩:=r;exact ⟨x,IY h h1,h2⟩
 | .y8 none _,_,r=>by simpa only [zL] using r
 | .y8 (some (_,_)) _,_,r=>by
  simp only [zL] at r ⊢;obtain ⟨x,c,h1,⟨L,hL⟩,h2,h3⟩:=r;exact ⟨x,c,h1,⟨L,h _ _ hL⟩,λhc=>OK h (h2 hc),h3⟩
 | .map none,_,r=>by simpa only [zL] using r
 | .map (some _),_,r=>by
  simp only [zL] at r ⊢;obtain ⟨L,h1,h2⟩:=r;exact ⟨L,h _ _ h1,h2⟩
 | .fn _ a b,_,r=>by
  simp only [zL] at r ⊢;obtain ⟨a',b',h1,h2,h3⟩:=r;exact ⟨a',b',hP h a a' h1,hP h b b' h2,h3⟩
 | .uf,_,r=>by simpa only [zL] using r
 | .mB _ v,_,r=>by
  simp only [zL] at r ⊢;obtain ⟨y,h1,h2,h3⟩:=r;exact ⟨y,h1,md h v _ h2,h3⟩
 | .wb,_,r=>by simpa only [zL] using r
 | .yX l,_,r=>by
  simp only [zL] at r ⊢;obtain ⟨vs,h1,h2⟩:=r;exact ⟨vs,hP h l vs h1,h2⟩
 | .xF,_,r=>by simp only [zL] at r
theorem jO (h:zw.le ι ι'):∀ (l:List V) (cs:List Value),y5 P ι l cs->y5 P ι' l cs
 | [],_,r=>by simpa only [y5] using r
 | v :: vs,_,r=>by
  simp only [y5] at r ⊢;obtain ⟨a,b,h1,h2,h3⟩:=r;exact ⟨a,b,md h v a h1,jO h vs b h2,h3⟩
theorem hP (h:zw.le ι ι'):∀ (l:List V) (xs:List Value),wo P ι l xs->wo P ι' l xs
 | [],_,r=>by simpa only [wo] using r
 | v :: vs,_,r=>by
  simp only [wo] at r ⊢;obtain ⟨y,ys,h1,h2,h3⟩:=r;refine ⟨y,ys,?_,hP h vs ys h2,h3⟩;rcases h1 with h1 | ⟨h1,nF⟩
  ·exact .inl h1
  ·exact .inr ⟨h1,md h v _ nF⟩
end
theorem bG (h:zw.le ι ι') {v:V} {x:Value} (r:rel P ι v x):rel P ι' v x:=by
 rcases r with r | ⟨r1,r2⟩
 ·exact .inl r
 ·exact .inr ⟨r1,md h v _ r2⟩
theorem relL_nil:wo P ι [] []:=by simp only [wo]
theorem relL_cons {v:V} {vs:List V} {x:Value} {xs:List Value} (h:rel P ι v x) (k:wo P ι vs xs):wo P ι (v :: vs) (x :: xs):=by
 simp only [wo];exact ⟨x,xs,h,k,rfl⟩
theorem yY {v:V} {vs:List V} {xs:List Value}:wo P ι (v :: vs) xs↔∃ y ys,rel P ι v y/\wo P ι vs ys/\xs=y :: ys:=by
 simp only [wo];rfl
theorem qi:∀ {l:List V} {xs:List Value},wo P ι l xs->xs.length=l.length
 | [],xs,h=>by simp only [wo] at h;subst h;rfl
 | v :: vs,xs,h=>by
  obtain ⟨y,ys,_,h2,rfl⟩:=yY.1 h;simp [qi h2]
theorem qx:∀ {l m:List V} {xs ys:List Value},wo P ι l xs->wo P ι m ys->wo P ι (l++m) (xs++ys)
 | [],m,xs,ys,h,k=>by simp only [wo] at h;subst h;simpa using k
 | v :: vs,m,xs,ys,h,k=>by
  obtain ⟨y,zs,h1,h2,rfl⟩:=yY.1 h;exact relL_cons h1 (qx h2 k)
theorem iY:∀ {l:List V} {xs:List Value} (_:wo P ι l xs) (i:Nat) {v:V},l[i]?=some v->∃ x,xs[i]?=some x/\rel P ι v x
 | [],xs,h,i,v,e=>by simp at e
 | w :: vs,xs,h,i,v,e=>by
  obtain ⟨y,ys,h1,h2,rfl⟩:=yY.1 h;cases i with
  | zero=>simp at e;subst e;exact ⟨y,rfl,h1⟩
  | succ i=>simp at e;obtain ⟨x,hx,hr⟩:=iY h2 i e;exact ⟨x,by simpa using hx,hr⟩
theorem vY:∀ {l m:List V} {a b:List Value},y5 P ι l a->y5 P ι m b->y5 P ι (l++m) (a++b)
 | [],m,a,b,h,k=>by simp only [y5] at h;subst h;simpa using k
 | v :: vs,m,a,b,h,k=>by
  simp only [y5] at h;obtain ⟨x,y,h1,h2,rfl⟩:=h;simp only [List.cons_append,y5];exact ⟨x,y++b,h1,vY h2 k,S_⟩
theorem ov:∀ {l m:List V} {cs:List Value},y5 P ι (l++m) cs->∃ a b,y5 P ι l a/\y5 P ι m b/\cs=a++b
 | [],m,cs,h=>⟨[],cs,by simp only [y5],by simpa using h,rfl⟩
 | v :: vs,m,cs,h=>by
  simp only [List.cons_append,y5] at h;obtain ⟨x,y,h1,h2,rfl⟩:=h;obtain ⟨a,b,h3,h4,rfl⟩:=ov h2;exact ⟨x++a,b,by simp only [y5];exact ⟨x,a,h1,h3,rfl⟩,h4,S_⟩
theorem rO {v:V} {vs:List V} {a b:List Value} (h:zL P ι v a) (k:y5 P ι vs b):y5 P ι (v :: vs) (a++b):=by
 simp only [y5];exact ⟨a,b,h,k,rfl⟩
theorem wg {t:TypeId} {f:TypeDesc->Bool} (h:si P t f=true):∃ d,ul P t=some d/\f d=true:=by
 unfold si at h;split at h
 ·exact ⟨_,by assumption,h⟩
 ·cases h
theorem tc {v:V} {t:TypeId} (H:uF P) (hv:∀ l,v≠.agg l) (hs:zf P v t=true):P.cellsOf t=1:=by
 have key:∃ f,si P t f=true/\(∀ fs,f (.struct fs)=false)/\∀ n e,f (.array n e)=false:=by
  cases v <;> first | exact absurd rfl (hv _) | (simp only [zf] at hs;first | exact ⟨_,hs,λ_=>rfl,λ_ _=>rfl⟩ | cases hs)
 obtain ⟨f,h1,h2,h3⟩:=key;obtain ⟨d,hu,hd⟩:=wg h1;refine H.leaf t d hu ?_ ?_
 ·rintro fs rfl;rw [h2] at hd;cases hd
 ·rintro n e rfl;rw [h3] at hd;cases hd
theorem wI {v:V} {cs:List Value} (hv:∀ l,v≠.agg l) (h:zL P ι v cs):cs.length=1:=by
 cases v with
 | agg l=>exact absurd rfl (hv l)
 | ptr a =>
  cases a <;> simp only [zL] at h
  ·subst h;rfl
  ·obtain ⟨_,_,rfl⟩:=h;rfl
 | y8 a n=>cases a with
  | none=>simp only [zL] at h;obtain ⟨_,rfl⟩:=h;rfl
  | some a=>obtain ⟨a,s⟩:=a;simp only [zL] at h;obtain ⟨_,_,_,_,_,rfl⟩:=h;rfl
 | map r =>
  cases r <;> simp only [zL] at h
  ·subst h;rfl
  ·obtain ⟨_,_,rfl⟩:=h;rfl
 | fn f a b=>simp only [zL] at h;obtain ⟨_,_,_,_,rfl⟩:=h;rfl
 | mB t v=>simp only [zL] at h;obtain ⟨_,_,_,rfl⟩:=h;rfl
 | yX l=>simp only [zL] at h;obtain ⟨_,_,rfl⟩:=h;rfl
 | xF=>simp only [zL] at h
 | _=>simp only [zL] at h;subst h;rfl
mutual
theorem wB (H:uF P):∀ (v:V) (t:TypeId) (cs:List Value),zf P v t=true->zL P ι v cs->cs.length=P.cellsOf t
 | .agg l,t,cs,hs,r=>by
  simp only [zL] at r;simp only [zf] at hs;split at hs
  ·rename_i fs hu;rw [(H.struct t fs hu).1];have:=li H l (fs.toList.map (·.type)) cs hs r;simpa [List.map_map,Function.comp_def] using this
  ·rename_i n e hu;simp only [Bool.and_eq_true,beq_iff_eq] at hs;rw [H.array t n e hu,<- hs.1];exact yJ H l e cs hs.2 r
  ·simp at hs
 | .bool b,t,cs,hs,r=>by rw [wI S_ r,tc H S_ hs]
 | .int k n,t,cs,hs,r=>by rw [wI S_ r,tc H S_ hs]
 | .str s,t,cs,hs,r=>by rw [wI S_ r,tc H S_ hs]
 | .ptr a,t,cs,hs,r=>by rw [wI S_ r,tc H S_ hs]
 | .y8 a n,t,cs,hs,r=>by rw [wI S_ r,tc H S_ hs]
 | .map a,t,cs,hs,r=>by rw [wI S_ r,tc H S_ hs]
 | .fn f a b,t,cs,hs,r=>by rw [wI S_ r,tc H S_ hs]
 | .uf,t,cs,hs,r=>by rw [wI S_ r,tc H S_ hs]
 | .mB u v,t,cs,hs,r=>by rw [wI S_ r,tc H S_ hs]
 | .wb,t,cs,hs,r=>by rw [wI S_ r,tc H S_ hs]
 | .yX l,t,cs,hs,r=>by simp [zf] at hs
 | .xF,t,cs,hs,r=>by simp [zf] at hs
theorem li (H:uF P):∀ (l:List V) (ts:List TypeId) (cs:List Value),yQ P l ts=true->y5 P ι l cs->cs.length=(ts.map P.cellsOf).sum
 | [],[],cs,_,r=>by simp only [y5] at r;subst r;rfl
 | [],_ :: _,cs,h,_=>by simp [yQ] at h
 | _ :: _,[],cs,h,_=>by simp [yQ] at h
 | v :: vs,t :: ts,cs,h,r=>by
  simp only [yQ,Bool.and_eq_true] at h;simp only [y5] at r;obtain ⟨a,b,h1,h2,rfl⟩:=r;rw [List.length_append,wB H v t a h.1 h1,li H vs ts b h.2 h2];simp
theorem yJ (H:uF P):∀ (l:List V) (e:TypeId) (cs:List Value),zF P l e=true->y5 P ι l cs->cs.length=l.length*P.cellsOf e
 | [],e,cs,_,r=>by simp only [y5] at r;subst r;simp
 | v :: vs,e,cs,h,r=>by
  simp only [zF,Bool.and_eq_true] at h;simp only [y5] at r;obtain ⟨a,b,h1,h2,rfl⟩:=r;rw [List.length_append,wB H v e a h.1 h1,yJ H vs e b h.2 h2];simp [Nat.add_mul,Nat.add_comm]
end
theorem sk:∀ {l:List V} {e:TypeId} {i:Nat} {v:V},zF P l e=true->l[i]?=some v->zf P v e=true
 | [],e,i,v,h,k=>by simp at k
 | w :: vs,e,0,v,h,k=>by simp only [zF,Bool.and_eq_true] at h;simp at k;subst k;exact h.1
 | w :: vs,e,i+1,v,h,k=>by simp only [zF,Bool.and_eq_true] at h;exact sk h.2 (by simpa using k)
theorem rW:∀ {l:List V} {e:TypeId} {i:Nat} {v:V},zF P l e=true->zf P v e=true->zF P (l.set i v) e=true
 | [],e,i,v,h,k=>by simpa using h
 | w :: vs,e,0,v,h,k=>by simp only [zF,Bool.and_eq_true] at h;simp only [List.set_cons_zero,zF,k,h.2,Bool.and_self]
 | w :: vs,e,i+1,v,h,k=>by
  simp only [zF,Bool.and_eq_true] at h;simp only [List.set_cons_succ,zF,h.1,rW h.2 k,Bool.and_self]
theorem uJ:∀ {l m:List V} {e:TypeId},zF P (l++m) e=(zF P l e&&zF P m e)
 | [],m,e=>by simp [zF]
 | w :: vs,m,e=>by simp [zF,uJ,Bool.and_assoc]
theorem yI:∀ {l:List V} {e:TypeId} (i:Nat),zF P l e=true->zF P (l.take i) e=true
 | [],e,i,h=>by simpa using h
 | w :: vs,e,0,h=>by simp [zF]
 | w :: vs,e,i+1,h=>by
  simp only [zF,Bool.and_eq_true] at h;simp only [List.take_succ_cons,zF,h.1,yI i h.2,Bool.and_self]
theorem ve:∀ {l:List V} {e:TypeId} (i:Nat),zF P l e=true->zF P (l.drop i) e=true
 | [],e,i,h=>by simpa using h
 | w :: vs,e,0,h=>by simpa using h
 | w :: vs,e,i+1,h=>by
  simp only [zF,Bool.and_eq_true] at h;simpa using ve i h.2
theorem tZ {v:V} {e:TypeId} (h:zf P v e=true):∀ n,zF P (List.replicate n v) e=true
 | 0=>by simp [zF]
 | n+1=>by simp [List.replicate_succ,zF,h,tZ h n]
theorem nM:∀ {l:List V} {ts:List TypeId} {i:Nat} {v:V},yQ P l ts=true->l[i]?=some v->∃ t,ts[i]?=some t/\zf P v t=true
 | [],ts,i,v,h,k=>by simp at k
 | w :: vs,[],i,v,h,k=>by simp [yQ] at h
 | w :: vs,t :: ts,0,v,h,k=>by simp only [yQ,Bool.and_eq_true] at h;simp at k;subst k;exact ⟨t,rfl,h.1⟩
 | w :: vs,t :: ts,i+1,v,h,k=>by
  simp only [yQ,Bool.and_eq_true] at h;obtain ⟨u,h1,h2⟩:=nM h.2 (i:=i) (by simpa using k);exact ⟨u,by simpa using h1,h2⟩
theorem jD:∀ {l:List V} {ts:List TypeId} {i:Nat} {v:V} {t:TypeId},yQ P l ts=true->ts[i]?=some t->zf P v t=true->yQ P (l.set i v) ts=true
 | [],ts,i,v,t,h,k,hv=>by simpa using h
 | w :: vs,[],i,v,t,h,k,hv=>by simp [yQ] at h
 | w :: vs,u :: ts,0,v,t,h,k,hv=>by
  simp only [yQ,Bool.and_eq_true] at h;simp at k;subst k;simp only [List.set_cons_zero,yQ,hv,h.2,Bool.and_self]
 | w :: vs,u :: ts,i+1,v,t,h,k,hv=>by
  simp only [yQ,Bool.and_eq_true] at h;simp only [List.set_cons_succ,yQ,h.1,jD h.2 (by simpa using k) hv,Bool.and_self]
theorem oy:∀ {l:List V} {ts:List TypeId} (i:Nat),yQ P l ts=true->yQ P (l.take i) (ts.take i)=true
 | l,ts,0,h=>by simp [yQ]
 | [],[],i+1,h=>by simp [yQ]
 | [],_ :: _,i+1,h=>by simp [yQ] at h
 | _ :: _,[],i+1,h=>by simp [yQ] at h
 | v :: vs,t :: ts,i+1,h=>by
  simp only [yQ,Bool.and_eq_true] at h;simp only [List.take_succ_cons,yQ,h.1,oy i h.2,Bool.and_self]
theorem VR {α:Type}:∀ {l:List α} {i:Nat} {x:α},l[i]?=some x->l=l.take i++x :: l.drop (i+1)
 | [],i,x,h=>by simp at h
 | y :: l,0,x,h=>by simp at h;subst h;simp
 | y :: l,i+1,x,h=>by
  have:=VR (l:=l) (i:=i) (x:=x) (by simpa using h);simp only [List.take_succ_cons,List.drop_succ_cons,List.cons_append];rw [<- this]
theorem Lu {α:Type}:∀ {l:List α} {i:Nat} {x:α} (y:α),l[i]?=some x->l.set i y=l.take i++y :: l.drop (i+1)
 | [],i,x,y,h=>by simp at h
 | z :: l,0,x,y,h=>by simp
 | z :: l,i+1,x,y,h=>by
  have:=Lu (l:=l) (i:=i) (x:=x) y (by simpa using h);simp only [List.set_cons_succ,List.take_succ_cons,List.drop_succ_cons,List.cons_append,this]
theorem mH {l:List V} {cs:List Value} {i:Nat} {v:V} (h:l[i]?=some v) (r:y5 P ι l cs) :
 ∃ a b c,cs=a++b++c/\y5 P ι (l.take i) a/\zL P ι v b/\y5 P ι (l.drop (i+1)) c:=by
 rw [VR h] at r;obtain ⟨a,d,h1,h2,rfl⟩:=ov r;simp only [y5] at h2;obtain ⟨b,c,h3,h4,rfl⟩:=h2;exact ⟨a,b,c,S_,h1,h3,h4⟩
theorem kI {l:List V} {a b c:List Value} {i:Nat} {v w:V} (h:l[i]?=some v) (h1:y5 P ι (l.take i) a) (h2:zL P ι w b) (h3:y5 P ι (l.drop (i+1)) c) :
 y5 P ι (l.set i w) (a++b++c):=by
 rw [Lu w h,List.append_assoc];exact vY h1 (rO h2 h3)
theorem cI (H:uF P):∀ (p:List Nat) (v:V) (t:TypeId) (cs:List Value) (o:Nat) (u:TypeId) (w:V),
 zf P v t=true->zL P ι v cs->lay P t p=some (o,u)->yF v p=some w ->
 zf P w u=true/\∃ a b c,cs=a++b++c/\a.length=o/\zL P ι w b /\
  (∀ (w':V) (b':List Value) (v':V),zf P w' u=true->zL P ι w' b'->tX v p w'=some v'->zf P v' t=true/\zL P ι v' (a++b'++c))
 | [],v,t,cs,o,u,w,hs,r,hl,hg=>by
  simp only [lay,Option.some.injEq,Prod.mk.injEq] at hl;obtain ⟨rfl,rfl⟩:=hl;simp only [yF,Option.some.injEq] at hg;subst hg;refine ⟨hs,[],cs,[],S_,rfl,r,?_⟩;intro w' b' v' h1 h2 h3;simp only [tX,Option.some.injEq] at h3;subst h3;exact ⟨h1,by simpa using h2⟩
 | i :: p,v,t,cs,o,u,w,hs,r,hl,hg=>by
  cases v with
  | agg l =>
   simp only [yF] at hg;cases hx:l[i]? with
   | none=>simp [hx] at hg
   | some x =>
    simp only [hx] at hg;simp only [zL] at r;obtain ⟨a,b,c,rfl,h1,h2,h3⟩:=mH hx r;simp only [lay] at hl;simp only [zf] at hs;split at hl
    ·rename_i fs hu;rw [hu] at hs;simp only at hs;split at hl
     ·rename_i f hf;split at hl
      ·rename_i o' u' PY;simp only [Option.some.injEq,Prod.mk.injEq] at hl;obtain ⟨rfl,rfl⟩:=hl;obtain ⟨tx,ht,hsx⟩:=nM hs hx;have htf:tx=f.type:=by
        simp only [List.getElem?_map,Array.getElem?_toList,hf,Option.map_some,Option.some.injEq] at ht;exact ht.symm
       subst htf;obtain ⟨hw,a2,b2,c2,Ny,hlen,hrw,qz⟩:=cI H p x f.type b o' u' w hsx h2 PY hg;refine ⟨hw,a++a2,b2,c2++c,by rw [Ny];simp,?_,hrw,?_⟩
       ·have:=li H _ _ a (oy i hs) h1;rw [List.length_append,this,hlen,(H.struct t fs hu).2 i f hf];simp [<- List.map_take,List.map_map,Function.comp_def]
       ·intro w' b' v' g1 g2 g3;simp only [tX,hx] at g3;split at g3
        ·rename_i y hy;simp only [Option.some.injEq] at g3;subst g3;obtain ⟨k1,k2⟩:=qz w' b' y g1 g2 hy;refine ⟨?_,?_⟩
         ·simp only [zf,hu];exact jD hs ht k1
         ·simp only [zL];have:=kI hx h1 k2 h3;simpa [List.append_assoc] using this
        ·simp at g3
      ·simp at hl
     ·simp at hl
    ·rename_i n e hu;rw [hu] at hs;simp only [Bool.and_eq_true,beq_iff_eq] at hs;split at hl
     ·rename_i o' u' PY;simp only [Option.some.injEq,Prod.mk.injEq] at hl;obtain ⟨rfl,rfl⟩:=hl;have hsx:=sk hs.2 hx;obtain ⟨hw,a2,b2,c2,Ny,hlen,hrw,qz⟩:=cI H p x e b o' u' w hsx h2 PY hg;refine ⟨hw,a++a2,b2,c2++c,by rw [Ny];simp,?_,hrw,?_⟩
      ·have:=yJ H _ e a (yI i hs.2) h1;have hi:i<l.length:=by
        rcases Nat.lt_or_ge i l.length with h | h
        ·exact h
        ·simp [List.getElem?_eq_none h] at hx
       rw [List.length_append,this,hlen,List.length_take,Nat.min_eq_left (Nat.le_of_lt hi)]
      ·intro w' b' v' g1 g2 g3;simp only [tX,hx] at g3;split at g3
       ·rename_i y hy;simp only [Option.some.injEq] at g3;subst g3;obtain ⟨k1,k2⟩:=qz w' b' y g1 g2 hy;refine ⟨?_,?_⟩
        ·simp only [zf,hu,List.length_set,hs.1,beq_self_eq_true,Bool.true_and];exact rW hs.2 k1
        ·simp only [zL];have:=kI hx h1 k2 h3;simpa [List.append_assoc] using this
       ·simp at g3
     ·simp at hl
    ·simp at hl
  | _=>simp [yF] at hg
theorem Mj (H:uF P) (ty:nC) (p:List Nat) (v:V) (cs:List Value) (o:Nat) (u:TypeId) (w:V)
 (hs:rT P v ty=true) (r:zL P ι v cs) (hl:tN P ty p=some (o,u)) (hg:yF v p=some w) :
 zf P w u=true/\∃ a b c,cs=a++b++c/\a.length=o/\zL P ι w b /\
  (∀ (w':V) (b':List Value) (v':V),zf P w' u=true->zL P ι w' b'->tX v p w'=some v'->rT P v' ty=true/\zL P ι v' (a++b'++c)):=by
 cases ty with
 | one t=>exact cI H p v t cs o u w hs r hl hg
 | row e =>
  cases p with
  | nil=>simp [tN] at hl
  | cons i p =>
   cases v with
   | agg l =>
    simp only [yF] at hg;simp only [rT] at hs;cases hx:l[i]? with
    | none=>simp [hx] at hg
    | some x =>
     simp only [hx] at hg;simp only [zL] at r;obtain ⟨a,b,c,rfl,h1,h2,h3⟩:=mH hx r;simp only [tN] at hl;split at hl
     ·rename_i o' u' PY;simp only [Option.some.injEq,Prod.mk.injEq] at hl;obtain ⟨rfl,rfl⟩:=hl;have hsx:=sk hs hx;obtain ⟨hw,a2,b2,c2,Ny,hlen,hrw,qz⟩:=cI H p x e b o' u' w hsx h2 PY hg;refine ⟨hw,a++a2,b2,c2++c,by rw [Ny];simp,?_,hrw,?_⟩
      ·have:=yJ H _ e a (yI i hs) h1;have hi:i<l.length:=by
        rcases Nat.lt_or_ge i l.length with h | h
        ·exact h
        ·simp [List.getElem?_eq_none h] at hx
       rw [List.length_append,this,hlen,List.length_take,Nat.min_eq_left (Nat.le_of_lt hi)]
      ·intro w' b' v' g1 g2 g3;simp only [tX,hx] at g3;split at g3
       ·rename_i y hy;simp only [Option.some.injEq] at g3;subst g3;obtain ⟨k1,k2⟩:=qz w' b' y g1 g2 hy;refine ⟨?_,?_⟩
        ·simp only [rT];exact rW hs k1
        ·simp only [zL];have:=kI hx h1 k2 h3;simpa [List.append_assoc] using this
       ·simp at g3
     ·simp at hl
   | _=>simp [yF] at hg
theorem eV (P:Program):∀ (fs:List Field) (o:Nat),pB P fs o=true->∀ i f,fs[i]?=some f->f.offset=o+((fs.take i).map λf=>P.cellsOf f.type).sum
 | [],o,_,i,f,h=>by simp at h
 | g :: fs,o,h,i,f,k=>by
  simp only [pB,Bool.and_eq_true,beq_iff_eq] at h;cases i with
  | zero=>simp at k;subst k;simp [h.1]
  | succ i =>
   have:=eV P fs _ h.2 i f (by simpa using k);rw [this];simp [Nat.add_assoc]
theorem sx {t:TypeId} {d:TypeDesc} (h:ul P t=some d):P.underlying t=some d:=by
 unfold ul at h;split at h
 ·exact h
 ·simp at h
theorem Kp (P:Program) (h:∀ t,t<P.types.size->ir P t=true):uF P:=by
 have key:∀ t,ir P t=true:=by
  intro t;by_cases ht:t<P.types.size
  ·exact h t ht
  ·have hn:ul P t=none:=by simp [ul,ht]
   simp [ir,hn]
 refine ⟨λt fs hu=>?_,λt fs hu=>?_,λt n e hu=>?_,λt d hu h1 h2=>?_⟩
 ·have:=key t;simp only [ir,hu,Bool.and_eq_true,beq_iff_eq] at this;refine ⟨this.1,λi f hf=>?_⟩;have:=eV P fs.toList 0 this.2 i f (by simpa using hf);simpa using this
 ·have:=key t;simp only [ir,hu,Bool.and_eq_true,beq_iff_eq] at this;exact this.2
 ·have:=key t;simpa only [ir,hu,beq_iff_eq] using this
 ·have:=key t;simp only [ir,hu] at this;cases d <;> first | exact absurd rfl (h1 _) | exact absurd rfl (h2 _ _) | simpa using this
end
section
open Go Go.RowKit
inductive AO where
 | cells (own:Bool) (ty:nC) (v:V)
 | mp (kt et:TypeId) (es:List (V × V))
 | BB (kt et:TypeId) (es:List (V × V)) (st:List Nat) (clock:Nat)
 | BC (s:List UInt8) (pos:Nat)
 | PZ (m:Option Nat) (since:Nat) (seen:List Nat) (last:Nat)
def AO.w8:AO->Bool
 | .cells own _ _=>own
 | _=>true
structure AH where
 next:Nat
 m:Nat->Option AO
def AH.put (h:AH) (n:Nat) (o:AO):AH:={ h with m:=λi=>if i=n then some o else h.m i }
def AH.make (h:AH) (o:AO):AH:={ next:=h.next+1,m:=λi=>if i=h.next then some o else h.m i }
def AH.kill (h:AH) (n:Nat):AH:={ h with m:=λi=>if i=n then none else h.m i }
structure wy where
 F:Nat->Prop
 W0:World
def pq (fr:Nat × Nat) (n:Nat):Prop:=∀ i,i<n->¬ (fr.1<=i/\i<fr.2)
def vD (P:Program) (ι:zw) (kt et:TypeId):List (V × V)->List MapEntry->Prop
 | [],xs=>xs=[]
 | (k,v) :: es,xs=>∃ e rest,xs=e :: rest/\(rel P ι k e.key/\zf P k kt=true)/\(rel P ι v e.val/\zf P v et=true)/\vD P ι kt et es rest
def S4 (P:Program) (ty:nC) (elem:TypeId) (L:Loc):Prop :=
 match ty with
 | .one t=>elem=t/\L.off=0/\L.size=P.cellsOf t
 | .row e=>elem=e
def tp (xs:List MapEntry) (clock:Nat):Prop:=(∀ x∈xs,x.born<clock)/\(xs.map (·.born)).Nodup
def pG (P:Program) (ι:zw) (W:World) (L:Loc):AO->Prop
 | .cells own ty v=>L.ty=ty/\rT P v ty=true/\∃ a b c elem fr,W.heap[L.wC]?=some (.cells (a++b++c).toArray elem fr) /\
  a.length=L.off/\(a++b++c).length=L.size/\zL P ι v b/\(own=true->pq fr L.size/\S4 P ty elem L)
 | .mp kt et es=>∃ xs clock,W.heap[L.wC]?=some (.map xs clock)/\vD P ι kt et es xs.toList/\tp xs.toList clock
 | .BB kt et es st clock=>∃ xs,W.heap[L.wC]?=some (.map xs clock)/\vD P ι kt et es xs.toList/\tp xs.toList clock/\xs.toList.map (·.born)=st
 | .BC s pos=>L.off=0/\W.heap[L.wC]?=some (.stringIter ⟨s.toArray⟩ pos)
 | .PZ m since seen last=>L.off=0/\∃ mb,(match m with
  | none=>mb=none
  | some n=>∃ M,ι n=some M/\mb=some M.wC)/\W.heap[L.wC]?=some (.mapIter mb since seen.toArray last)
structure ye (P:Program) (B:wy) (ι:zw) (h:AH) (W:World):Prop where
 obj:∀ n o,h.m n=some o->∃ L,ι n=some L/\pG P ι W L o
 fresh:∀ n,h.next<=n->ι n=none
 apart:∀ n n' o o' L L',h.m n=some o->h.m n'=some o'->n≠n'->o.w8=true->ι n=some L->ι n'=some L'->L.wC≠L'.wC
 free:∀ n o L,h.m n=some o->o.w8=true->ι n=some L->¬ B.F L.wC
 frame:∀ b,B.F b->W.heap[b]?=B.W0.heap[b]?/\b<W.heap.size
 os:W.os=B.W0.os
 tape:W.tape=B.W0.tape
 output:W.output=B.W0.output
 size:B.W0.heap.size<=W.heap.size
variable {P:Program} {B:wy} {ι:zw} {h:AH} {W:World}
theorem vl {W:World} {b:Nat} {o:Obj} (h:W.heap[b]?=some o):b<W.heap.size:=by
 rcases Nat.lt_or_ge b W.heap.size with k | k
 ·exact k
 ·simp [Array.getElem?_eq_none k] at h
theorem uA {L:Loc} {o:AO} (h:pG P ι W L o):L.wC<W.heap.size:=by
 cases o with
 | cells own ty v=>obtain ⟨_,_,a,b,c,elem,fr,h1,_⟩:=h;exact vl h1
 | mp kt et es=>obtain ⟨xs,c,h1,_⟩:=h;exact vl h1
 | BB kt et es st c=>obtain ⟨xs,h1,_⟩:=h;exact vl h1
 | BC s p=>exact vl h.2
 | PZ m a b c=>obtain ⟨_,mb,_,h1⟩:=h;exact vl h1
theorem XP {ι':zw} {kt et:TypeId} (h:zw.le ι ι'):∀ {es:List (V × V)} {xs:List MapEntry},vD P ι kt et es xs->vD P ι' kt et es xs
 | [],xs,r=>by simpa only [vD] using r
 | (k,v) :: es,xs,r=>by
  simp only [vD] at r ⊢;obtain ⟨e,rest,h1,h2,h3,h4⟩:=r;exact ⟨e,rest,h1,⟨bG h h2.1,h2.2⟩,⟨bG h h3.1,h3.2⟩,XP h h4⟩
theorem vR {ι':zw} {W':World} {L:Loc} {o:AO} (hl:zw.le ι ι') (hb:W'.heap[L.wC]?=W.heap[L.wC]?) (r:pG P ι W L o):pG P ι' W' L o:=by
 cases o with
 | cells own ty v =>
  obtain ⟨h1,h2,a,b,c,elem,fr,h3,h4,h5,h6,h7⟩:=r;exact ⟨h1,h2,a,b,c,elem,fr,by rw [hb];exact h3,h4,h5,md hl _ _ h6,h7⟩
 | mp kt et es =>
  obtain ⟨xs,c,h1,h2,h3⟩:=r;exact ⟨xs,c,by rw [hb];exact h1,XP hl h2,h3⟩
 | BB kt et es st c =>
  obtain ⟨xs,h1,h2,h3⟩:=r;exact ⟨xs,by rw [hb];exact h1,XP hl h2,h3⟩
 | BC s p=>exact ⟨r.1,by rw [hb];exact r.2⟩
 | PZ m a b c =>
  obtain ⟨h0,mb,h1,h2⟩:=r;refine ⟨h0,mb,?_,by rw [hb];exact h2⟩;cases m with
  | none=>exact h1
  | some n=>obtain ⟨M,g1,g2⟩:=h1;exact ⟨M,hl _ _ g1,g2⟩
theorem ye.drew (F:ye P B ι h W) (n:Nat):ye P B ι h { W with drawn:=n } :=
 ⟨λk o hk=>let ⟨L,h1,h2⟩:=F.obj k o hk;⟨L,h1,vR (zw.le_refl _) rfl h2⟩,F.fresh,F.apart,F.free,F.frame,F.os,F.tape,F.output,F.size⟩
theorem sn (b o n:Nat):(⟨b,o,none⟩:Addr).add n=⟨b,o+n,none⟩:=by
 unfold Addr.add;split
 ·rename_i h;subst h;rfl
 ·rfl
theorem aD {v:V} {cs:List Value} (hv:∀ l,v≠.agg l) (hr:zL P ι v cs):∃ x,cs=[x]/\∀ ys,x≠.agg ys:=by
 cases v with
 | agg l=>exact absurd rfl (hv l)
 | ptr a =>
  cases a <;> simp only [zL] at hr
  ·subst hr;exact ⟨_,rfl,S_⟩
  ·obtain ⟨_,_,rfl⟩:=hr;exact ⟨_,rfl,S_⟩
 | y8 a n=>cases a with
  | none=>simp only [zL] at hr;obtain ⟨_,rfl⟩:=hr;exact ⟨_,rfl,S_⟩
  | some a=>obtain ⟨a,s⟩:=a;simp only [zL] at hr;obtain ⟨_,_,_,_,_,rfl⟩:=hr;exact ⟨_,rfl,S_⟩
 | map r =>
  cases r <;> simp only [zL] at hr
  ·subst hr;exact ⟨_,rfl,S_⟩
  ·obtain ⟨_,_,rfl⟩:=hr;exact ⟨_,rfl,S_⟩
 | fn f a b=>simp only [zL] at hr;obtain ⟨_,_,_,_,rfl⟩:=hr;exact ⟨_,rfl,S_⟩
 | mB t v=>simp only [zL] at hr;obtain ⟨_,_,_,rfl⟩:=hr;exact ⟨_,rfl,S_⟩
 | yX l=>simp only [zL] at hr;obtain ⟨_,_,rfl⟩:=hr;exact ⟨_,rfl,S_⟩
 | xF=>simp only [zL] at hr
 | _=>simp only [zL] at hr;subst hr;exact ⟨_,rfl,S_⟩
theorem UF {v:V} {x:Value} (hv:∀ l,v≠.agg l) (hr:zL P ι v [x]):rel P ι v x:=by
 obtain ⟨y,h1,h2⟩:=aD hv hr;obtain rfl:x=y:=by simpa using h1
 refine .inr ⟨?_,?_⟩
 ·cases v <;> cases x <;> first | rfl | exact absurd rfl (hv _) | exact absurd rfl (h2 _)
 ·cases x <;> first | exact hr | exact absurd rfl (h2 _)
theorem yU {v:V} {x:Value} (hv:∀ l,v≠.agg l) (hu:v≠.xF) (hr:rel P ι v x):zL P ι v [x]/\∀ ys,x≠.agg ys:=by
 rcases hr with h | ⟨h1,h2⟩
 ·exact absurd h hu
 ·cases x with
  | agg ys=>cases v <;> first | exact absurd rfl (hv _) | (simp [mj] at h1)
  | _=>exact ⟨h2,S_⟩
mutual
theorem ar:∀ (v:V) (t:TypeId) (cs:List Value),zf P v t=true->zL P ι v cs->∀ c∈cs,c.oneCell'=true
 | .agg l,t,cs,hs,r=>by
  simp only [zL] at r;simp only [zf] at hs;split at hs
  ·exact Yy l _ cs hs r
  ·simp only [Bool.and_eq_true] at hs;exact qp l _ cs hs.2 r
  ·simp at hs
 | .bool b,t,cs,hs,r=>by simp only [zL] at r;subst r;simp [Value.oneCell']
 | .int k n,t,cs,hs,r=>by simp only [zL] at r;subst r;simp [Value.oneCell']
 | .str s,t,cs,hs,r=>by simp only [zL] at r;subst r;simp [Value.oneCell']
 | .ptr none,t,cs,hs,r=>by simp only [zL] at r;subst r;simp [Value.oneCell']
 | .ptr (some a),t,cs,hs,r=>by simp only [zL] at r;obtain ⟨_,_,rfl⟩:=r;simp [Value.oneCell']
 | .y8 none n,t,cs,hs,r=>by simp only [zL] at r;obtain ⟨_,rfl⟩:=r;simp [Value.oneCell']
 | .y8 (some (a,s)) n,t,cs,hs,r=>by simp only [zL] at r;obtain ⟨_,_,_,_,_,rfl⟩:=r;simp [Value.oneCell']
 | .map none,t,cs,hs,r=>by simp only [zL] at r;subst r;simp [Value.oneCell']
 | .map (some n),t,cs,hs,r=>by simp only [zL] at r;obtain ⟨_,_,rfl⟩:=r;simp [Value.oneCell']
 | .fn f a b,t,cs,hs,r=>by simp only [zL] at r;obtain ⟨_,_,_,_,rfl⟩:=r;simp [Value.oneCell']
 | .uf,t,cs,hs,r=>by simp only [zL] at r;subst r;simp [Value.oneCell']
 | .mB u v,t,cs,hs,r=>by simp only [zL] at r;obtain ⟨_,_,_,rfl⟩:=r;simp [Value.oneCell']
 | .wb,t,cs,hs,r=>by simp only [zL] at r;subst r;simp [Value.oneCell']
 | .yX l,t,cs,hs,r=>by simp [zf] at hs
 | .xF,t,cs,hs,r=>by simp [zf] at hs
theorem Yy:∀ (l:List V) (ts:List TypeId) (cs:List Value),yQ P l ts=true->y5 P ι l cs->∀ c∈cs,c.oneCell'=true
 | [],ts,cs,_,r=>by simp only [y5] at r;subst r;simp
 | _ :: _,[],cs,h,_=>by simp [yQ] at h
 | v :: vs,t :: ts,cs,h,r=>by
  simp only [yQ,Bool.and_eq_true] at h;simp only [y5] at r;obtain ⟨a,b,h1,h2,rfl⟩:=r;intro c hc;rcases List.mem_append.1 hc with hc | hc
  ·exact ar v t a h.1 h1 c hc
  ·exact Yy vs ts b h.2 h2 c hc
theorem qp:∀ (l:List V) (e:TypeId) (cs:List Value),zF P l e=true->y5 P ι l cs->∀ c∈cs,c.oneCell'=true
 | [],e,cs,_,r=>by simp only [y5] at r;subst r;simp
 | v :: vs,e,cs,h,r=>by
  simp only [zF,Bool.and_eq_true] at h;simp only [y5] at r;obtain ⟨a,b,h1,h2,rfl⟩:=r;intro c hc;rcases List.mem_append.1 hc with hc | hc
  ·exact ar v e a h.1 h1 c hc
  ·exact qp vs e b h.2 h2 c hc
end
theorem Xj {W:World} {b:Nat} {a m c:List Value} {elem:TypeId} {fr:Nat × Nat} (hb:W.heap[b]?=some (.cells (a++m++c).toArray elem fr)) (i:Nat) (v:Value) (hi:m[i]?=some v) :
 W.cell? ⟨b,a.length+i,none⟩=some v:=by
 simp only [World.cell?,hb];have hlt:i<m.length:=by
  rcases Nat.lt_or_ge i m.length with h | h
  ·exact h
  ·simp [List.getElem?_eq_none h] at hi
 simp only [Option.isSome_none,Bool.false_eq_true,if_false];simp only [List.getElem?_toArray];rw [List.append_assoc,List.getElem?_append_right O_,List.getElem?_append_left O_];have:a.length+i-a.length=i:=O_;rw [this,hi]
theorem nf {W:World} {b:Nat} {a m c:List Value} {elem:TypeId} {fr:Nat × Nat} (hb:W.heap[b]?=some (.cells (a++m++c).toArray elem fr)) :
 (loadCells ⟨b,a.length,none⟩ m.length).run P W=.ok m.toArray W :=
 run_loadCells_list W _ m λj v hj=>by rw [sn];exact Xj hb j v hj
def World.wQ (W:World) (b:Nat) (cs:List Value) (elem:TypeId) (fr:Nat × Nat):World:={ W with heap:=W.heap.setIfInBounds b (.cells cs.toArray elem fr) }
theorem km {W:World} {b:Nat} {cs:List Value} {elem:TypeId} {fr:Nat × Nat} (hb:b<W.heap.size):(World.wQ W b cs elem fr).heap[b]?=some (.cells cs.toArray elem fr):=by
 simp [World.wQ,hb]
theorem ko {W:World} {b k:Nat} {cs:List Value} {elem:TypeId} {fr:Nat × Nat} (hb:k≠b):(World.wQ W b cs elem fr).heap[k]?=W.heap[k]?:=by
 simp only [World.wQ];rw [Array.getElem?_setIfInBounds_ne O_]
theorem ZU {W:World} {b:Nat} {cs dc:List Value} {elem KY:TypeId} {fr fr':Nat × Nat}:World.wQ (World.wQ W b cs elem fr) b dc KY fr'=World.wQ W b dc KY fr':=by
 simp [World.wQ]
theorem ls {W:World} {b:Nat} {cs:List Value} {elem:TypeId} {fr:Nat × Nat} (hb:W.heap[b]?=some (.cells cs.toArray elem fr)):World.wQ W b cs elem fr=W:=by
 have hlt:=vl hb;have:W.heap.setIfInBounds b (.cells cs.toArray elem fr)=W.heap:=by
  apply Array.ext_getElem?;intro i;by_cases hi:i=b
  ·subst hi;rw [hb];simp [hlt]
  ·rw [Array.getElem?_setIfInBounds_ne O_]
 simp [World.wQ,this]
theorem vS {b:Nat} {elem:TypeId} {fr:Nat × Nat}:∀ (m':List Value) (a m c:List Value) (W:World) (i:Nat),W.heap[b]?=some (.cells (a++m++c).toArray elem fr)->m'.length=m.length ->
 pq fr (a++m++c).length->(∀ v∈m',v.oneCell'=true)->∀ o,o+i=a.length ->
 (storeCells ⟨b,o,none⟩ m' i).run P W=.ok () (World.wQ W b (a++m'++c) elem fr)
 | [],a,m,c,W,i,hb,hl,hf,h1,o,ho=>by
  obtain rfl:m=[]:=List.length_eq_zero_iff.1 (by simpa using hl.symm);rw [ls hb];rfl
 | v :: rest,a,[],c,W,i,hb,hl,hf,h1,o,ho=>by simp at hl
 | v :: rest,a,x :: m,c,W,i,hb,hl,hf,h1,o,ho=>by
  have hv:=h1 v S_;have hc:W.cell? ((⟨b,o,none⟩:Addr).add i)=some x:=by
   rw [sn,ho];have:=Xj (m:=x :: m) hb 0 x S_;simpa using this
  have hfz:W.frozen? ((⟨b,o,none⟩:Addr).add i)=false:=by
   rw [sn,ho];have:=hf a.length S_;obtain ⟨lo,hi⟩:=fr;simp only [World.frozen?,hb,Bool.and_eq_false_iff,decide_eq_false_iff_not];simp only at this;omega
  have qz:W.setCell ((⟨b,o,none⟩:Addr).add i) v=World.wQ W b (a++[v]++(m++c)) elem fr:=by
   rw [sn,ho];simp only [World.setCell,World.wQ];congr 1;apply Array.ext_getElem?;intro k;by_cases hk:k=b
   ·subst hk;have hlt:=vl hb;rw [Array.getElem?_modify,if_pos rfl,hb,Array.getElem?_setIfInBounds_self_of_lt hlt];simp [List.set_append]
   ·rw [Array.getElem?_modify,if_neg O_,Array.getElem?_setIfInBounds_ne O_]
  simp only [storeCells,Sem.run_bind,run_store P _ _ _ _ hv,hc,hfz,Bool.false_eq_true,if_false,Result.andThen_ok,qz];have dN:(World.wQ W b (a++[v]++(m++c)) elem fr).heap[b]?=some (.cells ((a++[v])++m++c).toArray elem fr):=by
   rw [km (vl hb)];simp
  have:=vS rest (a++[v]) m c _ (i+1) dN (by simpa using hl) (by simpa using hf) (λw hw=>h1 w (by simp [hw])) o (by simp;omega);rw [this,ZU];simp
theorem zo {t:TypeId} {d:TypeDesc} (h:ul P t=some d) (W:World):(underlying t).run P W=.ok d W:=by
 have h:=sx h;simp [underlying,h]
theorem nT {t:TypeId} {d:TypeDesc} (h:ul P t=some d):∃ i,P.info? t=some i/\i.size=P.cellsOf t:=by
 have h:=sx h;cases hi:P.info? t with
 | none=>simp [Program.underlying,hi] at h
 | some i=>exact ⟨i,rfl,by simp [Program.cellsOf,hi]⟩
theorem xg {t:TypeId} {d:TypeDesc} (h:ul P t=some d) (W:World):(sizeOf t).run P W=.ok (P.cellsOf t) W:=by
 obtain ⟨i,hi,hs⟩:=nT h;simp [Go.sizeOf,typeInfo,hi,hs]
theorem uB {v:V} {t:TypeId} (h:zf P v t=true):∃ d,ul P t=some d:=by
 cases hu:ul P t with
 | some d=>exact ⟨d,rfl⟩
 | none=>cases v <;> simp [zf,si,hu] at h
def GB (P:Program) (t:TypeId):Bool :=
 match ul P t with
 | some (.struct _)=>true
 | some (.array _ _)=>true
 | _=>false
theorem Yo {v:V} {t:TypeId} (h:zf P v t=true):GB P t=(match v with | .agg _=>true | _=>false):=by
 unfold GB;cases v with
 | agg l=>simp only [zf] at h;split at h <;> simp_all
 | _ =>
  simp only [zf] at h
  first
   | (cases h;done)
   | (
    obtain ⟨d,hu,hd⟩:=wg h;cases d <;> simp_all)
theorem nW {t:TypeId} {d:TypeDesc} (h:ul P t=some d) (W:World):(isAgg t).run P W=.ok (GB P t) W:=by
 simp only [isAgg,Sem.run_bind,zo h,Result.andThen_ok,GB,h];cases d <;> rfl
theorem qQ (H:uF P) {v:V} {t:TypeId} {W:World} {b:Nat} {a m c:List Value} {elem:TypeId} {fr:Nat × Nat} (hb:W.heap[b]?=some (.cells (a++m++c).toArray elem fr))
 (hs:zf P v t=true) (hr:zL P ι v m):∃ x,(loadVar t ⟨b,a.length,none⟩).run P W=.ok x W/\rel P ι v x/\v≠.xF:=by
 obtain ⟨d,hu⟩:=uB hs;have hlen:=wB H v t m hs hr;have wO:v≠.xF:=by rintro rfl;simp [zf] at hs
 have hag:=Yo hs;cases v with
 | agg l =>
  simp only at hag;refine ⟨.agg m.toArray,?_,.inr ⟨rfl,by simpa [Value.cells] using hr⟩,wO⟩;simp only [loadVar,Sem.run_bind,nW hu,Result.andThen_ok,hag,if_true,xg hu,<- hlen,nf hb,Sem.run_pure]
 | xF=>exact absurd rfl wO
 | _ =>
  obtain ⟨x,rfl,hx⟩:=aD S_ hr;refine ⟨x,?_,UF S_ hr,wO⟩;have hc:=Xj hb 0 x rfl;simp only [Nat.add_zero] at hc;simp only [loadVar,Sem.run_bind,nW hu,Result.andThen_ok,hag,Bool.false_eq_true,if_false,run_load,hc]
theorem td {v:V} {x:Value} (wO:v≠.xF) (hr:rel P ι v x):zL P ι v x.cells.toList:=by
 rcases hr with h | ⟨_,h⟩
 ·exact absurd h wO
 ·exact h
theorem jb (H:uF P) {v w:V} {t:TypeId} {W:World} {b:Nat} {a m c:List Value} {elem:TypeId} {fr:Nat × Nat} (hb:W.heap[b]?=some (.cells (a++m++c).toArray elem fr))
 (hf:pq fr (a++m++c).length) (hs:zf P v t=true) (hr:zL P ι v m) (dO:zf P w t=true) {x:Value} (hx:rel P ι w x) :
 (storeVar t ⟨b,a.length,none⟩ x).run P W=.ok () (World.wQ W b (a++x.cells.toList++c) elem fr):=by
 obtain ⟨d,hu⟩:=uB hs;have wO:w≠.xF:=by rintro rfl;simp [zf] at dO
 have hxc:=td wO hx;have h1:=wB H v t m hs hr;have h2:=wB H w t _ dO hxc;have h3:x.cells.size=P.cellsOf t:=by rw [<- h2];simp
 simp only [storeVar,Sem.run_bind,xg hu,Result.andThen_ok,h3,ne_eq,not_true_eq_false,if_false,Sem.run_pure];exact vS _ a m c W 0 hb (by rw [h1,h2]) hf (ar w t _ dO hxc) _ rfl
theorem ye.store (F:ye P B ι h W) {n:Nat} {ty:nC} {v v':V} {L:Loc} (hm:h.m n=some (.cells true ty v)) (hL:ι n=some L)
 {cs:List Value} {elem:TypeId} {fr:Nat × Nat} (ho:pG P ι (World.wQ W L.wC cs elem fr) L (.cells true ty v')) :
 ye P B ι (h.put n (.cells true ty v')) (World.wQ W L.wC cs elem fr):=by
 obtain ⟨L',X6,sS⟩:=F.obj n _ hm;rw [hL] at X6;cases X6;have hlt:=uA sS;refine ⟨?_,F.fresh,?_,?_,?_,F.os,F.tape,F.output,by simpa [World.wQ] using F.size⟩
 ·intro k o hk;by_cases e:k=n
  ·subst e;simp only [AH.put,if_true,Option.some.injEq] at hk;subst hk;exact ⟨L,hL,ho⟩
  ·simp only [AH.put,if_neg e] at hk;obtain ⟨Lk,h1,h2⟩:=F.obj k o hk;refine ⟨Lk,h1,vR (zw.le_refl _) ?_ h2⟩;exact ko (λe'=>F.apart n k _ _ L Lk hm hk (λBD=>e BD.symm) rfl hL h1 e'.symm)
 ·intro i j o o' Li Lj hi hj wO ux h1 h2;simp only [AH.put] at hi hj;split at hi <;> split at hj
  ·omega
  ·rename_i e1 _;subst e1;cases hi;exact F.apart i j _ _ Li Lj hm hj wO rfl h1 h2
  ·rename_i _ e2;subst e2;cases hj;exact F.apart i j _ _ Li Lj hi hm wO ux h1 h2
  ·exact F.apart i j _ _ Li Lj hi hj wO ux h1 h2
 ·intro i o Li hi ux h1;simp only [AH.put] at hi;split at hi
  ·rename_i e;subst e;cases hi;exact F.free i _ Li hm rfl h1
  ·exact F.free i o Li hi ux h1
 ·intro b hb;obtain ⟨h1,h2⟩:=F.frame b hb;have:b≠L.wC:=λe=>F.free n _ L hm rfl hL (e▸hb);exact ⟨by rw [ko this,h1],by simpa [World.wQ] using h2⟩
def zw.add (ι:zw) (n:Nat) (L:Loc):zw:=λi=>if i=n then some L else ι i
theorem zw.Zl {n:Nat} {L:Loc} (hn:ι n=none):zw.le ι (zw.add ι n L):=by
 intro i M hi;unfold zw.add;split
 ·rename_i e;subst e;rw [hn] at hi;cases hi
 ·exact hi
theorem ye.make (F:ye P B ι h W) (o:AO) (x:Obj) (L:Loc) (hL:L.wC=W.heap.size)
 (ho:pG P (zw.add ι h.next L) { W with heap:=W.heap.push x } L o) :
 zw.le ι (zw.add ι h.next L)/\ye P B (zw.add ι h.next L) (h.make o) { W with heap:=W.heap.push x }:=by
 have hle:zw.le ι (zw.add ι h.next L):=zw.Zl (F.fresh _ (Nat.le_refl _));have hold:∀ k o',h.m k=some o'->k≠h.next:=by
  intro k o' hk e;obtain ⟨L',h1,_⟩:=F.obj k o' hk;rw [F.fresh k O_] at h1;cases h1
 have z0n:∀ b,b<W.heap.size->(W.heap.push x)[b]?=W.heap[b]?:=by
  intro b hb;rw [Array.getElem?_push,if_neg O_]
 refine ⟨hle,?_,?_,?_,?_,?_,F.os,F.tape,F.output,?_⟩
 ·intro k o' hk;simp only [AH.make] at hk;split at hk
  ·rename_i e;subst e;cases hk;exact ⟨L,by simp [zw.add],ho⟩
  ·obtain ⟨L',h1,h2⟩:=F.obj k o' hk;exact ⟨L',hle _ _ h1,vR hle (z0n _ (uA h2)) h2⟩
 ·intro k hk;simp only [AH.make] at hk;simp only [zw.add];rw [if_neg O_];exact F.fresh k O_
 ·intro i j o1 o2 Li Lj hi hj wO ux h1 h2;have get:∀ k o' Lk,(AH.make h o).m k=some o'->zw.add ι h.next L k=some Lk->(k=h.next/\Lk=L)\/(k≠h.next/\h.m k=some o'/\ι k=some Lk/\Lk.wC<W.heap.size):=by
   intro k o' Lk a1 a2;by_cases e:k=h.next
   ·left;subst e;simp [zw.add] at a2;exact ⟨rfl,a2.symm⟩
   ·right
    simp only [AH.make,if_neg e] at a1;simp only [zw.add,if_neg e] at a2;obtain ⟨L',b1,b2⟩:=F.obj k o' a1;rw [a2] at b1;cases b1;exact ⟨e,a1,a2,uA b2⟩
  rcases get i o1 Li hi h1 with ⟨e1,e2⟩ | ⟨e1,e2,e3,e4⟩ <;> rcases get j o2 Lj hj h2 with ⟨f1,f2⟩ | ⟨f1,f2,f3,f4⟩
  ·omega
  ·subst e2;omega
  ·subst f2;omega
  ·exact F.apart i j o1 o2 Li Lj e2 f2 wO ux e3 f3
 ·intro i o' Li hi ux h1;simp only [AH.make] at hi;simp only [zw.add] at h1;split at hi
  ·rename_i e;subst e;simp only [if_true,Option.some.injEq] at h1;subst h1;intro hb;have:=(F.frame _ hb).2;omega
  ·rename_i e;rw [if_neg e] at h1;exact F.free i o' Li hi ux h1
 ·intro b hb;obtain ⟨h1,h2⟩:=F.frame b hb;exact ⟨by show (W.heap.push x)[b]?=_;rw [z0n b h2,h1],by show b<(W.heap.push x).size;simp;omega⟩
 ·show _<=(W.heap.push x).size;have:=F.size;simp;omega
theorem ye.sub (F:ye P B ι h W) {h':AH} (hn:h'.next=h.next) (hs:∀ n o,h'.m n=some o->h.m n=some o):ye P B ι h' W :=
 ⟨λn o k=>F.obj n o (hs n o k),λn k=>F.fresh n O_,λn n' o o' L L' a b=>F.apart n n' o o' L L' (hs n o a) (hs n' o' b),λn o L a=>F.free n o L (hs n o a),F.frame,F.os,F.tape,F.output,F.size⟩
theorem ye.kill (F:ye P B ι h W) (n:Nat):ye P B ι (h.kill n) W :=
 F.sub rfl λk o hk=> by
  simp only [AH.kill] at hk;split at hk;·cases hk
  ·exact hk
end
section
open Go Go.RowKit
variable {P:Program} {ι:zw} {W:World}
mutual
def wW:V->V->Option Bool
 | .bool a,.bool b=>some (a == b)
 | .int k a,.int k' b=>if k=k' then some (a == b) else none
 | .str a,.str b=>some (a == b)
 | .agg a,.agg b=>v9 a b
 | .ptr none,.ptr b=>some b.isNone
 | .ptr (some _),.ptr none=>some false
 | .y8 none _,.y8 b _=>some b.isNone
 | .y8 (some _) _,.y8 none _=>some false
 | .map none,.map b=>some b.isNone
 | .map (some _),.map none=>some false
 | .uf,.uf=>some true
 | .uf,.fn _ _ _=>some false
 | .fn _ _ _,.uf=>some false
 | .wb,.wb=>some true
 | .wb,.mB _ _=>some false
 | .mB _ _,.wb=>some false
 | _,_=>none
def v9:List V->List V->Option Bool
 | [],[]=>some true
 | v :: vs,w :: ws=>match wW v w with
  | some true=>v9 vs ws
  | some false=>some false
  | none=>none
 | _,_=>none
end
def yz (P:Program):Nat->TypeId->Bool
 | 0,_=>false
 | d+1,t=>match ul P t with
  | some .bool=>true
  | some (.int _)=>true
  | some .string=>true
  | some (.struct fs)=>!P.stoodInHeld t&&fs.toList.all λf=>f.name != "_"&&yz P d f.type
  | some (.array _ e)=>yz P d e
  | _=>false
theorem sL (H:uF P) {v:V} {t:TypeId} {a m c:List Value} (hs:zf P v t=true) (hr:zL P ι v m) (W:World) :
 ∃ x,(part t (a++m++c).toArray a.length).run P W=.ok x W/\rel P ι v x/\v≠.xF:=by
 obtain ⟨d,hu⟩:=uB hs;have hlen:=wB H v t m hs hr;have wO:v≠.xF:=by rintro rfl;simp [zf] at hs
 have hag:=Yo hs;cases v with
 | agg l =>
  simp only at hag;refine ⟨.agg m.toArray,?_,.inr ⟨rfl,by simpa [Value.cells] using hr⟩,wO⟩;simp only [part,Sem.run_bind,nW hu,Result.andThen_ok,hag,if_true,xg hu,<- hlen,Sem.run_pure,List.extract_toArray];congr 3;simp [List.extract,List.drop_append,List.take_append]
 | xF=>exact absurd rfl wO
 | _ =>
  obtain ⟨x,rfl,hx⟩:=aD S_ hr;refine ⟨x,?_,UF S_ hr,wO⟩;simp only [part,Sem.run_bind,nW hu,Result.andThen_ok,hag,Bool.false_eq_true,if_false];have:(a++[x]++c).toArray[a.length]?=some x:=S_;rw [this];rfl
theorem Vx {t:TypeId} {fs:Array Field} (h:P.underlying t=some (.struct fs)):P.fieldsOf t=fs:=by
 simp [Program.fieldsOf,h]
mutual
theorem qP (H:uF P):∀ (x y:V) (t:TypeId) (d D:Nat) (a b:Value) (r:Bool) (W:World),yz P d t=true->d<=D->zf P x t=true->zf P y t=true ->
 rel P ι x a->rel P ι y b->wW x y=some r->(Op.equalIn D t a b).run P W=.ok r W
 | .agg l,y,t,0,D,a,b,r,W,hp,_,_,_,_,_,_=>by simp [yz] at hp
 | .agg l,y,t,d+1,D,a,b,r,W,hp,hD,hx,hy,ha,hb,he=>by
  obtain ⟨D,rfl⟩:∃ k,D=k+1:=⟨D-1,O_⟩
  have hax:=td S_ ha;cases y with
  | agg m =>
   have hbx:=td S_ hb;simp only [wW] at he;rcases ha with ha | ⟨ha,_⟩
   ·cases ha
   rcases hb with hb | ⟨hb,_⟩
   ·cases hb
   cases a with
   | agg xs =>
    cases b with
    | agg ys =>
     simp only [Value.cells,zL] at hax hbx;simp only [zf] at hx hy;simp only [yz] at hp;cases hu:ul P t with
     | none=>rw [hu] at hp;simp at hp
     | some dd =>
      rw [hu] at hp hx hy;cases dd with
      | struct fs =>
       simp only [Bool.and_eq_true,Bool.not_eq_true'] at hp hx hy;have UN:=sx hu;have Ra:=Vx UN;rw [run_equalIn_struct (P:=P) W D t xs ys (by rw [Ra];exact UN) hp.1,Ra];have UO:=H.z4l t fs hu;have key:=ja H l m fs.toList d D [] xs.toList [] ys.toList xs ys r W hp.2 O_ (by simpa using hx) (by simpa using hy) hax hbx (by simpa using UO) rfl S_ S_ he;exact key
      | array n e =>
       simp only [Bool.and_eq_true,beq_iff_eq] at hx hy;have UN:=sx hu;obtain ⟨i,hi⟩:∃ i,P.info? e=some i:=by
        cases l with
        | cons v vs =>
         simp only [zF,Bool.and_eq_true] at hx;obtain ⟨q,hq⟩:=uB hx.2.1;obtain ⟨i,hi,_⟩:=nT hq;exact ⟨i,hi⟩
        | nil =>
         cases d with
         | zero=>simp [yz] at hp
         | succ d =>
          simp only [yz] at hp;cases hq:ul P e with
          | none=>rw [hq] at hp;simp at hp
          | some q=>obtain ⟨i,hi,_⟩:=nT hq;exact ⟨i,hi⟩
       rw [run_equalIn_array (P:=P) W D xs ys UN hi];have key:=iR H l m e d D 0 [] xs.toList [] ys.toList xs ys r W hp O_ hx.2 hy.2 hax hbx S_ S_ S_ S_ he;rw [<- hx.1];simpa [List.range_eq_range'] using key
      | _=>simp at hx
    | _=>simp [mj] at hb
   | _=>simp [mj] at ha
  | _=>simp [wW] at he
 | .bool p,y,t,d,D,a,b,r,W,hp,hD,hx,hy,ha,hb,he=>by
  obtain ⟨D,rfl⟩:∃ k,D=k+1:=⟨D-1,by cases d with | zero=>simp [yz] at hp | succ d=>omega⟩
  simp only [zf] at hx;obtain ⟨dd,hu,hd⟩:=wg hx;cases y with
  | bool q =>
   have ha':=(yU S_ S_ ha).1;have dN:=(yU S_ S_ hb).1;simp only [zL,List.cons.injEq,and_true] at ha' dN;subst ha';subst dN;simp only [wW,Option.some.injEq] at he;subst he;cases dd <;> simp at hd
   simp only [Op.equalIn,Sem.run_bind,zo hu,Result.andThen_ok,Sem.run_pure]
  | _=>simp [wW] at he
 | .int k p,y,t,d,D,a,b,r,W,hp,hD,hx,hy,ha,hb,he=>by
  obtain ⟨D,rfl⟩:∃ k,D=k+1:=⟨D-1,by cases d with | zero=>simp [yz] at hp | succ d=>omega⟩
  simp only [zf] at hx;obtain ⟨dd,hu,hd⟩:=wg hx;cases y with
  | int k' q =>
   have ha':=(yU S_ S_ ha).1;have dN:=(yU S_ S_ hb).1;simp only [zL,List.cons.injEq,and_true] at ha' dN;subst ha';subst dN;simp only [wW] at he;split at he
   ·rename_i hk;subst hk;simp only [Option.some.injEq] at he;subst he;cases dd <;> simp at hd
    simp only [Op.equalIn,Sem.run_bind,zo hu,Result.andThen_ok,Sem.run_pure,if_true]
   ·cases he
  | _=>simp [wW] at he
 | .str p,y,t,d,D,a,b,r,W,hp,hD,hx,hy,ha,hb,he=>by
  obtain ⟨D,rfl⟩:∃ k,D=k+1:=⟨D-1,by cases d with | zero=>simp [yz] at hp | succ d=>omega⟩
  simp only [zf] at hx;obtain ⟨dd,hu,hd⟩:=wg hx;cases y with
  | str q =>
   have ha':=(yU S_ S_ ha).1;have dN:=(yU S_ S_ hb).1;simp only [zL,List.cons.injEq,and_true] at ha' dN;subst ha';subst dN;simp only [wW,Option.some.injEq] at he;subst he;cases dd <;> simp at hd
   simp only [Op.equalIn,Sem.run_bind,zo hu,Result.andThen_ok,Sem.run_pure];have hq:((⟨p.toArray⟩:ByteArray) == ⟨q.toArray⟩)=(p.toArray == q.toArray):=rfl;rw [hq];simp
  | _=>simp [wW] at he
 | .ptr p,y,t,d,D,a,b,r,W,hp,hD,hx,hy,ha,hb,he=>by
  simp only [zf] at hx;obtain ⟨dd,hu,hd⟩:=wg hx;cases d with
  | zero=>simp [yz] at hp
  | succ d=>simp only [yz,hu] at hp;cases dd <;> simp_all
 | .y8 p n,y,t,d,D,a,b,r,W,hp,hD,hx,hy,ha,hb,he=>by
  simp only [zf] at hx;obtain ⟨dd,hu,hd⟩:=wg hx;cases d with
  | zero=>simp [yz] at hp
  | succ d=>simp only [yz,hu] at hp;cases dd <;> simp_all
 | .map p,y,t,d,D,a,b,r,W,hp,hD,hx,hy,ha,hb,he=>by
  simp only [zf] at hx;obtain ⟨dd,hu,hd⟩:=wg hx;cases d with
  | zero=>simp [yz] at hp
  | succ d=>simp only [yz,hu] at hp;cases dd <;> simp_all
 | .fn f p q,y,t,d,D,a,b,r,W,hp,hD,hx,hy,ha,hb,he=>by
  simp only [zf] at hx;obtain ⟨dd,hu,hd⟩:=wg hx;cases d with
  | zero=>simp [yz] at hp
  | succ d=>simp only [yz,hu] at hp;cases dd <;> simp_all
 | .uf,y,t,d,D,a,b,r,W,hp,hD,hx,hy,ha,hb,he=>by
  simp only [zf] at hx;obtain ⟨dd,hu,hd⟩:=wg hx;cases d with
  | zero=>simp [yz] at hp
  | succ d=>simp only [yz,hu] at hp;cases dd <;> simp_all
 | .mB u v,y,t,d,D,a,b,r,W,hp,hD,hx,hy,ha,hb,he=>by
  simp only [zf] at hx;obtain ⟨dd,hu,hd⟩:=wg hx;cases d with
  | zero=>simp [yz] at hp
  | succ d=>simp only [yz,hu] at hp;cases dd <;> simp_all
 | .wb,y,t,d,D,a,b,r,W,hp,hD,hx,hy,ha,hb,he=>by
  simp only [zf] at hx;obtain ⟨dd,hu,hd⟩:=wg hx;cases d with
  | zero=>simp [yz] at hp
  | succ d=>simp only [yz,hu] at hp;cases dd <;> simp_all
 | .yX l,y,t,d,D,a,b,r,W,hp,hD,hx,hy,ha,hb,he=>by simp [zf] at hx
 | .xF,y,t,d,D,a,b,r,W,hp,hD,hx,hy,ha,hb,he=>by simp [zf] at hx
theorem ja (H:uF P):∀ (l m:List V) (fs:List Field) (d D:Nat) (pa ra pb rb:List Value) (xs ys:Array Value) (r:Bool) (W:World),(fs.all λf=>f.name != "_"&&yz P d f.type)=true->d<=D ->
 yQ P l (fs.map (·.type))=true->yQ P m (fs.map (·.type))=true->y5 P ι l ra->y5 P ι m rb->pB P fs pa.length=true->pa.length=pb.length->xs.toList=pa++ra->ys.toList=pb++rb ->
 v9 l m=some r->(Op.eqFields D xs ys fs).run P W=.ok r W
 | [],m,[],d,D,pa,ra,pb,rb,xs,ys,r,W,_,_,_,h2,_,_,_,_,_,_,he=>by
  cases m with
  | nil=>simp only [v9,Option.some.injEq] at he;subst he;rfl
  | cons _ _=>simp [yQ] at h2
 | [],m,_ :: _,d,D,pa,ra,pb,rb,xs,ys,r,W,_,_,h1,_,_,_,_,_,_,_,he=>by simp [yQ] at h1
 | _ :: _,m,[],d,D,pa,ra,pb,rb,xs,ys,r,W,_,_,h1,_,_,_,_,_,_,_,he=>by simp [yQ] at h1
 | v :: vs,[],f :: fs,d,D,pa,ra,pb,rb,xs,ys,r,W,_,_,_,h2,_,_,_,_,_,_,he=>by simp [yQ] at h2
 | v :: vs,w :: ws,f :: fs,d,D,pa,ra,pb,rb,xs,ys,r,W,o8,hD,h1,h2,KZ,rb',ho,X7,hx,hy,he=>by
  simp only [List.all_cons,Bool.and_eq_true,bne_iff_ne,ne_eq] at o8;simp only [List.map_cons,yQ,Bool.and_eq_true] at h1 h2;simp only [y5] at KZ rb';obtain ⟨a1,a2,k1,k2,rfl⟩:=KZ;obtain ⟨b1,b2,k3,k4,rfl⟩:=rb';simp only [pB,Bool.and_eq_true,beq_iff_eq] at ho;have l1:=wB H v f.type a1 h1.1 k1;have l2:=wB H w f.type b1 h2.1 k3;obtain ⟨x,p1,p2,_⟩:=sL (a:=pa) (c:=a2) H h1.1 k1 W;obtain ⟨y,p3,p4,_⟩:=sL (a:=pb) (c:=b2) H h2.1 k3 W;have ex:(pa++a1++a2).toArray=xs:=by rw [List.append_assoc,<- hx]
  have ey:(pb++b1++b2).toArray=ys:=by rw [List.append_assoc,<- hy]
  rw [ex,<- ho.1] at p1;rw [ey,<- X7,<- ho.1] at p3;simp only [v9] at he;cases hq:wW v w with
  | none=>rw [hq] at he;cases he
  | some q =>
   rw [hq] at he;have e1:=qP H v w f.type d D x y q W o8.1.2 hD h1.1 h2.1 p2 p4 hq;have hnm:(f.name≠"_"):=o8.1.1;simp only [Op.eqFields,hnm,ne_eq,not_false_eq_true,if_true,Sem.run_bind,p1,p3,e1,Result.andThen_ok];cases q with
   | false=>simp only [Option.some.injEq] at he;subst he;rfl
   | true =>
    simp only at he;have:=ja H vs ws fs d D (pa++a1) a2 (pb++b1) b2 xs ys r W o8.2 hD h1.2 h2.2 k2 k4 (by rw [List.length_append,l1];exact ho.2) (by simp [X7,l1,l2]) (by rw [hx];simp) (by rw [hy];simp) he;simpa using this
theorem iR (H:uF P):∀ (l m:List V) (e:TypeId) (d D k:Nat) (pa ra pb rb:List Value) (xs ys:Array Value) (r:Bool) (W:World),yz P d e=true->d<=D ->
 zF P l e=true->zF P m e=true->y5 P ι l ra->y5 P ι m rb->pa.length=k*P.cellsOf e->pb.length=k*P.cellsOf e->xs.toList=pa++ra->ys.toList=pb++rb ->
 v9 l m=some r->(Op.eqItems D e (P.cellsOf e) xs ys (List.range' k l.length)).run P W=.ok r W
 | [],[],e,d,D,k,pa,ra,pb,rb,xs,ys,r,W,_,_,_,_,_,_,_,_,_,_,he=>by simp only [v9,Option.some.injEq] at he;subst he;rfl
 | [],_ :: _,e,d,D,k,pa,ra,pb,rb,xs,ys,r,W,_,_,_,_,_,_,_,_,_,_,he=>by simp [v9] at he
 | _ :: _,[],e,d,D,k,pa,ra,pb,rb,xs,ys,r,W,_,_,_,_,_,_,_,_,_,_,he=>by simp [v9] at he
 | v :: vs,w :: ws,e,d,D,k,pa,ra,pb,rb,xs,ys,r,W,hp,hD,h1,h2,KZ,rb',Nz,hlb,hx,hy,he=>by
  simp only [zF,Bool.and_eq_true] at h1 h2;simp only [y5] at KZ rb';obtain ⟨a1,a2,k1,k2,rfl⟩:=KZ;obtain ⟨b1,b2,k3,k4,rfl⟩:=rb';have l1:=wB H v e a1 h1.1 k1;have l2:=wB H w e b1 h2.1 k3;obtain ⟨x,p1,p2,_⟩:=sL (a:=pa) (c:=a2) H h1.1 k1 W;obtain ⟨y,p3,p4,_⟩:=sL (a:=pb) (c:=b2) H h2.1 k3 W;have ex:(pa++a1++a2).toArray=xs:=by rw [List.append_assoc,<- hx]
  have ey:(pb++b1++b2).toArray=ys:=by rw [List.append_assoc,<- hy]
  rw [ex,Nz] at p1;rw [ey,hlb] at p3;simp only [v9] at he;cases hq:wW v w with
  | none=>rw [hq] at he;cases he
  | some q =>
   rw [hq] at he;have e1:=qP H v w e d D x y q W hp hD h1.1 h2.1 p2 p4 hq;simp only [List.length_cons,List.range'_succ,Op.eqItems,Sem.run_bind,p1,p3,e1,Result.andThen_ok];cases q with
   | false=>simp only [Option.some.injEq] at he;subst he;rfl
   | true =>
    simp only at he;have:=iR H vs ws e d D (k+1) (pa++a1) a2 (pb++b1) b2 xs ys r W hp hD h1.2 h2.2 k2 k4 (by rw [List.length_append,l1,Nz,Nat.add_mul,Nat.one_mul]) (by rw [List.length_append,l2,hlb,Nat.add_mul,Nat.one_mul]) (by rw [hx];simp) (by rw [hy];simp) he;simpa using this
end
end
section
open Go Go.RowKit
variable {P:Program} {ι:zw} {W:World}
abbrev zJ:=List (Nat × V)
def zJ.get:zJ->Nat->V
 | [],_=>.xF
 | (i,v) :: e,t=>if t=i then v else zJ.get e t
def cst:Value->V
 | .bool b=>.bool b
 | .int k n=>.int k n
 | .string s=>.str s.data.toList
 | .pointer none=>.ptr none
 | .slice none 0 0=>.y8 none 0
 | .map none=>.map none
 | .nilFunc=>.uf
 | .nilIface=>.wb
 | _=>.xF
theorem Ip (x:Value):rel P ι (cst x) x:=by
 unfold cst;split <;> first | exact .inl rfl | (refine .inr ⟨rfl,?_⟩;simp [zL,Value.cells])
def M6:V->Bool
 | .xF=>true
 | _=>false
theorem Km {v:V} (h:M6 v=false):v≠.xF:=by rintro rfl;simp [M6] at h
def j5 (P:Program):Nat->TypeId->Option V
 | 0,_=>none
 | d+1,t=>match ul P t with
  | some .bool=>some (.bool false)
  | some (.int k)=>some (.int k 0)
  | some .string=>some (.str [])
  | some (.pointer _)=>some (.ptr none)
  | some (.slice _)=>some (.y8 none 0)
  | some (.map _ _)=>some (.map none)
  | some (.func _ _ _)=>some .uf
  | some (.interface _)=>some .wb
  | some (.struct fs)=>match fs.toList.mapM (λf=>j5 P d f.type) with
   | some l=>some (.agg l)
   | none=>none
  | some (.array n e)=>match j5 P d e with
   | some v=>some (.agg (List.replicate n v))
   | none=>none
  | _=>none
mutual
def mq:V->List Value
 | .agg l=>aY l
 | .bool b=>[.bool b]
 | .int k n=>[.int k n]
 | .str s=>[.string ⟨s.toArray⟩]
 | .ptr none=>[.pointer none]
 | .y8 none 0=>[.slice none 0 0]
 | .map none=>[.map none]
 | .uf=>[.nilFunc]
 | .wb=>[.nilIface]
 | _=>[]
def aY:List V->List Value
 | []=>[]
 | v :: vs=>mq v++aY vs
end
mutual
def NS:V->Bool
 | .agg l=>EA l
 | .bool _=>true
 | .int _ _=>true
 | .str _=>true
 | .ptr none=>true
 | .y8 none 0=>true
 | .map none=>true
 | .uf=>true
 | .wb=>true
 | _=>false
def EA:List V->Bool
 | []=>true
 | v :: vs=>NS v&&EA vs
end
mutual
theorem Z1:∀ (v:V),NS v=true->zL P ι v (mq v)
 | .agg l,h=>by simp only [zL,mq];exact eD l (by simpa [NS] using h)
 | .bool b,_=>by simp [zL,mq]
 | .int k n,_=>by simp [zL,mq]
 | .str s,_=>by simp [zL,mq]
 | .ptr none,_=>by simp [zL,mq]
 | .ptr (some _),h=>by simp [NS] at h
 | .y8 none 0,_=>by simp [zL,mq]
 | .y8 none (_+1),h=>by simp [NS] at h
 | .y8 (some _) _,h=>by simp [NS] at h
 | .map none,_=>by simp [zL,mq]
 | .map (some _),h=>by simp [NS] at h
 | .fn _ _ _,h=>by simp [NS] at h
 | .uf,_=>by simp [zL,mq]
 | .mB _ _,h=>by simp [NS] at h
 | .wb,_=>by simp [zL,mq]
 | .yX _,h=>by simp [NS] at h
 | .xF,h=>by simp [NS] at h
theorem eD:∀ (l:List V),EA l=true->y5 P ι l (aY l)
 | [],_=>by simp [y5,aY]
 | v :: vs,h=>by
  simp only [EA,Bool.and_eq_true] at h;simp only [aY];exact rO (Z1 v h.1) (eD vs h.2)
end
def Kk:Value->Value->Bool
 | .bool a,.bool b=>a == b
 | .int k a,.int k' b=>decide (k=k')&&a == b
 | .string a,.string b=>a.data.toList == b.data.toList
 | .pointer none,.pointer none=>true
 | .slice none 0 0,.slice none 0 0=>true
 | .map none,.map none=>true
 | .nilFunc,.nilFunc=>true
 | .nilIface,.nilIface=>true
 | _,_=>false
theorem KC {a b:Value} (h:Kk a b=true):a=b:=by
 unfold Kk at h;split at h <;> first | (cases h;done) | rfl | skip
 ·simp at h;subst h;rfl
 ·simp at h;obtain ⟨rfl,rfl⟩:=h;rfl
 ·rename_i a b;simp only [beq_iff_eq,Array.toList_inj] at h;cases a;cases b;simp_all
def gO:List Value->List Value->Bool
 | [],[]=>true
 | a :: as,b :: bs=>Kk a b&&gO as bs
 | _,_=>false
theorem YZ:∀ {a b:List Value},gO a b=true->a=b
 | [],[],_=>rfl
 | [],_ :: _,h=>by simp [gO] at h
 | _ :: _,[],h=>by simp [gO] at h
 | a :: as,b :: bs,h=>by
  simp only [gO,Bool.and_eq_true] at h;rw [KC h.1,YZ h.2]
def xk (P:Program) (t:TypeId):Option V:=j5 P 30 t
def Tx (P:Program) (t:TypeId):Bool :=
 match xk P t with
 | none=>true
 | some v=>zf P v t&&NS v&&match (P.info? t).bind (·.zero) with
  | some z=>mj v z&&gO (mq v) z.cells.toList
  | none=>false
structure Ok (P:Program):Prop where
 lay:uF P
 zero:∀ t v,xk P t=some v->zf P v t=true/\∃ z,(P.info? t).bind (·.zero)=some z/\mj v z=true/\∀ ι,zL P ι v z.cells.toList
theorem zcr (P:Program) (h:∀ t,t<P.types.size->(ir P t&&Tx P t)=true):Ok P:=by
 refine ⟨Kp P λt ht=>?_,λt v hv=>?_⟩
 ·have:=h t ht;simp only [Bool.and_eq_true] at this;exact this.1
 ·by_cases ht:t<P.types.size
  ·have:=h t ht;simp only [Bool.and_eq_true,Tx,hv] at this;obtain ⟨_,⟨h1,h2⟩,h3⟩:=this;refine ⟨h1,?_⟩;cases hz:(P.info? t).bind (·.zero) with
   | none=>rw [hz] at h3;cases h3
   | some z =>
    rw [hz] at h3;simp only [Bool.and_eq_true] at h3;refine ⟨z,rfl,h3.1,λι=>?_⟩;rw [<- YZ h3.2];exact Z1 v h2
  ·exfalso;have:ul P t=none:=by simp [ul,ht]
   simp [xk,j5,this] at hv
theorem v8 (K:Ok P) {t:TypeId} {v:V} (hv:xk P t=some v) (W:World):∃ z,(zeroValue t).run P W=.ok z W/\mj v z=true/\(∀ ι,zL P ι v z.cells.toList)/\zf P v t=true:=by
 obtain ⟨h1,z,h2,h3,h4⟩:=K.zero t v hv;cases hi:P.info? t with
 | none=>rw [hi] at h2;cases h2
 | some i =>
  rw [hi] at h2;simp only [Option.bind_some] at h2;exact ⟨z,by simp [zeroValue,typeInfo,hi,h2],h3,h4,h1⟩
def xK (P:Program) (child:Nat->Option TypeId):List V->List (Nat × V)->Option (List V)
 | l,[]=>some l
 | l,(i,v) :: rest=>match child i with
  | some u=>if decide (i<l.length)&&zf P v u then xK P child (l.set i v) rest else none
  | none=>none
theorem YC (off:Nat):∀ (new:List Value) (k:Nat) (a m c:List Value),m.length=new.length->a.length=off+k ->
 ((new.zipIdx k).foldl (λ(cs:Array Value) (p:Value × Nat)=>cs.setIfInBounds (off+p.2) p.1) (a++m++c).toArray)=(a++new++c).toArray
 | [],k,a,m,c,h,_=>by
  obtain rfl:m=[]:=List.length_eq_zero_iff.1 (by simpa using h);rfl
 | x :: new,k,a,[],c,h,_=>by simp at h
 | x :: new,k,a,y :: m,c,h,ha=>by
  simp only [List.zipIdx_cons,List.foldl_cons];have:(a++y :: m++c).toArray.setIfInBounds (off+k) x=((a++[x])++m++c).toArray:=by
   simp [<- ha,List.set_append]
  rw [this,YC off new (k+1) (a++[x]) m c (by simpa using h) (by simp [ha];omega)];simp
theorem Y7 {l:List V} {cs:List Value} {i:Nat} {v:V} (h:l[i]?=some v) (r:y5 P ι l cs) :
 ∃ a b c,cs=a++b++c/\y5 P ι (l.take i) a/\zL P ι v b/\(∀ w b',zL P ι w b'->y5 P ι (l.set i w) (a++b'++c)):=by
 obtain ⟨a,b,c,h1,h2,h3,h4⟩:=mH h r;exact ⟨a,b,c,h1,h2,h3,λw b' hw=>kI h h2 hw h4⟩
theorem Ya {place:Nat->Option (Nat × Nat)} {i:Nat} {v:Value} {rest:List (Nat × Value)} {off:Nat} {a m c:List Value} (hp:place i=some (off,m.length)) (ha:a.length=off) (hv:v.cells.size=m.length) :
 Instr.fill place (a++m++c).toArray ((i,v) :: rest)=Instr.fill place (a++v.cells.toList++c).toArray rest:=by
 simp only [Instr.fill,hp];have h1:¬ (v.cells.size≠m.length\/off+v.cells.size>(a++m++c).toArray.size):=by
  simp [hv,<- ha]
 have h2:=YC off v.cells.toList 0 a m c (by simp [hv]) (by simpa using ha);have h3:(Array.zipIdx v.cells).foldl (λ(cs:Array Value) (p:Value × Nat)=>cs.setIfInBounds (off+p.2) p.1) (a++m++c).toArray=(a++v.cells.toList++c).toArray:=by
  rw [<- h2,<- Array.foldl_toList];simp
 rw [if_neg (by simpa using h1)];exact congrArg (λx=>Instr.fill place x rest) h3
end
section
open Go Go.RowKit
variable {P:Program} {ι:zw} {W:World} {B:wy} {h:AH}
def pD (P:Program) (B:wy) (ι:zw) (W:World) (s:Sem Value) (v:V) (h':AH):Prop :=
 ∃ ι' W' x,s.run P W=.ok x W'/\zw.le ι ι'/\ye P B ι' h' W'/\rel P ι' v x
def MT (P:Program) (B:wy) (ι:zw) (W:World) (s:Sem Unit) (h':AH):Prop :=
 ∃ ι' W',s.run P W=.ok () W'/\zw.le ι ι'/\ye P B ι' h' W'
theorem pD.z03 (F:ye P B ι h W) {s:Sem Value} {v:V} {x:Value} (hr:s.run P W=.ok x W) (hx:rel P ι v x):pD P B ι W s v h :=
 ⟨ι,W,x,hr,zw.le_refl _,F,hx⟩
def iS (P:Program) (h:AH) (a:PA) (t:TypeId):Option V :=
 match h.m a.n with
 | some (.cells _ ty v)=>if ty=a.ty then match tN P ty a.p with
  | some (_,u)=>match yF v a.p with
   | some w=>if u=t then some w else if zf P w t then some w else none
   | none=>none
  | none=>none
  else none
 | _=>none
theorem aG (H:uF P) {own:Bool} {ty:nC} {v w:V} {L:Loc} {p:List Nat} {o:Nat} {u:TypeId} (ho:pG P ι W L (.cells own ty v)) (hl:tN P ty p=some (o,u)) (hg:yF v p=some w) :
 L.ty=ty/\zf P w u=true/\∃ a m c elem fr,W.heap[L.wC]?=some (.cells (a++m++c).toArray elem fr)/\a.length=L.off+o/\zL P ι w m/\(own=true->pq fr (a++m++c).length) /\
  (∀ (w':V) (m':List Value) (v':V),zf P w' u=true->zL P ι w' m'->tX v p w'=some v'->pG P ι (World.wQ W L.wC (a++m'++c) elem fr) L (.cells own ty v')):=by
 obtain ⟨h1,h2,a,b,c,elem,fr,h3,h4,h5,h6,h7⟩:=ho;obtain ⟨k1,a',m,c',rfl,k2,k3,k4⟩:=Mj H ty p v b o u w h2 h6 hl hg;refine ⟨h1,k1,a++a',m,c'++c,elem,fr,by rw [h3];simp,by simp [h4,k2],k3,?_,?_⟩
 ·intro e;have:=(h7 e).1;rw [<- h5] at this;simpa using this
 ·intro w' m' v' g1 g2 g3;obtain ⟨j1,j2⟩:=k4 w' m' v' g1 g2 g3;have s1:=wB H w u m k1 k3;have s2:=wB H w' u m' g1 g2;refine ⟨h1,j1,a,a'++m'++c',c,elem,fr,?_,h4,?_,j2,h7⟩
  ·rw [km (vl h3)];simp
  ·rw [<- h5];simp [s1,s2]
theorem Np {ty:nC} {v:V} {L:Loc} {cs:Array Value} {elem:TypeId} {fr:Nat × Nat} (ho:pG P ι W L (.cells true ty v)) (hb:W.heap[L.wC]?=some (.cells cs elem fr)):S4 P ty elem L:=by
 obtain ⟨_,_,a,b,c,KY,fr',h3,_,_,_,h7⟩:=ho;rw [h3] at hb;simp only [Option.some.injEq,Obj.cells.injEq] at hb;rw [<- hb.2.1];exact (h7 rfl).2
theorem MV (K:Ok P) (F:ye P B ι h W) {a:PA} {t:TypeId} {v:V} {x:Addr} (hl:iS P h a t=some v) (hx:ZJ P ι a x) :
 pD P B ι W (loadVar t x) v h:=by
 simp only [iS] at hl;split at hl
 ·rename_i own ty v0 hm;split at hl
  ·rename_i V2;split at hl
   ·rename_i o u oK;split at hl
    ·rename_i w hg;obtain ⟨L,hL,sS⟩:=F.obj _ _ hm;obtain ⟨h1,h2,a1,m,c,elem,fr,h3,h4,h5,_,_⟩:=aG K.lay sS oK hg;obtain ⟨L',o',t',g1,g2,g3,rfl⟩:=hx;rw [hL] at g1;cases g1;rw [<- V2,oK] at g3;simp only [Option.some.injEq,Prod.mk.injEq] at g3;obtain ⟨rfl,rfl⟩:=g3;rw [<- h4];split at hl
     ·rename_i hut;subst hut;cases hl;obtain ⟨y,k1,k2,_⟩:=qQ K.lay h3 h2 h5;exact pD.z03 F k1 k2
     ·split at hl
      ·rename_i hsh;cases hl;obtain ⟨y,k1,k2,_⟩:=qQ K.lay h3 hsh h5;exact pD.z03 F k1 k2
      ·cases hl
    ·cases hl
   ·cases hl
  ·cases hl
 ·cases hl
def XI (P:Program) (h:AH) (a:PA) (t:TypeId) (x:V):Option AH :=
 match h.m a.n with
 | some (.cells true ty v)=>if ty=a.ty then match tN P ty a.p with
  | some (_,u)=>match yF v a.p with
   | some w=>if zf P x u&&(decide (u=t)||(zf P x t&&zf P w t)) then match tX v a.p x with
    | some v'=>some (h.put a.n (.cells true ty v'))
    | none=>none
    else none
   | none=>none
  | none=>none
  else none
 | _=>none
theorem Nj (K:Ok P) (F:ye P B ι h W) {a:PA} {t:TypeId} {v:V} {h':AH} {x:Addr} {y:Value} (hl:XI P h a t v=some h') (hx:ZJ P ι a x) (hy:rel P ι v y) :
 MT P B ι W (storeVar t x y) h':=by
 simp only [XI] at hl;split at hl
 ·rename_i ty v0 hm;split at hl
  ·rename_i V2;split at hl
   ·rename_i o u oK;split at hl
    ·rename_i w hg;split at hl
     ·rename_i Zm;simp only [Bool.and_eq_true,Bool.or_eq_true,decide_eq_true_eq] at Zm;split at hl
      ·rename_i v' qz;cases hl;obtain ⟨L,hL,sS⟩:=F.obj _ _ hm;obtain ⟨h1,h2,a1,m,c,elem,fr,h3,h4,h5,h6,h7⟩:=aG K.lay sS oK hg;obtain ⟨L',o',t',g1,g2,g3,rfl⟩:=hx;rw [hL] at g1;cases g1;rw [<- V2,oK] at g3;simp only [Option.some.injEq,Prod.mk.injEq] at g3;obtain ⟨rfl,rfl⟩:=g3;have wO:v≠.xF:=by rintro rfl;simp [zf] at Zm
       have hyc:=td wO hy;have pM:(storeVar t ⟨L.wC,a1.length,none⟩ y).run P W=.ok () (World.wQ W L.wC (a1++y.cells.toList++c) elem fr):=by
        rcases Zm.2 with e | e
        ·subst e;exact jb K.lay h3 (h6 rfl) h2 h5 Zm.1 hy
        ·exact jb K.lay h3 (h6 rfl) e.2 h5 e.1 hy
       rw [<- h4];exact ⟨ι,_,pM,zw.le_refl _,F.store hm hL (h7 v _ v' Zm.1 hyc qz)⟩
      ·cases hl
     ·cases hl
    ·cases hl
   ·cases hl
  ·cases hl
 ·cases hl
def xR (P:Program) (h:AH) (t:TypeId) (v:V):Option (V × AH) :=
 if zf P v t then some (.ptr (some ⟨h.next,.one t,[]⟩),h.make (.cells true (.one t) v)) else none
theorem ZN (n:Nat):pq (0,0) n:=by intro i _;simp
theorem N6 (F:ye P B ι h W) {ty:nC} {v:V} {cs rest:List Value} {e:TypeId} (hs:rT P v ty=true) (hr:zL P ι v cs) (hx:S4 P ty e ⟨W.heap.size,0,(cs++rest).length,ty⟩) :
 ∃ ι' L,(newRow e (cs++rest).toArray).run P W=.ok ⟨W.heap.size,0,none⟩ { W with heap:=W.heap.push (.cells (cs++rest).toArray e (0,0)) }/\zw.le ι ι' /\
  ye P B ι' (h.make (.cells true ty v)) { W with heap:=W.heap.push (.cells (cs++rest).toArray e (0,0)) }/\ι' h.next=some L/\L=⟨W.heap.size,0,(cs++rest).length,ty⟩:=by
 let L:Loc:=⟨W.heap.size,0,(cs++rest).length,ty⟩
 have hle:zw.le ι (zw.add ι h.next L):=zw.Zl (F.fresh _ (Nat.le_refl _));obtain ⟨f1,f2⟩:=F.make (.cells true ty v) (.cells (cs++rest).toArray e (0,0)) L rfl
  ⟨rfl,hs,[],cs,rest,e,(0,0),by simp [L],rfl,by simp [L],md hle _ _ hr,λ_=>⟨ZN _,hx⟩⟩
 exact ⟨zw.add ι h.next L,L,by simp [newRow],f1,f2,by simp [zw.add],rfl⟩
theorem QA (K:Ok P) (F:ye P B ι h W) {t:TypeId} {v w:V} {h':AH} {y:Value} (hl:xR P h t v=some (w,h')) (hy:rel P ι v y) :
 pD P B ι W (do pure (.pointer (some (<- newVar t y)))) w h':=by
 simp only [xR] at hl;split at hl
 ·rename_i hs;simp only [Option.some.injEq,Prod.mk.injEq] at hl;obtain ⟨rfl,rfl⟩:=hl;have wO:v≠.xF:=by rintro rfl;simp [zf] at hs
  obtain ⟨ι',L,h1,h2,h3,h4,h5⟩:=N6 (rest:=[]) (ty:=.one t) (e:=t) F (by simpa [rT] using hs) (td wO hy) ⟨rfl,rfl,by
   rw [List.append_nil];exact wB K.lay v t _ hs (td wO hy)⟩
  simp only [List.append_nil,Array.toArray_toList] at h1 h3;refine ⟨ι',_,.pointer (some ⟨W.heap.size,0,none⟩),?_,h2,h3,.inr ⟨rfl,?_⟩⟩
  ·simp only [newVar,Sem.run_bind,h1,Result.andThen_ok,Sem.run_pure]
  ·simp only [Value.cells,zL];exact ⟨⟨W.heap.size,0,none⟩,⟨L,0,t,h4,by rw [h5],by simp [tN,lay],by rw [h5]⟩,rfl⟩
 ·cases hl
def zV (P:Program) (h:AH) (t:TypeId):Option (V × AH) :=
 match xk P t with
 | some z=>xR P h t z
 | none=>none
theorem OJ (K:Ok P) (F:ye P B ι h W) {t:TypeId} {w:V} {h':AH} (hl:zV P h t=some (w,h')) :
 pD P B ι W (Instr.alloc t true (.tuple #[])) w h':=by
 simp only [zV] at hl;split at hl
 ·rename_i z hz;obtain ⟨y,h1,h2,h3,h4⟩:=v8 K hz W;have:=QA K F hl (.inr ⟨h2,h3 ι⟩);obtain ⟨ι',W',x,k1,k2⟩:=this;refine ⟨ι',W',x,?_,k2⟩;simp only [Instr.alloc,Sem.run_bind,h1,Result.andThen_ok];simpa only [Sem.run_bind] using k1
 ·cases hl
theorem MM {d:Nat} {t:TypeId} {v:V} (h:j5 P d t=some v):∃ dd,ul P t=some dd:=by
 cases d with
 | zero=>simp [j5] at h
 | succ d =>
  cases hu:ul P t with
  | some dd=>exact ⟨dd,rfl⟩
  | none=>simp only [j5,hu] at h;cases h
theorem TS {d n:Nat} {t e:TypeId} {v:V} (hu:ul P t=some (.array n e)) (h:j5 P d t=some v):∃ dd,ul P e=some dd:=by
 cases d with
 | zero=>simp [j5] at h
 | succ d =>
  simp only [j5,hu] at h;split at h
  ·rename_i he;exact MM he
  ·cases h
def zD (P:Program) (t:TypeId) (parts:List (Nat × V)):Option V :=
 match xk P t with
 | some (.agg z)=>match ul P t with
  | some (.struct fs)=>match xK P (λi=>(fs[i]?).map (·.type)) z parts with
   | some l=>some (.agg l)
   | none=>none
  | some (.array _ e)=>match xK P (λ_=>some e) z parts with
   | some l=>some (.agg l)
   | none=>none
  | _=>none
 | _=>none
def Y0 (P:Program) (ι:zw):List (Nat × V)->List (Nat × Value)->Prop
 | [],xs=>xs=[]
 | (i,v) :: ps,xs=>∃ x rest,xs=(i,x) :: rest/\rel P ι v x/\Y0 P ι ps rest
theorem mn (H:uF P) {t:TypeId} {fs:Array Field} (hu:ul P t=some (.struct fs)) {fW:Array (Nat × Nat)} (hp:∀ (i:Nat) (f:Field),fs[i]?=some f->fW[i]?=some (f.offset,P.cellsOf f.type)) :
 ∀ (ps:List (Nat × V)) (xs:List (Nat × Value)) (l l':List V) (cs:List Value),Y0 P ι ps xs->xK P (λi=>(fs[i]?).map (·.type)) l ps=some l'->yQ P l (fs.toList.map (·.type))=true->y5 P ι l cs ->
 ∃ dc,Instr.fill (fW[·]?) cs.toArray xs=some dc.toArray/\yQ P l' (fs.toList.map (·.type))=true/\y5 P ι l' dc
 | [],xs,l,l',cs,hx,hl,hs,hr=>by
  simp only [Y0] at hx;subst hx;simp only [xK,Option.some.injEq] at hl;subst hl;exact ⟨cs,rfl,hs,hr⟩
 | (i,v) :: ps,xs,l,l',cs,hx,hl,hs,hr=>by
  obtain ⟨x,rest,rfl,hvx,dg⟩:=hx;simp only [xK] at hl;cases hf:fs[i]? with
  | none=>simp [hf] at hl
  | some f =>
   simp only [hf,Option.map_some] at hl;split at hl
   ·rename_i hc;simp only [Bool.and_eq_true,decide_eq_true_eq] at hc;have wO:v≠.xF:=by rintro rfl;simp [zf] at hc
    obtain ⟨w,hw⟩:∃ w,l[i]?=some w:=⟨l[i],by simp [hc.1]⟩
    obtain ⟨a,m,c,rfl,k1,k2,k3⟩:=Y7 hw hr;obtain ⟨tw,e1,e2⟩:=nM hs hw;have etw:tw=f.type:=by
     simp only [List.getElem?_map,Array.getElem?_toList,hf,Option.map_some,Option.some.injEq] at e1;exact e1.symm
    subst etw;have s1:=wB H w _ m e2 k2;have s2:=wB H v _ _ hc.2 (td wO hvx);have s3:=li H _ _ a (oy i hs) k1;have UO:a.length=f.offset:=by
     rw [s3,(H.struct t fs hu).2 i f hf];simp [<- List.map_take,List.map_map,Function.comp_def]
    rw [Ya (by rw [hp i f hf,<- s1]) UO (by rw [s1,<- s2];simp)];exact mn H hu hp ps rest _ l' _ dg hl (jD hs e1 hc.2) (k3 v _ (td wO hvx))
   ·cases hl
theorem pJ (H:uF P) {e:TypeId} {place:Nat->Option (Nat × Nat)} (hp:∀ i,place i=some (i*P.cellsOf e,P.cellsOf e)) :
 ∀ (ps:List (Nat × V)) (xs:List (Nat × Value)) (l l':List V) (cs:List Value),Y0 P ι ps xs->xK P (λ_=>some e) l ps=some l'->zF P l e=true->y5 P ι l cs ->
 ∃ dc,Instr.fill place cs.toArray xs=some dc.toArray/\l'.length=l.length/\zF P l' e=true/\y5 P ι l' dc
 | [],xs,l,l',cs,hx,hl,hs,hr=>by
  simp only [Y0] at hx;subst hx;simp only [xK,Option.some.injEq] at hl;subst hl;exact ⟨cs,rfl,rfl,hs,hr⟩
 | (i,v) :: ps,xs,l,l',cs,hx,hl,hs,hr=>by
  obtain ⟨x,rest,rfl,hvx,dg⟩:=hx;simp only [xK] at hl;split at hl
  ·rename_i hc;simp only [Bool.and_eq_true,decide_eq_true_eq] at hc;have wO:v≠.xF:=by rintro rfl;simp [zf] at hc
   obtain ⟨w,hw⟩:∃ w,l[i]?=some w:=⟨l[i],by simp [hc.1]⟩
   obtain ⟨a,m,c,rfl,k1,k2,k3⟩:=Y7 hw hr;have e2:=sk hs hw;have s1:=wB H w _ m e2 k2;have s2:=wB H v _ _ hc.2 (td wO hvx);have s3:=yJ H _ _ a (yI i hs) k1;rw [List.length_take,Nat.min_eq_left (Nat.le_of_lt hc.1)] at s3;rw [Ya (by rw [hp i,<- s1]) (by rw [s3,s1]) (by rw [s1,<- s2];simp)];obtain ⟨dc,g1,g2,g3⟩:=pJ H hp ps rest _ l' _ dg hl (rW hs hc.2) (k3 v _ (td wO hvx));exact ⟨dc,g1,by simpa using g2,g3⟩
  ·cases hl
theorem dG {t:TypeId} {fs:Array Field} (H:uF P) (hk:∀ f∈fs.toList,∃ d,ul P f.type=some d) (W:World) :
 ∃ fW:Array (Nat × Nat),(fs.mapM λf=>(do pure (f.offset,<- sizeOf f.type):Sem (Nat × Nat))).run P W=.ok fW W/\∀ (i:Nat) (f:Field),fs[i]?=some f->fW[i]?=some (f.offset,P.cellsOf f.type):=by
 refine ⟨(fs.toList.map λf=>(f.offset,P.cellsOf f.type)).toArray,?_,?_⟩
 ·rw [Array.mapM_eq_mapM_toList];have:∀ l:List Field,(∀ f∈l,∃ d,ul P f.type=some d)->(l.mapM λf=>(do pure (f.offset,<- sizeOf f.type):Sem (Nat × Nat))).run P W=.ok (l.map λf=>(f.offset,P.cellsOf f.type)) W:=by
   intro l hl;induction l with
   | nil=>rfl
   | cons f l ih =>
    obtain ⟨d,hd⟩:=hl f S_;simp only [List.mapM_cons,Sem.run_bind,xg hd,Result.andThen_ok,Sem.run_pure,ih (λg hg=>hl g (by simp [hg])),List.map_cons]
  simp only [Sem.run_map,this fs.toList hk,Result.andThen_ok]
 ·intro i f hf;simp [hf]
theorem X4:∀ {l:List V} {ts:List TypeId},yQ P l ts=true->∀ t∈ts,∃ d,ul P t=some d
 | [],[],_,t,ht=>by simp at ht
 | [],_ :: _,h,_,_=>by simp [yQ] at h
 | _ :: _,[],h,_,_=>by simp [yQ] at h
 | v :: vs,u :: ts,h,t,ht=>by
  simp only [yQ,Bool.and_eq_true] at h;rcases List.mem_cons.1 ht with rfl | ht
  ·exact uB h.1
  ·exact X4 h.2 t ht
theorem N8 (K:Ok P) {t:TypeId} {ps:List (Nat × V)} {xs:List (Nat × Value)} {v:V} (hl:zD P t ps=some v) (hx:Y0 P ι ps xs) (W:World) :
 ∃ x,(Instr.build t xs.toArray).run P W=.ok x W/\rel P ι v x:=by
 simp only [zD] at hl;split at hl
 ·rename_i z hz;obtain ⟨zv,h1,h2,h3,h4⟩:=v8 K hz W;have h3:=h3 ι;simp only [zL] at h3;simp only [zf] at h4;split at hl
  ·rename_i fs hu;rw [hu] at h4;simp only at h4;split at hl
   ·rename_i l hp;cases hl;obtain ⟨fW,p1,p2⟩:=dG (t:=t) K.lay (λf hf=>X4 h4 _ (List.mem_map.2 ⟨f,hf,rfl⟩)) W;obtain ⟨dc,g1,g2,g3⟩:=mn K.lay hu p2 ps xs z l _ hx hp h4 h3;refine ⟨.agg dc.toArray,?_,.inr ⟨rfl,by simpa [zL,Value.cells] using g3⟩⟩;simp only [Array.toArray_toList] at g1;simp only [Instr.build,Sem.run_bind,h1,Result.andThen_ok,zo hu,p1,Sem.run_pure,g1]
   ·cases hl
  ·rename_i n e hu;rw [hu] at h4;simp only [Bool.and_eq_true,beq_iff_eq] at h4;split at hl
   ·rename_i l hp;cases hl;obtain ⟨dc,g1,g2,g3,g4⟩:=pJ (place:=λi=>some (i*P.cellsOf e,P.cellsOf e)) K.lay (λi=>rfl) ps xs z l _ hx hp h4.2 h3;refine ⟨.agg dc.toArray,?_,.inr ⟨rfl,by simpa [zL,Value.cells] using g4⟩⟩;simp only [Array.toArray_toList] at g1;have hse:(sizeOf e).run P W=.ok (P.cellsOf e) W:=by
     cases ps with
     | nil =>
      cases z with
      | cons w ws =>
       simp only [zF,Bool.and_eq_true] at h4;obtain ⟨d,hd⟩:=uB h4.2.1;exact xg hd W
      | nil =>
       obtain ⟨d,hd⟩:=TS hu hz;exact xg hd W
     | cons p ps =>
      obtain ⟨i,w⟩:=p;simp only [xK] at hp;split at hp
      ·rename_i hc;simp only [Bool.and_eq_true] at hc;obtain ⟨d,hd⟩:=uB hc.2;exact xg hd W
      ·cases hp
    simp only [Instr.build,Sem.run_bind,h1,Result.andThen_ok,zo hu,hse,Sem.run_pure,g1]
   ·cases hl
  ·cases hl
 ·cases hl
end
section
open Go Go.RowKit
variable {P:Program} {ι:zw} {W:World} {B:wy} {h:AH}
def ic (P:Program) (u:TypeId) (i:Nat):Option (Nat × TypeId) :=
 match ul P u with
 | some (.struct fs)=>match fs[i]? with
  | some f=>some (f.offset,f.type)
  | none=>none
 | some (.array _ e)=>some (i*P.cellsOf e,e)
 | _=>none
theorem jM:∀ (p:List Nat) (t:TypeId) (o:Nat) (u:TypeId) (i o2:Nat) (t2:TypeId),lay P t p=some (o,u)->ic P u i=some (o2,t2)->lay P t (p++[i])=some (o+o2,t2)
 | [],t,o,u,i,o2,t2,hl,hs=>by
  simp only [lay,Option.some.injEq,Prod.mk.injEq] at hl;obtain ⟨rfl,rfl⟩:=hl;simp only [ic] at hs;simp only [List.nil_append,lay];split at hs
  ·rename_i fs hu;split at hs
   ·rename_i f hf;cases hs;simp [hu,hf]
   ·cases hs
  ·rename_i n e hu;cases hs;simp [hu]
  ·cases hs
 | j :: p,t,o,u,i,o2,t2,hl,hs=>by
  simp only [lay] at hl;simp only [List.cons_append,lay];split at hl
  ·rename_i fs hu;split at hl
   ·rename_i f hf;split at hl
    ·rename_i o' u' PY;simp only [Option.some.injEq,Prod.mk.injEq] at hl;obtain ⟨rfl,rfl⟩:=hl;rw [jM p f.type o' u' i o2 t2 PY hs];simp [Nat.add_assoc]
    ·cases hl
   ·cases hl
  ·rename_i n e hu;split at hl
   ·rename_i o' u' PY;simp only [Option.some.injEq,Prod.mk.injEq] at hl;obtain ⟨rfl,rfl⟩:=hl;rw [jM p e o' u' i o2 t2 PY hs];simp [Nat.add_assoc]
   ·cases hl
  ·cases hl
theorem Yq {ty:nC} {p:List Nat} {o:Nat} {u:TypeId} {i o2:Nat} {t2:TypeId} (hl:tN P ty p=some (o,u)) (hs:ic P u i=some (o2,t2)) :
 tN P ty (p++[i])=some (o+o2,t2):=by
 cases ty with
 | one t=>exact jM p t o u i o2 t2 hl hs
 | row e =>
  cases p with
  | nil=>simp [tN] at hl
  | cons j p =>
   simp only [tN] at hl;simp only [List.cons_append,tN];split at hl
   ·rename_i o' u' PY;simp only [Option.some.injEq,Prod.mk.injEq] at hl;obtain ⟨rfl,rfl⟩:=hl;rw [jM p e o' u' i o2 t2 PY hs];simp [Nat.add_assoc]
   ·cases hl
theorem aT {ty:nC} {p:List Nat} {o:Nat} {e:TypeId} (i:Nat) (hl:rowAt P ty p=some (o,e)):tN P ty (p++[i])=some (o+i*P.cellsOf e,e):=by
 unfold rowAt at hl;split at hl
 ·simp only [Option.some.injEq,Prod.mk.injEq] at hl;obtain ⟨rfl,rfl⟩:=hl;simp [tN,lay]
 ·split at hl
  ·rename_i o' t PY;split at hl
   ·rename_i n e' hu;simp only [Option.some.injEq,Prod.mk.injEq] at hl;obtain ⟨rfl,rfl⟩:=hl;exact Yq PY (by simp [ic,hu])
   ·cases hl
  ·cases hl
theorem Sj {ty:nC} {p:List Nat} {o o':Nat} {t e:TypeId} (h:tN P ty p=some (o',t)) (k:rowAt P ty p=some (o,e)):o'=o:=by
 cases ty with
 | row f =>
  cases p with
  | nil=>simp [tN] at h
  | cons i p =>
   simp only [rowAt,h] at k;split at k
   ·simp only [Option.some.injEq,Prod.mk.injEq] at k;exact k.1
   ·cases k
 | one f =>
  simp only [rowAt,h] at k;split at k
  ·simp only [Option.some.injEq,Prod.mk.injEq] at k;exact k.1
  ·cases k
def gE (P:Program) (u:TypeId) (f off:Nat):Bool :=
 match ic P u f with
 | some (o,_)=>decide (o=off)
 | none=>false
def z5 (P:Program) (s:TypeId) (x:V) (f:Nat):Option V :=
 match x with
 | .ptr (some a)=>match ul P s with
  | some (.struct fs)=>match fs[f]?,tN P a.ty a.p with
   | some g,some (_,u)=>if decide (P.cellsOf g.type≠0)&&gE P u f g.offset&&(ul P g.type).isSome then some (.ptr (some { a with p:=a.p++[f] })) else none
   | _,_=>none
  | _=>none
 | _=>none
theorem sw {a:PA} {x:Value} (hx:rel P ι (.ptr (some a)) x):∃ y,x=.pointer (some y)/\ZJ P ι a y:=by
 obtain ⟨h,_⟩:=yU S_ S_ hx;simp only [zL,List.cons.injEq,and_true] at h;obtain ⟨y,h1,h2⟩:=h;exact ⟨y,h2,h1⟩
theorem vA {k:IntKind} {n:Int} {x:Value} (hx:rel P ι (.int k n) x):x=.int k n:=by
 obtain ⟨h,_⟩:=yU S_ S_ hx;simpa [zL] using h
theorem rel_bool {b:Bool} {x:Value} (hx:rel P ι (.bool b) x):x=.bool b:=by
 obtain ⟨h,_⟩:=yU S_ S_ hx;simpa [zL] using h
theorem tS {s:List UInt8} {x:Value} (hx:rel P ι (.str s) x):x=.string ⟨s.toArray⟩:=by
 obtain ⟨h,_⟩:=yU S_ S_ hx;simpa [zL] using h
theorem tP {a:PA} {s len:Nat} {x:Value} (hx:rel P ι (.y8 (some (a,s)) len) x):∃ y cap,x=.slice (some y) len cap/\len<=cap/\(0<cap->jx P ι a s cap y):=by
 obtain ⟨h,_⟩:=yU S_ S_ hx;simp only [zL,List.cons.injEq,and_true] at h;obtain ⟨y,cap,h1,_,h2,h3⟩:=h;exact ⟨y,cap,h3,h1,h2⟩
theorem Wa {a:PA} {s len:Nat} {x:Value} (hx:rel P ι (.y8 (some (a,s)) len) x):∃ L,ι a.n=some L:=by
 obtain ⟨h,_⟩:=yU S_ S_ hx;simp only [zL,List.cons.injEq,and_true] at h;obtain ⟨y,cap,_,h1,_⟩:=h;exact h1
theorem va {len:Nat} {x:Value} (hx:rel P ι (.y8 none len) x):len=0/\x=.slice none 0 0:=by
 obtain ⟨h,_⟩:=yU S_ S_ hx;simpa [zL] using h
theorem c8 {l:List V} {x:Value} (hx:rel P ι (.agg l) x):∃ cs,x=.agg cs/\y5 P ι l cs.toList:=by
 rcases hx with hx | ⟨h1,h2⟩
 ·cases hx
 ·cases x <;> first | (simp [mj] at h1;done) | skip
  simp only [Value.cells,zL] at h2;exact ⟨_,rfl,h2⟩
theorem mk_int (k:IntKind) (n:Int):rel P ι (.int k n) (.int k n):=.inr ⟨rfl,by simp [zL,Value.cells]⟩
theorem tm (b:Bool):rel P ι (.bool b) (.bool b):=.inr ⟨rfl,by simp [zL,Value.cells]⟩
theorem mk_str (s:List UInt8):rel P ι (.str s) (.string ⟨s.toArray⟩):=.inr ⟨rfl,by simp [zL,Value.cells]⟩
theorem Wq {a:PA} {y:Addr} (hy:ZJ P ι a y):rel P ι (.ptr (some a)) (.pointer (some y)):=.inr ⟨rfl,by simp only [zL,Value.cells];exact ⟨y,hy,rfl⟩⟩
theorem XQ {a:PA} {s len cap:Nat} {y:Addr} (h1:len<=cap) (h0:∃ L,ι a.n=some L) (h2:0<cap->jx P ι a s cap y):rel P ι (.y8 (some (a,s)) len) (.slice (some y) len cap) :=
 .inr ⟨rfl,by simp only [zL,Value.cells];exact ⟨y,cap,h1,h0,h2,rfl⟩⟩
theorem ZW {s:TypeId} {x v:V} {f:Nat} {y:Value} (hl:z5 P s x f=some v) (hx:rel P ι x y) (W:World) :
 ∃ z,(Instr.fieldAt s y f).run P W=.ok z W/\rel P ι v z:=by
 simp only [z5] at hl;split at hl
 ·rename_i a;split at hl
  ·rename_i fs hu;split at hl
   ·rename_i g o u hg oK;split at hl
    ·rename_i hc;cases hl;simp only [Bool.and_eq_true,decide_eq_true_eq] at hc;obtain ⟨⟨hc1,Tg⟩,J0⟩:=hc;obtain ⟨z,rfl,hz⟩:=sw hx;obtain ⟨d,hd⟩:=Option.isSome_iff_exists.1 J0;refine ⟨.pointer (some (z.add g.offset)),?_,Wq ?_⟩
     ·simp only [Instr.fieldAt,Sem.run_bind,zo hu,Result.andThen_ok,hg,Instr.sureAddr,Sem.run_pure,fieldPlace,xg hd,hc1,if_false]
     ·obtain ⟨L,o',t',g1,g2,g3,rfl⟩:=hz;rw [oK] at g3;simp only [Option.some.injEq,Prod.mk.injEq] at g3;obtain ⟨rfl,rfl⟩:=g3;unfold gE at Tg;split at Tg
      ·rename_i o2 t2 pN;simp only [decide_eq_true_eq] at Tg;refine ⟨L,o+o2,t2,g1,g2,Yq oK pN,?_⟩;rw [sn,Tg,Nat.add_assoc]
      ·cases Tg
    ·cases hl
   ·cases hl
  ·cases hl
 ·cases hl
def zy (P:Program) (t:TypeId) (x i:V):Option V :=
 match i with
 | .int _ i=>match x with
  | .ptr (some a)=>match ul P t,rowAt P a.ty a.p with
   | some (.array n e),some (_,e')=>if decide (e=e')&&(ul P e).isSome&&decide (0<=i/\i<(n:Int)) then some (.ptr (some { a with p:=a.p++[i.toNat] })) else none
   | _,_=>none
  | .y8 (some (a,s)) len=>match ul P t,rowAt P a.ty a.p with
   | some (.slice e),some (_,e')=>if decide (e=e')&&(ul P e).isSome&&decide (0<=i/\i<(len:Int)) then some (.ptr (some { a with p:=a.p++[s+i.toNat] })) else none
   | _,_=>none
  | _=>none
 | _=>none
theorem ZH {t:TypeId} {x i v:V} {y j:Value} (hl:zy P t x i=some v) (hx:rel P ι x y) (hi:rel P ι i j) (W:World) :
 ∃ z,(Instr.indexAt t y j).run P W=.ok z W/\rel P ι v z:=by
 simp only [zy] at hl;split at hl
 ·rename_i k n;obtain rfl:=vA hi;split at hl
  ·rename_i a;obtain ⟨z,rfl,hz⟩:=sw hx;split at hl
   ·rename_i len e o e' hu mC;split at hl
    ·rename_i hc;cases hl;simp only [Bool.and_eq_true,decide_eq_true_eq] at hc;obtain ⟨⟨rfl,Tg⟩,J0⟩:=hc;obtain ⟨d,hd⟩:=Option.isSome_iff_exists.1 Tg;refine ⟨.pointer (some (z.add (n.toNat*P.cellsOf e))),?_,Wq ?_⟩
     ·simp only [Instr.indexAt,Sem.run_bind,asIntOf,Sem.run_pure,Result.andThen_ok,zo hu,Instr.sureAddr,J0,and_self,if_true,xg hd]
     ·obtain ⟨L,o',t',g1,g2,g3,rfl⟩:=hz;refine ⟨L,o+n.toNat*P.cellsOf e,e,g1,g2,aT _ mC,?_⟩;have ho:o'=o:=Sj g3 mC;rw [sn,ho,Nat.add_assoc]
    ·cases hl
   ·cases hl
  ·rename_i a s len;obtain ⟨z,cap,rfl,V3,hz⟩:=tP hx;split at hl
   ·rename_i e o e' hu mC;split at hl
    ·rename_i hc;cases hl;simp only [Bool.and_eq_true,decide_eq_true_eq] at hc;obtain ⟨⟨rfl,Tg⟩,J0⟩:=hc;obtain ⟨d,hd⟩:=Option.isSome_iff_exists.1 Tg;refine ⟨.pointer (some (z.add (n.toNat*P.cellsOf e))),?_,Wq ?_⟩
     ·simp only [Instr.indexAt,Sem.run_bind,asIntOf,Sem.run_pure,Result.andThen_ok,zo hu,J0,and_self,if_true,xg hd]
     ·obtain ⟨L,o',e',g1,g2,g3,rfl,g4⟩:=hz O_;rw [mC] at g3;simp only [Option.some.injEq,Prod.mk.injEq] at g3;obtain ⟨rfl,rfl⟩:=g3;refine ⟨L,o+(s+n.toNat)*P.cellsOf e,e,g1,g2,aT _ mC,?_⟩;rw [sn,Nat.add_mul];congr 1;omega
    ·cases hl
   ·cases hl
  ·cases hl
 ·cases hl
def SK (P:Program) (t:TypeId) (x:V) (f:Nat):Option V :=
 match x with
 | .agg l=>if zf P x t then match ul P t with
  | some (.struct _)=>l[f]?
  | _=>none
  else none
 | _=>none
theorem Os (K:Ok P) {t:TypeId} {x v:V} {f:Nat} {y:Value} (hl:SK P t x f=some v) (hx:rel P ι x y) (W:World) :
 ∃ z,(Instr.field t y f).run P W=.ok z W/\rel P ι v z:=by
 simp only [SK] at hl;split at hl
 ·rename_i l;obtain ⟨cs,rfl,Ny⟩:=c8 hx;split at hl
  ·rename_i hs;split at hl
   ·rename_i fs hu;simp only [zf,hu] at hs;obtain ⟨a,m,c,e1,k1,k2,k3⟩:=mH hl Ny;obtain ⟨t',NA,dO⟩:=nM hs hl;simp only [List.getElem?_map,Array.getElem?_toList] at NA;cases hf:fs[f]? with
    | none=>rw [hf] at NA;cases NA
    | some g =>
     rw [hf] at NA;simp only [Option.map_some,Option.some.injEq] at NA;subst NA;have s3:=li K.lay _ _ a (oy f hs) k1;have UO:a.length=g.offset:=by
      rw [s3,(K.lay.struct t fs hu).2 f g hf];simp [<- List.map_take,List.map_map,Function.comp_def]
     obtain ⟨z,r1,r2,_⟩:=sL (a:=a) (c:=c) K.lay dO k2 W;refine ⟨z,?_,r2⟩;have z4p:cs=(a++m++c).toArray:=by rw [<- e1]
     simp only [Instr.field,Sem.run_bind,zo hu,Result.andThen_ok,hf,asAgg,Sem.run_pure,z4p,<- UO,r1]
   ·cases hl
  ·cases hl
 ·cases hl
def vN (P:Program) (t:TypeId) (x i:V):Option V :=
 match i with
 | .int _ i=>match x with
  | .agg l=>if zf P x t&&decide (0<=i) then match ul P t with
   | some (.array _ _)=>l[i.toNat]?
   | _=>none
   else none
  | .str s=>match ul P t with
   | some .string=>if 0<=i then match s[i.toNat]? with
    | some b=>some (.int .u8 b.toNat)
    | none=>none
    else none
   | _=>none
  | _=>none
 | _=>none
theorem OO (K:Ok P) {t:TypeId} {x i v:V} {y j:Value} (hl:vN P t x i=some v) (hx:rel P ι x y) (hi:rel P ι i j) (W:World) :
 ∃ z,(Instr.index t y j).run P W=.ok z W/\rel P ι v z:=by
 simp only [vN] at hl;split at hl
 ·rename_i k n;obtain rfl:=vA hi;split at hl
  ·rename_i l;obtain ⟨cs,rfl,Ny⟩:=c8 hx;split at hl
   ·rename_i hs;simp only [Bool.and_eq_true,decide_eq_true_eq] at hs;split at hl
    ·rename_i len e hu;have JG:=hs.1;simp only [zf,hu,Bool.and_eq_true,beq_iff_eq] at JG;obtain ⟨a,m,c,e1,k1,k2,k3⟩:=mH hl Ny;have dO:=sk JG.2 hl;have hlt:n.toNat<l.length:=by
      rcases Nat.lt_or_ge n.toNat l.length with h | h
      ·exact h
      ·simp [List.getElem?_eq_none h] at hl
     have s3:=yJ K.lay _ _ a (yI n.toNat JG.2) k1;rw [List.length_take,Nat.min_eq_left (Nat.le_of_lt hlt)] at s3;obtain ⟨d,hd⟩:=uB dO;obtain ⟨z,r1,r2,_⟩:=sL (a:=a) (c:=c) K.lay dO k2 W;refine ⟨z,?_,r2⟩;have z4p:cs=(a++m++c).toArray:=by rw [<- e1]
     have hb:(0<=n/\n<(len:Int)):=⟨hs.2,by rw [<- JG.1];omega⟩
     simp only [Instr.index,Sem.run_bind,asIntOf,Sem.run_pure,Result.andThen_ok,zo hu,hb,and_self,if_true,xg hd,z4p,<- s3,r1]
    ·cases hl
   ·cases hl
  ·rename_i s;obtain rfl:=tS hx;split at hl
   ·rename_i hu;split at hl
    ·rename_i h0;split at hl
     ·rename_i b hb;cases hl;refine ⟨.int .u8 b.toNat,?_,mk_int _ _⟩;have:(⟨s.toArray⟩:ByteArray)[n.toNat]?=some b:=by
       have hlt:n.toNat<s.length:=by
        rcases Nat.lt_or_ge n.toNat s.length with h | h
        ·exact h
        ·simp [List.getElem?_eq_none h] at hb
       have hsz:n.toNat<(⟨s.toArray⟩:ByteArray).size:=by simpa [ByteArray.size] using hlt
       rw [getElem?_pos (⟨s.toArray⟩:ByteArray) n.toNat hsz];rw [List.getElem?_eq_getElem hlt] at hb;simpa [ByteArray.getElem_eq_getElem_data] using hb
      simp only [Instr.index,Sem.run_bind,asIntOf,Sem.run_pure,Result.andThen_ok,zo hu,h0,if_true,this]
     ·cases hl
    ·cases hl
   ·cases hl
  ·cases hl
 ·cases hl
end
end Go.Ab
end
