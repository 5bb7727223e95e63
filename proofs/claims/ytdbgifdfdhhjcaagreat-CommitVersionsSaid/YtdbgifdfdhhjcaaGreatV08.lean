import Derived.Test.YtdbgifdfdhhjcaaGreatV05
import Derived.OpenShut
import Derived.SizedLaws
set_option linter.unusedVariables false
set_option linter.unusedSimpArgs false
set_option linter.unusedSectionVars false
noncomputable section
namespace Go.Ab
section
open Go Go.RowKit Go.ChangeShapes
variable {P:Program}
def jp (P:Program):Nat->TypeId->Bool
 | 0,_=>false
 | d+1,t=>match ul P t with
  | some .bool=>true
  | some (.int _)=>true
  | some .string=>true
  | some (.struct fs)=>fs.toList.all λf=>jp P d f.type
  | some (.array _ e)=>jp P d e
  | _=>false
mutual
def WD (M:Nat):V->Bool
 | .bool _=>true
 | .int k n=>(Lit.int k n).wf
 | .str s=>decide (s.length<=M)
 | .agg l=>hG M l
 | _=>false
def hG (M:Nat):List V->Bool
 | []=>true
 | v :: l=>WD M v&&hG M l
end
section
variable {H:Type} {enc:TypeId × Value->H} {w w':World} {base base':Nat} {spare spare':Nat->Bool} {held held':Bool}
def MG (P:Program) (M:Nat) (t:TypeId) (cs:List Value):Prop:=∃ v,zf P v t=true/\WD M v=true/\∀ ι,zL P ι v cs
def z6h (P:Program) (M:Nat) (ts:List TypeId) (cs:List Value):Prop:=∃ l,yQ P l ts=true/\hG M l=true/\∀ ι,y5 P ι l cs
def L3 (P:Program) (M:Nat) (e:TypeId) (n:Nat) (cs:List Value):Prop:=∃ l,l.length=n/\zF P l e=true/\hG M l=true/\∀ ι,y5 P ι l cs
theorem iM {M:Nat} {cs:List Value}:∀ (fs:List Field) (o:Nat),pB P fs o=true->cs.length=o+(fs.map λf=>P.cellsOf f.type).sum ->
 (∀ f∈fs,MG P M f.type ((cs.drop f.offset).take (P.cellsOf f.type)))->z6h P M (fs.map (·.type)) (cs.drop o)
 | [],o,_,hl,_=>⟨[],rfl,rfl,λι=>by simp only [y5];simp at hl;rw [List.drop_eq_nil_of_le O_]⟩
 | f :: fs,o,ho,hl,h=>by
  simp only [pB,Bool.and_eq_true,beq_iff_eq] at ho;simp only [List.map_cons,List.sum_cons] at hl;obtain ⟨v,h1,h2,h3⟩:=h f S_;obtain ⟨l,k1,k2,k3⟩:=iM fs (o+P.cellsOf f.type) ho.2 O_ λg hg=>h g (by simp [hg]);refine ⟨v :: l,by simp only [List.map_cons,yQ,h1,k1,Bool.and_self],by simp only [hG,h2,k2,Bool.and_self],λι=>?_⟩;have:=rO (h3 ι) (k3 ι);rw [ho.1,<- List.drop_drop,List.take_append_drop] at this;exact this
theorem eQ {M:Nat} {e:TypeId} {cs:List Value}:∀ (n k:Nat),cs.length=(k+n)*P.cellsOf e->(∀ i,i<n->MG P M e ((cs.drop ((k+i)*P.cellsOf e)).take (P.cellsOf e)))->L3 P M e n (cs.drop (k*P.cellsOf e))
 | 0,k,hl,_=>⟨[],rfl,rfl,rfl,λι=>by simp only [y5];rw [List.drop_eq_nil_of_le (by rw [hl];simp)]⟩
 | n+1,k,hl,h=>by
  obtain ⟨v,h1,h2,h3⟩:=h 0 O_;obtain ⟨l,k0,k1,k2,k3⟩:=eQ n (k+1) (by rw [hl];congr 1;omega) λi hi=>by
   have:=h (i+1) O_;rw [show k+(i+1)=k+1+i by omega] at this;exact this
  refine ⟨v :: l,by simp [k0],by simp only [zF,h1,k1,Bool.and_self],by simp only [hG,h2,k2,Bool.and_self],λι=>?_⟩;have:=rO (h3 ι) (k3 ι);rw [Nat.add_zero,Nat.add_mul,Nat.one_mul,<- List.drop_drop,List.take_append_drop] at this;exact this
theorem mi {e:TypeId}:∀ {ds:List (DataW H)} {i:Nat} {d:DataW H},ds[i]?=some d->∀ n∈d.weights P e,n∈DataW.weightsAll P e ds
 | [],i,d,h,n,hn=>by simp at h
 | d0 :: ds,0,d,h,n,hn=>by
  simp only [List.getElem?_cons_zero,Option.some.injEq] at h;subst h;simp only [DataW.weightsAll,List.mem_append];exact .inl hn
 | d0 :: ds,i+1,d,h,n,hn=>by
  simp only [DataW.weightsAll,List.mem_append];exact .inr (mi (by simpa using h) n hn)
theorem kp (K:uF P) {M:Nat}:∀ (fuel d:Nat) (t:TypeId) (cs:List Value) (x:DataW H × List MemPlace),jp P d t=true->DataW.trod enc P w base spare held fuel t cs=some x ->
 (∀ n∈x.1.weights P t,n<=M)->MG P M t cs/\x.2=[]
 | 0,_,_,_,_,_,h,_=>by simp [DataW.trod] at h
 | n+1,0,t,cs,x,h,_,_=>by simp [jp] at h
 | n+1,d+1,t,cs,x,h,hx,hw=>by
  simp only [jp] at h;cases hu:ul P t with
  | none=>rw [hu] at h;cases h
  | some dd =>
   rw [hu] at h;have UN:=sx hu;cases dd <;> first | (cases h;done) | skip
   ·obtain ⟨b,rfl,rfl⟩:=DataW.trod_bool UN hx;exact ⟨⟨.bool b,by simp [zf,si,hu],rfl,λι=>by simp [zL]⟩,rfl⟩
   ·obtain ⟨m,rfl,rfl,hwf⟩:=DataW.trod_int UN hx;exact ⟨⟨.int _ m,by simp [zf,si,hu],hwf,λι=>by simp [zL]⟩,rfl⟩
   ·obtain ⟨s,rfl,rfl,hsz⟩:=DataW.trod_string UN hx;refine ⟨⟨.str s.data.toList,by simp [zf,si,hu],?_,λι=>by simp [zL]⟩,rfl⟩;simp only [WD,decide_eq_true_eq];exact hw _ (by simp [DataW.weights])
   ·rename_i m e;simp only at h;obtain ⟨xs,m',hm,rfl,hl,hlen,hf⟩:=DataW.trod_array UN hx;obtain rfl:m'=n:=O_;simp only [DataW.weights,UN] at hw;have one:∀ i,(hi:i<m)->MG P M e ((cs.drop (i*P.cellsOf e)).take (P.cellsOf e))/\(xs[i]'O_).2=[]:=by
     intro i hi;have e1:=hf i hi;rw [List.getElem?_eq_getElem O_] at e1;refine kp K m' d e _ _ h e1 λn hn=>hw n ?_;exact mi (i:=i) (by rw [List.getElem?_map,List.getElem?_eq_getElem O_];rfl) n hn
    obtain ⟨l,k0,k1,k2,k3⟩:=eQ (P:=P) (M:=M) (e:=e) (cs:=cs) m 0 (by rw [hl,K.array t m e hu];simp) λi hi=>by
     have:=(one i hi).1;simpa using this
    refine ⟨⟨.agg l,by simp only [zf,hu,k0,k1,beq_self_eq_true,Bool.and_self],k2,λι=>by simp only [zL];simpa using k3 ι⟩,?_⟩;refine List.flatMap_eq_nil_iff.2 λy hy=>?_;obtain ⟨i,hi,rfl⟩:=List.getElem_of_mem hy;exact (one i O_).2
   ·rename_i fs;simp only at h;obtain ⟨xs,m,hm,rfl,hl,hlen,hf⟩:=DataW.trod_struct UN hx;obtain rfl:m=n:=O_;simp only [DataW.weights,UN] at hw;have key:∀ f∈fs.toList,∃ y,y∈xs/\DataW.trod enc P w base spare held m f.type ((cs.drop f.offset).take (P.cellsOf f.type))=some y/\∀ n∈y.1.weights P f.type,n<=M:=by
     intro f hfm;obtain ⟨i,hi,rfl⟩:=List.getElem_of_mem hfm;have vK:i<fs.size:=by simpa using hi
     have e1:=hf i fs[i] S_;have e2:xs[i]?=some xs[i]:=List.getElem?_eq_getElem O_;rw [e2] at e1;refine ⟨xs[i],List.getElem_mem _,e1,λn hn=>hw n ?_⟩;exact DataW.weights_mem_each (j:=i) (by rw [List.getElem?_map,Array.getElem?_toList,Array.getElem?_eq_getElem O_];rfl) (by rw [List.getElem?_map,e2];rfl) n hn
    have ih:∀ f∈fs.toList,MG P M f.type ((cs.drop f.offset).take (P.cellsOf f.type)):=by
     intro f hfm;obtain ⟨y,_,h1,h2⟩:=key f hfm;exact (kp K m d f.type _ y (List.all_eq_true.1 h f hfm) h1 h2).1
    have zdc:=(K.struct t fs hu).1;obtain ⟨l,k1,k2,k3⟩:=iM fs.toList 0 (K.z4l t fs hu) (by rw [hl,zdc];simp) ih;refine ⟨⟨.agg l,by simp only [zf,hu];exact k1,k2,λι=>by simp only [zL];simpa using k3 ι⟩,?_⟩;have:∀ y∈xs,y.2=[]:=by
     intro y hy;obtain ⟨i,hi,rfl⟩:=List.getElem_of_mem hy;have e1:=hf i fs[i] S_;rw [List.getElem?_eq_getElem hi] at e1;have hfm:fs[i]∈fs.toList:=S_;refine (kp K m d _ _ _ (List.all_eq_true.1 h _ hfm) e1 λn hn=>hw n ?_).2;exact DataW.weights_mem_each (j:=i) (by rw [List.getElem?_map,Array.getElem?_toList,Array.getElem?_eq_getElem O_];rfl) (by rw [List.getElem?_map,List.getElem?_eq_getElem hi];rfl) n hn
    exact List.flatMap_eq_nil_iff.2 this
end
end
section
open Go Go.RowKit
variable {P:Program}
def z0I (P:Program) (t:TypeId):Option (List TypeId) :=
 match ul P t with
 | some (.struct fs)=>some (fs.toList.map (·.type))
 | _=>none
def AK (P:Program) (t:TypeId):Option (Nat × TypeId) :=
 match ul P t with
 | some (.array n e)=>some (n,e)
 | _=>none
def RK (P:Program) (t:TypeId):Option IntKind :=
 match ul P t with
 | some (.int k)=>some k
 | _=>none
def z21 (P:Program) (t:TypeId):Bool:=match ul P t with | some .bool=>true | _=>false
theorem z0S {t:TypeId} {ts:List TypeId} {v:V} (ht:z0I P t=some ts) (h:zf P v t=true):∃ l,v=.agg l/\yQ P l ts=true:=by
 unfold z0I at ht;split at ht
 ·rename_i fs hu;simp only [Option.some.injEq] at ht;subst ht;cases v <;> simp only [zf,si,hu] at h <;> first | (cases h;done) | exact ⟨_,rfl,h⟩
 ·cases ht
theorem Cs {t e:TypeId} {n:Nat} {v:V} (ht:AK P t=some (n,e)) (h:zf P v t=true):∃ l,v=.agg l/\l.length=n/\zF P l e=true:=by
 unfold AK at ht;split at ht
 ·rename_i m e' hu;simp only [Option.some.injEq,Prod.mk.injEq] at ht;obtain ⟨rfl,rfl⟩:=ht;cases v <;> simp only [zf,si,hu] at h <;> first | (cases h;done) | skip
  simp only [Bool.and_eq_true,beq_iff_eq] at h;exact ⟨_,rfl,h.1,h.2⟩
 ·cases ht
theorem CQ {t:TypeId} {k:IntKind} {v:V} (ht:RK P t=some k) (h:zf P v t=true):∃ n,v=.int k n:=by
 unfold RK at ht;split at ht
 ·rename_i k' hu;simp only [Option.some.injEq] at ht;subst ht;cases v <;> simp only [zf,si,hu] at h <;> first | (cases h;done) | skip
  simp only [decide_eq_true_eq] at h;subst h;exact ⟨_,rfl⟩
 ·cases ht
theorem z2X {t:TypeId} {v:V} (ht:z21 P t=true) (h:zf P v t=true):∃ b,v=.bool b:=by
 unfold z21 at ht;split at ht
 ·rename_i hu;cases v <;> simp only [zf,si,hu] at h <;> first | (cases h;done) | exact ⟨_,rfl⟩
 ·cases ht
theorem C6 {t:TypeId} {ts:List TypeId} {l:List V} (h:yQ P l (t :: ts)=true):∃ v vs,l=v :: vs/\zf P v t=true/\yQ P vs ts=true:=by
 cases l with
 | nil=>simp [yQ] at h
 | cons v vs=>simp only [yQ,Bool.and_eq_true] at h;exact ⟨v,vs,rfl,h.1,h.2⟩
theorem z4X {l:List V} (h:yQ P l []=true):l=[]:=by
 cases l with
 | nil=>rfl
 | cons v vs=>simp [yQ] at h
theorem VT {e:TypeId} {k:IntKind} {M:Nat} (ht:RK P e=some k):∀ {l:List V},zF P l e=true->hG M l=true->∃ ns:List Int,l=ns.map (V.int k)/\∀ n∈ns,(Lit.int k n).wf=true
 | [],_,_=>⟨[],rfl,S_⟩
 | v :: l,h,hg=>by
  simp only [zF,Bool.and_eq_true] at h;simp only [hG,Bool.and_eq_true] at hg;obtain ⟨n,rfl⟩:=CQ ht h.1;obtain ⟨ns,rfl,hn⟩:=VT ht h.2 hg.2;refine ⟨n :: ns,rfl,λx hx=>?_⟩;rcases List.mem_cons.1 hx with rfl | hx
  ·exact hg.1
  ·exact hn x hx
theorem wf_u8 {n:Int} (h:(Lit.int .u8 n).wf=true):0<=n/\n<256:=by
 simp [Lit.wf,IntKind.min,IntKind.max,IntKind.signed,IntKind.bits] at h;omega
end
end Go.Ab
end
