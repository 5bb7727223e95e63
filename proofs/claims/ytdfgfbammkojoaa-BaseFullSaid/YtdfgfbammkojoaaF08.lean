import Derived.Test.YtdfgfbammkojoaaF05
import Derived.OpenShut
import Derived.SizedLaws
set_option linter.unusedVariables false
set_option linter.unusedSimpArgs false
namespace Go.Ab
open Go Go.RowKit Go.ChangeShapes
variable {P:Program}
def flatTy (P:Program):Nat→TypeId→Bool
 | 0,_=>false
 | d + 1,t=>match ul P t with
   | some .bool=>true
   | some (.int _)=>true
   | some .string=>true
   | some (.struct fs)=>fs.toList.all fun f=>flatTy P d f.type
   | some (.array _ e)=>flatTy P d e
   | _=>false
mutual
def good (M:Nat):V→Bool
 | .bool _=>true
 | .int k n=>(Lit.int k n).wf
 | .str s=>decide (s.length≤M)
 | .agg l=>goods M l
 | _=>false
def goods (M:Nat):List V→Bool
 | []=>true
 | v :: l=>good M v && goods M l
end
section
variable {H:Type} {enc:TypeId × Value→H} {w w':World} {base base':Nat} {spare spare':Nat→Bool} {held held':Bool}
def Tree (P:Program) (M:Nat) (t:TypeId) (cs:List Value):Prop:=∃ v,hasShape P v t=true∧good M v=true∧∀ ι,relC P ι v cs
def Trees (P:Program) (M:Nat) (ts:List TypeId) (cs:List Value):Prop:=∃ l,shapes P l ts=true∧goods M l=true∧∀ ι,relCs P ι l cs
def TreesAll (P:Program) (M:Nat) (e:TypeId) (n:Nat) (cs:List Value):Prop:=∃ l,l.length=n∧shapesAll P l e=true∧goods M l=true∧∀ ι,relCs P ι l cs
theorem trees_fields {M:Nat} {cs:List Value}:∀ (fs:List Field) (o:Nat),offsOk P fs o=true→cs.length=o + (fs.map fun f=>P.cellsOf f.type).sum →
   (∀ f∈fs,Tree P M f.type ((cs.drop f.offset).take (P.cellsOf f.type)))→Trees P M (fs.map (·.type)) (cs.drop o)
 | [],o,_,hl,_=>⟨[],rfl,rfl,fun ι=>by simp only [relCs];simp at hl;rw [List.drop_eq_nil_of_le (by omega)]⟩
 | f :: fs,o,ho,hl,h=>by
   simp only [offsOk,Bool.and_eq_true,beq_iff_eq] at ho
   simp only [List.map_cons,List.sum_cons] at hl
   obtain ⟨v,h1,h2,h3⟩:=h f (by simp)
   obtain ⟨l,k1,k2,k3⟩:=trees_fields fs (o + P.cellsOf f.type) ho.2 (by omega) fun g hg=>h g (by simp [hg])
   refine ⟨v :: l,by simp only [List.map_cons,shapes,h1,k1,Bool.and_self],by simp only [goods,h2,k2,Bool.and_self],fun ι=>?_⟩
   have:=relCs_cons (h3 ι) (k3 ι)
   rw [ho.1,← List.drop_drop,List.take_append_drop] at this
   exact this
theorem trees_items {M:Nat} {e:TypeId} {cs:List Value}:∀ (n k:Nat),cs.length=(k + n) * P.cellsOf e→(∀ i,i < n→Tree P M e ((cs.drop ((k + i) * P.cellsOf e)).take (P.cellsOf e)))→TreesAll P M e n (cs.drop (k * P.cellsOf e))
 | 0,k,hl,_=>⟨[],rfl,rfl,rfl,fun ι=>by simp only [relCs];rw [List.drop_eq_nil_of_le (by rw [hl];simp)]⟩
 | n + 1,k,hl,h=>by
   obtain ⟨v,h1,h2,h3⟩:=h 0 (by omega)
   obtain ⟨l,k0,k1,k2,k3⟩:=trees_items n (k + 1) (by rw [hl];congr 1;omega) fun i hi=>by
     have:=h (i + 1) (by omega)
     rw [show k + (i + 1)=k + 1 + i by omega] at this
     exact this
   refine ⟨v :: l,by simp [k0],by simp only [shapesAll,h1,k1,Bool.and_self],by simp only [goods,h2,k2,Bool.and_self],fun ι=>?_⟩
   have:=relCs_cons (h3 ι) (k3 ι)
   rw [Nat.add_zero,Nat.add_mul,Nat.one_mul,← List.drop_drop,List.take_append_drop] at this
   exact this
theorem weights_all_mem {e:TypeId}:∀ {ds:List (DataW H)} {i:Nat} {d:DataW H},ds[i]?=some d→∀ n∈d.weights P e,n∈DataW.weightsAll P e ds
 | [],i,d,h,n,hn=>by simp at h
 | d0 :: ds,0,d,h,n,hn=>by
   simp only [List.getElem?_cons_zero,Option.some.injEq] at h
   subst h
   simp only [DataW.weightsAll,List.mem_append];exact .inl hn
 | d0 :: ds,i + 1,d,h,n,hn=>by
   simp only [DataW.weightsAll,List.mem_append];exact .inr (weights_all_mem (by simpa using h) n hn)
theorem trod_tree (K:LayOK P) {M:Nat}:∀ (fuel d:Nat) (t:TypeId) (cs:List Value) (x:DataW H × List MemPlace),flatTy P d t=true→DataW.trod enc P w base spare held fuel t cs=some x →
   (∀ n∈x.1.weights P t,n≤M)→Tree P M t cs∧x.2=[]
 | 0,_,_,_,_,_,h,_=>by simp [DataW.trod] at h
 | n + 1,0,t,cs,x,h,_,_=>by simp [flatTy] at h
 | n + 1,d + 1,t,cs,x,h,hx,hw=>by
   simp only [flatTy] at h
   cases hu:ul P t with
   | none=>rw [hu] at h;cases h
   | some dd =>
     rw [hu] at h
     have hu':=ul_some hu
     cases dd <;> first | (cases h;done) | skip
     · obtain ⟨b,rfl,rfl⟩:=DataW.trod_bool hu' hx
       exact ⟨⟨.bool b,by simp [hasShape,leafT,hu],rfl,fun ι=>by simp [relC]⟩,rfl⟩
     · obtain ⟨m,rfl,rfl,hwf⟩:=DataW.trod_int hu' hx
       exact ⟨⟨.int _ m,by simp [hasShape,leafT,hu],hwf,fun ι=>by simp [relC]⟩,rfl⟩
     · obtain ⟨s,rfl,rfl,hsz⟩:=DataW.trod_string hu' hx
       refine ⟨⟨.str s.data.toList,by simp [hasShape,leafT,hu],?_,fun ι=>by simp [relC]⟩,rfl⟩
       simp only [good,decide_eq_true_eq]
       exact hw _ (by simp [DataW.weights])
     · rename_i m e
       simp only at h
       obtain ⟨xs,m',hm,rfl,hl,hlen,hf⟩:=DataW.trod_array hu' hx
       obtain rfl:m'=n:=by omega
       simp only [DataW.weights,hu'] at hw
       have one:∀ i,(hi:i < m)→Tree P M e ((cs.drop (i * P.cellsOf e)).take (P.cellsOf e))∧(xs[i]'(by omega)).2=[]:=by
         intro i hi
         have e1:=hf i hi
         rw [List.getElem?_eq_getElem (by omega)] at e1
         refine trod_tree K m' d e _ _ h e1 fun n hn=>hw n ?_
         exact weights_all_mem (i:=i) (by rw [List.getElem?_map,List.getElem?_eq_getElem (by omega)];rfl) n hn
       obtain ⟨l,k0,k1,k2,k3⟩:=trees_items (P:=P) (M:=M) (e:=e) (cs:=cs) m 0 (by rw [hl,K.array t m e hu];simp) fun i hi=>by
         have:=(one i hi).1
         simpa using this
       refine ⟨⟨.agg l,by simp only [hasShape,hu,k0,k1,beq_self_eq_true,Bool.and_self],k2,fun ι=>by simp only [relC];simpa using k3 ι⟩,?_⟩
       refine List.flatMap_eq_nil_iff.2 fun y hy=>?_
       obtain ⟨i,hi,rfl⟩:=List.getElem_of_mem hy
       exact (one i (by omega)).2
     · rename_i fs
       simp only at h
       obtain ⟨xs,m,hm,rfl,hl,hlen,hf⟩:=DataW.trod_struct hu' hx
       obtain rfl:m=n:=by omega
       simp only [DataW.weights,hu'] at hw
       have key:∀ f∈fs.toList,∃ y,y∈xs∧DataW.trod enc P w base spare held m f.type ((cs.drop f.offset).take (P.cellsOf f.type))=some y∧∀ n∈y.1.weights P f.type,n≤M:=by
         intro f hfm
         obtain ⟨i,hi,rfl⟩:=List.getElem_of_mem hfm
         have hi':i < fs.size:=by simpa using hi
         have e1:=hf i fs[i] (by simp)
         have e2:xs[i]?=some xs[i]:=List.getElem?_eq_getElem (by omega)
         rw [e2] at e1
         refine ⟨xs[i],List.getElem_mem _,e1,fun n hn=>hw n ?_⟩
         exact DataW.weights_mem_each (j:=i) (by rw [List.getElem?_map,Array.getElem?_toList,Array.getElem?_eq_getElem (by omega)];rfl) (by rw [List.getElem?_map,e2];rfl) n hn
       have ih:∀ f∈fs.toList,Tree P M f.type ((cs.drop f.offset).take (P.cellsOf f.type)):=by
         intro f hfm
         obtain ⟨y,_,h1,h2⟩:=key f hfm
         exact (trod_tree K m d f.type _ y (List.all_eq_true.1 h f hfm) h1 h2).1
       have hsum:=(K.struct t fs hu).1
       obtain ⟨l,k1,k2,k3⟩:=trees_fields fs.toList 0 (K.offs t fs hu) (by rw [hl,hsum];simp) ih
       refine ⟨⟨.agg l,by simp only [hasShape,hu];exact k1,k2,fun ι=>by simp only [relC];simpa using k3 ι⟩,?_⟩
       have:∀ y∈xs,y.2=[]:=by
         intro y hy
         obtain ⟨i,hi,rfl⟩:=List.getElem_of_mem hy
         have e1:=hf i fs[i] (by simp)
         rw [List.getElem?_eq_getElem hi] at e1
         have hfm:fs[i]∈fs.toList:=by simp
         refine (trod_tree K m d _ _ _ (List.all_eq_true.1 h _ hfm) e1 fun n hn=>hw n ?_).2
         exact DataW.weights_mem_each (j:=i) (by rw [List.getElem?_map,Array.getElem?_toList,Array.getElem?_eq_getElem (by omega)];rfl) (by rw [List.getElem?_map,List.getElem?_eq_getElem hi];rfl) n hn
       exact List.flatMap_eq_nil_iff.2 this
end
end Go.Ab
namespace Go.Ab
open Go Go.RowKit
variable {P:Program}
def structTys (P:Program) (t:TypeId):Option (List TypeId) :=
 match ul P t with
 | some (.struct fs)=>some (fs.toList.map (·.type))
 | _=>none
def arrTy (P:Program) (t:TypeId):Option (Nat × TypeId) :=
 match ul P t with
 | some (.array n e)=>some (n,e)
 | _=>none
def kindT (P:Program) (t:TypeId):Option IntKind :=
 match ul P t with
 | some (.int k)=>some k
 | _=>none
def boolT (P:Program) (t:TypeId):Bool:=match ul P t with | some .bool=>true | _=>false
theorem inv_struct {t:TypeId} {ts:List TypeId} {v:V} (ht:structTys P t=some ts) (h:hasShape P v t=true):∃ l,v=.agg l∧shapes P l ts=true:=by
 unfold structTys at ht
 split at ht
 · rename_i fs hu
   simp only [Option.some.injEq] at ht
   subst ht
   cases v <;> simp only [hasShape,leafT,hu] at h <;> first | (cases h;done) | exact ⟨_,rfl,h⟩
 · cases ht
theorem inv_arr {t e:TypeId} {n:Nat} {v:V} (ht:arrTy P t=some (n,e)) (h:hasShape P v t=true):∃ l,v=.agg l∧l.length=n∧shapesAll P l e=true:=by
 unfold arrTy at ht
 split at ht
 · rename_i m e' hu
   simp only [Option.some.injEq,Prod.mk.injEq] at ht
   obtain ⟨rfl,rfl⟩:=ht
   cases v <;> simp only [hasShape,leafT,hu] at h <;> first | (cases h;done) | skip
   simp only [Bool.and_eq_true,beq_iff_eq] at h
   exact ⟨_,rfl,h.1,h.2⟩
 · cases ht
theorem inv_int {t:TypeId} {k:IntKind} {v:V} (ht:kindT P t=some k) (h:hasShape P v t=true):∃ n,v=.int k n:=by
 unfold kindT at ht
 split at ht
 · rename_i k' hu
   simp only [Option.some.injEq] at ht
   subst ht
   cases v <;> simp only [hasShape,leafT,hu] at h <;> first | (cases h;done) | skip
   simp only [decide_eq_true_eq] at h
   subst h
   exact ⟨_,rfl⟩
 · cases ht
theorem inv_bool {t:TypeId} {v:V} (ht:boolT P t=true) (h:hasShape P v t=true):∃ b,v=.bool b:=by
 unfold boolT at ht
 split at ht
 · rename_i hu
   cases v <;> simp only [hasShape,leafT,hu] at h <;> first | (cases h;done) | exact ⟨_,rfl⟩
 · cases ht
theorem inv_str {t:TypeId} {v:V} (ht:(match ul P t with | some .string=>true | _=>false)=true) (h:hasShape P v t=true):∃ s,v=.str s:=by
 split at ht
 · rename_i hu
   cases v <;> simp only [hasShape,leafT,hu] at h <;> first | (cases h;done) | exact ⟨_,rfl⟩
 · cases ht
theorem inv_cons {t:TypeId} {ts:List TypeId} {l:List V} (h:shapes P l (t :: ts)=true):∃ v vs,l=v :: vs∧hasShape P v t=true∧shapes P vs ts=true:=by
 cases l with
 | nil=>simp [shapes] at h
 | cons v vs=>simp only [shapes,Bool.and_eq_true] at h;exact ⟨v,vs,rfl,h.1,h.2⟩
theorem inv_nil {l:List V} (h:shapes P l []=true):l=[]:=by
 cases l with
 | nil=>rfl
 | cons v vs=>simp [shapes] at h
theorem inv_ints {e:TypeId} {k:IntKind} {M:Nat} (ht:kindT P e=some k):∀ {l:List V},shapesAll P l e=true→goods M l=true→∃ ns:List Int,l=ns.map (V.int k)∧∀ n∈ns,(Lit.int k n).wf=true
 | [],_,_=>⟨[],rfl,by simp⟩
 | v :: l,h,hg=>by
   simp only [shapesAll,Bool.and_eq_true] at h
   simp only [goods,Bool.and_eq_true] at hg
   obtain ⟨n,rfl⟩:=inv_int ht h.1
   obtain ⟨ns,rfl,hn⟩:=inv_ints ht h.2 hg.2
   refine ⟨n :: ns,rfl,fun x hx=>?_⟩
   rcases List.mem_cons.1 hx with rfl | hx
   · exact hg.1
   · exact hn x hx
theorem wf_u8 {n:Int} (h:(Lit.int .u8 n).wf=true):0≤n∧n < 256:=by
 simp [Lit.wf,IntKind.min,IntKind.max,IntKind.signed,IntKind.bits] at h;omega
theorem wf_u16 {n:Int} (h:(Lit.int .u16 n).wf=true):0≤n∧n < 65536:=by
 simp [Lit.wf,IntKind.min,IntKind.max,IntKind.signed,IntKind.bits] at h;omega
theorem wf_u32 {n:Int} (h:(Lit.int .u32 n).wf=true):0≤n∧n < 4294967296:=by
 simp [Lit.wf,IntKind.min,IntKind.max,IntKind.signed,IntKind.bits] at h;omega
end Go.Ab
