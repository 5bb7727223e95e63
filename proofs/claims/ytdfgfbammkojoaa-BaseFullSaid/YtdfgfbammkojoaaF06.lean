import Derived.Test.YtdfgfbammkojoaaF05
import Derived.Recover
import Derived.Test.YtdfgfbammkojoaaF04
set_option linter.unusedVariables false
set_option linter.unusedSimpArgs false
namespace Go.Ab
open Go Go.RowKit
variable {P:Program} {ι:Names} {W:World} {B:Base} {h:AH} {D:List AD}
def PostD (P:Program) (B:Base) (ι:Names) (N:Nat) (Q:AExit→List AD→Env→AH→Prop) (x:Exit) (a:Act) (w:World):Prop :=
 ∃ ι' h' e' ax ds,Names.le ι ι'∧Fits P B ι' h' w∧relE P ι' N ds e' a∧relX P ι' ax x∧Q ax ds e' h'
theorem PostD.le {ι':Names} {N:Nat} {Q:AExit→List AD→Env→AH→Prop} {x:Exit} {a:Act} {w:World} (hl:Names.le ι ι') (p:PostD P B ι' N Q x a w):PostD P B ι N Q x a w:=by
 obtain ⟨ι2,h',e',ax,ds,h1,h2⟩:=p;exact ⟨ι2,h',e',ax,ds,Names.le_trans hl h1,h2⟩
theorem PostD.of {N:Nat} {Q:AExit→List AD→Env→AH→Prop} {x:Exit} {a:Act} {w:World} (p:Post P B ι N D (fun x e h=>Q x D e h) x a w):PostD P B ι N Q x a w:=by
 obtain ⟨ι2,h',e',ax,h1,h2,h3,h4,h5⟩:=p;exact ⟨ι2,h',e',ax,D,h1,h2,h3,h4,h5⟩
abbrev seqD (k:List AD→Env→AH→Prop) (Q:AExit→List AD→Env→AH→Prop) (x:AExit) (ds:List AD) (e:Env) (h:AH):Prop :=
 match x with
 | .normal=>k ds e h
 | x=>Q x ds e h
abbrev blockD (id:Nat) (Q:AExit→List AD→Env→AH→Prop) (x:AExit) (ds:List AD) (e:Env) (h:AH):Prop :=
 match x with
 | .exit i=>match Nat.beq i id with
   | true=>Q .normal ds e h
   | false=>Q (.exit i) ds e h
 | x=>Q x ds e h
def layBy (e:Env) (c:Call) (h:AH) (ds:List AD) (Q:List AD→Env→AH→Prop):Prop :=
 match deferV e c with
 | some ad=>Q (ad :: ds) e h
 | none=>False
def vcRegDf (P:Program) (N:Nat) (ops:Array Oper) (draw:Bool) (c:Call) (k:KT) (Q:AExit→List AD→Env→AH→Prop) (ds:List AD) (e:Env) (h:AH):Prop :=
 bsel draw (bsel (drawOk P ops) (vcDrawDf P N ops c h k.ks (fun ad e h=>Q .normal (ad :: ds) e h) e) False)
   (bsel ((headOps ops).all fun o=>o.guard.isNone) (vcRun P N (headOps ops) (fun e h=>layBy e c h ds (Q .normal)) (fun x e h=>Q x ds e h) e h) False)
def vcD (P:Program) (N:Nat):Code→KT→(AExit→List AD→Env→AH→Prop)→List AD→Env→AH→Prop
 | .region id ops draw,k,Q,ds,e,h=>match lastDefer ops with
   | some c=>vcRegDf P N ops draw c k Q ds e h
   | none=>vc P N (.region id ops draw) k (fun x e h=>Q x ds e h) e h
 | .seq a b,k,Q,ds,e,h=>vcD P N a k.a (seqD (fun ds e h=>k.fin (vcD P N b k.b Q ds (k.cut e) h)) Q) ds e h
 | .cond c a b,k,Q,ds,e,h=>vcIf (opnd e c) (vcD P N a k.a Q ds e h) (vcD P N b k.b Q ds e h)
 | .block id c,k,Q,ds,e,h=>vcD P N c k.a (blockD id Q) ds e h
 | c,k,Q,ds,e,h=>vc P N c k (fun x e h=>Q x ds e h) e h
theorem postD_seq {N:Nat} {k:List AD→Env→AH→Prop} {Q:AExit→List AD→Env→AH→Prop} {next:Act→World→Prop} {x:Exit} {a:Act} {w:World}
   (p:PostD P B ι N (seqD k Q) x a w) (hn:∀ ι' h' e' ds a w,Names.le ι ι'→Fits P B ι' h' w→relE P ι' N ds e' a→k ds e' h'→next a w):Exit.then next (PostD P B ι N Q) x a w:=by
 obtain ⟨ι',h',e',ax,ds,h1,h2,h3,h4,h5⟩:=p
 cases x with
 | normal=>obtain rfl:=relX_normal h4;exact hn ι' h' e' ds a w h1 h2 h3 h5
 | _ =>
   have:=relX_other h4 (by simp)
   refine ⟨ι',h',e',ax,ds,h1,h2,h3,h4,?_⟩
   cases ax <;> first | exact absurd rfl this | exact h5
theorem postD_block {N id:Nat} {Q:AExit→List AD→Env→AH→Prop} {x:Exit} {a:Act} {w:World} (p:PostD P B ι N (blockD id Q) x a w):Exit.inBlock id (PostD P B ι N Q) x a w:=by
 obtain ⟨ι',h',e',ax,ds,h1,h2,h3,h4,h5⟩:=p
 cases x with
 | exit i =>
   obtain rfl:=relX_exit h4
   simp only [blockD] at h5
   simp only [Exit.inBlock]
   cases hb:Nat.beq i id with
   | true=>rw [hb] at h5;rw [if_pos (Nat.eq_of_beq_eq_true hb)];exact ⟨ι',h',e',.normal,ds,h1,h2,h3,trivial,h5⟩
   | false=>rw [hb] at h5;rw [if_neg (Nat.ne_of_beq_eq_false hb)];exact ⟨ι',h',e',.exit i,ds,h1,h2,h3,rfl,h5⟩
 | normal=>obtain rfl:=relX_normal h4;exact ⟨ι',h',e',.normal,ds,h1,h2,h3,h4,h5⟩
 | _ =>
   refine ⟨ι',h',e',ax,ds,h1,h2,h3,h4,?_⟩
   cases ax <;> first | exact h5 | exact h4.elim
theorem vcRunG_ok (K:Ok P) {N:Nat} {ops:Array Oper} {Q:AExit→Env→AH→Prop} {k:Env→AH→Prop} {rest:List Oper} {ι0:Names} {R:Exit→Act→World→Prop} (hR:∀ x a w,Post P B ι0 N D Q x a w→R x a w)
   (hk:∀ (ι':Names) (h':AH) (e':Env) (a':Act) (w':World),Names.le ι0 ι'→Fits P B ι' h' w'→relE P ι' N D e' a'→k e' h'→wpList P ops R rest a' w') :
   ∀ (l:List Oper) {ι:Names} {h:AH} {W:World} {e:Env} {a:Act},(∀ o∈l,o.guard=none)→Names.le ι0 ι→Fits P B ι h W→relE P ι N D e a→vcRun P N l k Q e h→wpList P ops R (l++rest) a W
 | [],ι,h,W,e,a,_,h0,F,r,hv=>hk ι h e a W h0 F r hv
 | o :: l,ι,h,W,e,a,hg,h0,F,r,hv=>by
   simp only [vcRun] at hv
   simp only [List.cons_append,wpList]
   have hw:Region.wanted o (yielded ops a.tmps)=true:=by unfold Region.wanted;rw [hg o (by simp)]
   rw [if_pos hw]
   left
   refine wp_upto (fun _ _ _ p=>hR _ _ _ (Post.le h0 p)) (vcOp_ok K F r hv ?_)
   intro ι' h' v x w' hl F' hr hv'
   exact vcRunG_ok K hR hk l (fun o ho=>hg o (by simp [ho])) (Names.le_trans h0 hl) F' (relE_put (relE_le hl r) hr) hv'
theorem headOps_app {ops:Array Oper} {o:Oper} (h:ops.back?=some o):ops.toList=headOps ops++[o]:=by
 unfold headOps
 have h2:ops.toList.getLast?=some o:=by rw [← h];simp [Array.back?,List.getLast?_eq_getElem?]
 obtain ⟨ys,hy⟩:=List.getLast?_eq_some_iff.1 h2
 rw [hy];simp
theorem vcRegDf_ok (K:Ok P) {N:Nat} {ops:Array Oper} {draw:Bool} {c:Call} {k:KT} {id:Nat} {Q:AExit→List AD→Env→AH→Prop} {e:Env} {a:Act} (hl:lastDefer ops=some c) (F:Fits P B ι h W) (r:relE P ι N D e a)
   (hv:vcRegDf P N ops draw c k Q D e h):(Code.region id ops draw).wp P (PostD P B ι N Q) a W:=by
 unfold vcRegDf at hv
 cases draw with
 | true =>
   try simp only [bsel_true] at hv
   cases hd:drawOk P ops with
   | false=>rw [hd] at hv;exact hv.elim
   | true =>
     rw [hd] at hv
     try simp only [bsel_true] at hv
     obtain ⟨ad,hw⟩:=vcDrawDf_ok (id:=id) K hd hl F r hv
     refine wp_mono hw ?_
     rintro x a w ⟨ι',h',e',ax,h1,h2,h3,h4,rfl,h6⟩
     exact ⟨ι',h',e',.normal,_,h1,h2,h3,h4,h6⟩
 | false =>
   try simp only [bsel_false] at hv
   cases hg:(headOps ops).all fun o=>o.guard.isNone with
   | false=>rw [hg] at hv;exact hv.elim
   | true =>
     rw [hg] at hv
     try simp only [bsel_true] at hv
     obtain ⟨o,ho,hop,hgo,hdst⟩:∃ o,ops.back?=some o∧o.op=.defer c∧o.guard=none∧o.dst=none:=by
       unfold lastDefer at hl
       split at hl
       · rename_i c' _ _ _ hb
         cases hl
         exact ⟨_,hb,rfl,rfl,rfl⟩
       · cases hl
     refine wp_region_list ?_
     rw [headOps_app ho]
     refine vcRunG_ok (D:=D) (Q:=fun x e h=>Q x D e h) (ι0:=ι) K (fun x a w p=>PostD.of p) ?_ (headOps ops) (fun o ho=>by have:=List.all_eq_true.1 hg o ho;simpa using this) (Names.le_refl _) F r hv
     intro ι' h' e' a' w' g1 g2 g3 g4
     unfold layBy at g4
     split at g4
     · rename_i ad had
       obtain ⟨d,d1,d2⟩:=defer_run (W:=w') g3 hop had
       simp only [wpList]
       rw [if_pos (by unfold Region.wanted;rw [hgo])]
       left
       unfold Oper.wp
       rw [d1]
       show PostD P B ι N Q .normal ({ a' with defers:=d :: a'.defers }.put o.dst undef) w'
       rw [hdst]
       exact ⟨ι',h',e',.normal,_,g1,g2,d2,trivial,g4⟩
     · exact g4.elim
theorem vcD_ok (K:Ok P) {N:Nat}:∀ (c:Code) (k:KT) (Q:AExit→List AD→Env→AH→Prop) (ds:List AD) (ι:Names) (h:AH) (W:World) (e:Env) (a:Act),Fits P B ι h W→relE P ι N ds e a→vcD P N c k Q ds e h→c.wp P (PostD P B ι N Q) a W
 | .region id ops draw,k,Q,ds,ι,h,W,e,a,F,r,hv=>by
   simp only [vcD] at hv
   split at hv
   · rename_i c hl;exact vcRegDf_ok K hl F r hv
   · exact wp_mono (vc_ok K _ k _ ι h W e a F r hv) fun _ _ _ p=>PostD.of p
 | .seq x y,k,Q,ds,ι,h,W,e,a,F,r,hv=>by
   simp only [vcD] at hv
   refine wp_seq (wp_mono (vcD_ok K x k.a _ ds ι h W e a F r hv) ?_)
   intro x' a' w' p
   refine postD_seq p ?_
   intro ι' h' e' ds' a w hl F' r' hk
   exact wp_mono (vcD_ok K y k.b Q ds' ι' h' w _ a F' (relE_cut _ _ _ _ r') (KT.fin_of hk)) fun _ _ _ p=>PostD.le hl p
 | .cond c x y,k,Q,ds,ι,h,W,e,a,F,r,hv=>by
   simp only [vcD] at hv
   exact vcIf_ok r hv (fun hp=>vcD_ok K x k.a Q ds ι h W e a F r hp) (fun hq=>vcD_ok K y k.b Q ds ι h W e a F r hq)
 | .block id c,k,Q,ds,ι,h,W,e,a,F,r,hv=>by
   simp only [vcD] at hv
   exact wp_block (wp_mono (vcD_ok K c k.a _ ds ι h W e a F r hv) fun x a w p=>postD_block p)
 | .skip,k,Q,ds,ι,h,W,e,a,F,r,hv=>wp_mono (vc_ok K _ k (fun x e h=>Q x ds e h) ι h W e a F r hv) fun _ _ _ p=>PostD.of p
 | .loop c,k,Q,ds,ι,h,W,e,a,F,r,hv=>wp_mono (vc_ok K _ k (fun x e h=>Q x ds e h) ι h W e a F r hv) fun _ _ _ p=>PostD.of p
 | .exit id,k,Q,ds,ι,h,W,e,a,F,r,hv=>wp_mono (vc_ok K _ k (fun x e h=>Q x ds e h) ι h W e a F r hv) fun _ _ _ p=>PostD.of p
 | .ret,k,Q,ds,ι,h,W,e,a,F,r,hv=>wp_mono (vc_ok K _ k (fun x e h=>Q x ds e h) ι h W e a F r hv) fun _ _ _ p=>PostD.of p
 | .label l,k,Q,ds,ι,h,W,e,a,F,r,hv=>wp_mono (vc_ok K _ k (fun x e h=>Q x ds e h) ι h W e a F r hv) fun _ _ _ p=>PostD.of p
 | .scope c,k,Q,ds,ι,h,W,e,a,F,r,hv=>by simp only [vcD,vc] at hv
 | .goto l,k,Q,ds,ι,h,W,e,a,F,r,hv=>by simp only [vcD,vc] at hv
 | .rangeFunc _ _ _ _,k,Q,ds,ι,h,W,e,a,F,r,hv=>by simp only [vcD,vc] at hv
 | .refuse _,k,Q,ds,ι,h,W,e,a,F,r,hv=>by simp only [vcD,vc] at hv
def relMode (P:Program) (ι:Names):Option V→FrameMode→Prop
 | none,u=>u=.returning
 | some v,u=>∃ x,rel P ι v x∧u=.panicking [{ v:=x,recovered:=false }]
def ADC (P:Program) (k:FuncId) (l:List V) (m:Option V) (h:AH) (K:Option V→AH→Prop):Prop :=
 entersOk P k=true∧∀ (B:Base) (ι:Names) (W:World) (vs:List Value) (u:FrameMode),Fits P B ι h W→relL P ι l vs→relMode P ι m u→CallsD P k vs.toArray u W fun e u' w' =>
   match e with
   | .returned _=>∃ ι' h' m',Names.le ι ι'∧Fits P B ι' h' w'∧relMode P ι' m' (settle u')∧K m' h'
   | .panicked chain=>∃ ι' h' m',Names.le ι ι'∧Fits P B ι' h' w'∧relMode P ι' m' (raised u' chain)∧K m' h'
   | .outgrown=>False
theorem ADC.mono {k:FuncId} {l:List V} {m:Option V} {h:AH} {K K':Option V→AH→Prop} (c:ADC P k l m h K) (hm:∀ m h,K m h→K' m h):ADC P k l m h K' :=
 ⟨c.1,fun B ι W vs u F r hu=>(c.2 B ι W vs u F r hu).mono fun e u' w' hq=>by
   cases e with
   | returned v=>obtain ⟨ι',h',m',a,b,d,f⟩:=hq;exact ⟨ι',h',m',a,b,d,hm _ _ f⟩
   | panicked v=>obtain ⟨ι',h',m',a,b,d,f⟩:=hq;exact ⟨ι',h',m',a,b,d,hm _ _ f⟩
   | outgrown=>exact hq⟩
def slotsOf (e:Env):List ResultVar→List V
 | []=>[]
 | .tmp t :: rs=>e.get t :: slotsOf e rs
 | .cell a _ :: rs=>e.get a :: slotsOf e rs
def aResV (P:Program) (h:AH):List ResultVar→List V→Option (List V)
 | [],_=>some []
 | .tmp _ :: rs,v :: vs=>match aResV P h rs vs with
   | some l=>some (v :: l)
   | none=>none
 | .cell _ t :: rs,v :: vs=>match v with
   | .ptr (some p)=>match aLoad P h p t,aResV P h rs vs with
     | some v,some l=>some (v :: l)
     | _,_=>none
   | _=>none
 | _ :: _,[]=>none
theorem aResV_eq {e:Env} {h:AH}:∀ rs:List ResultVar,aResV P h rs (slotsOf e rs)=aRes P e h rs
 | []=>rfl
 | .tmp t :: rs=>by simp only [slotsOf,aResV,aRes,aResV_eq rs];rfl
 | .cell a t :: rs=>by simp only [slotsOf,aResV,aRes,aResV_eq rs];rfl
def aLeaves (P:Program) (rs:List ResultVar) (Q:AEnd→AH→Prop) (vs:List V):List AD→Option V→AH→Prop
 | [],none,h=>bindR (aResV P h rs vs) fun v=>Q (.ret v) h
 | [],some v,h=>Q (.panic v) h
 | (k,l) :: ds,m,h=>ADC P k l m h fun m' h'=>aLeaves P rs Q vs ds m' h'
def vcRetD (P:Program) (rs:List ResultVar) (Q:AEnd→AH→Prop):AExit→List AD→Env→AH→Prop
 | .normal,ds,e,h=>aLeaves P rs Q (slotsOf e rs) ds none h
 | .ret,ds,e,h=>aLeaves P rs Q (slotsOf e rs) ds none h
 | .panic v,ds,e,h=>aLeaves P rs Q (slotsOf e rs) ds (some v) h
 | _,_,_,_=>False
theorem adc_of {k:FuncId} {l:List V} {m:Option V} {h:AH} {K:Option V→AH→Prop} (he:entersOk P k=true) (c:ACallsD P k l h fun e h'=>∃ v,e=.ret v∧K m h'):ADC P k l m h K:=by
 refine ⟨he,fun B ι W vs u F r hu=>(c B ι W vs u F r).mono ?_⟩
 rintro e u' w' ⟨rfl,ι',h',ae,h1,h2,h3,v,rfl,h4⟩
 cases e with
 | returned x =>
   refine ⟨ι',h',m,h1,h2,?_,h4⟩
   cases m with
   | none=>simp only [relMode] at hu;subst hu;rfl
   | some v =>
     obtain ⟨y,hy,rfl⟩:=hu
     exact ⟨y,rel_le h1 hy,rfl⟩
 | panicked c=>exact h3.elim
 | outgrown=>exact h3.elim
theorem run_results (K:Ok P) {N:Nat} {e:Env} {a:Act} {fn:Func} {l:List V} (F:Fits P B ι h W) (r:relE P ι N D e a) (hl:aRes P e h fn.results.toList=some l) :
   ∃ v,(results fn a.tmps).run P W=.ok v W∧rel P ι (one l) v:=by
 obtain ⟨vs,g1,g2⟩:=aRes_ok K F r fn.results.toList l hl
 refine ⟨(if h:vs.toArray.size=1 then vs.toArray[0] else .tuple vs.toArray),?_,?_⟩
 · have hmap : (fn.results.mapM fun x => match x with
       | .tmp t=>pure (a.tmps.getD t undef)
       | .cell p t=>do loadVar t (← asAddr (a.tmps.getD p undef)):Sem (Array Value)).run P W=.ok vs.toArray W:=by
     rw [Array.mapM_eq_mapM_toList]
     simp only [Sem.run_map]
     exact Eq.trans (congrArg (fun r=>Result.andThen r _) g1) rfl
   unfold results
   rw [Sem.run_bind]
   refine Eq.trans (congrArg (fun r=>Result.andThen r _) hmap) ?_
   simp only [Result.andThen_ok,Sem.run_pure]
 · have hll:=relL_length g2
   by_cases h1:vs.toArray.size=1
   · rw [dif_pos h1]
     cases l with
     | nil=>simp at hll;simp [hll] at h1
     | cons v l =>
       cases l with
       | nil =>
         obtain ⟨y,ys,k1,k2,rfl⟩:=relL_cons_iff.1 g2
         simp only [relL] at k2;subst k2
         exact k1
       | cons v' l=>simp at h1;simp [h1] at hll
   · rw [dif_neg h1]
     have:one l=.tup l:=by
       cases l with
       | nil=>rfl
       | cons v l =>
         cases l with
         | nil=>simp at hll;simp [hll] at h1
         | cons _ _=>rfl
     rw [this]
     exact .inr ⟨rfl,by simp only [relC,Value.cells];exact ⟨vs,g2,rfl⟩⟩
theorem leaves_ok (K:Ok P) {N:Nat} {fn:Func} {Q:AEnd→AH→Prop} {e:Env} {ι0:Names}:∀ (ds:List AD) (m:Option V) {ι:Names} {h:AH} {W:World} {a:Act} (u:FrameMode),Names.le ι0 ι→Fits P B ι h W→relE P ι N ds e a→relMode P ι m u →
   aLeaves P fn.results.toList Q (slotsOf e fn.results.toList) ds m h→Leaves P fn a.tmps (fun e w'=>∃ ι' h' ae,Names.le ι0 ι'∧Fits P B ι' h' w'∧relEnd P ι' ae e∧Q ae h') a.defers u W
 | [],m,ι,h,W,a,u,h0,F,r,hu,hv=>by
   have hd:a.defers=[]:=r.2.1
   rw [hd]
   cases m with
   | none =>
     simp only [relMode] at hu;subst hu
     simp only [aLeaves] at hv
     obtain ⟨l,hl,hq⟩:=bindR_some hv
     rw [aResV_eq] at hl
     obtain ⟨v,g1,g2⟩:=run_results K F r hl
     exact ⟨v,g1,ι,h,.ret (one l),h0,F,g2,hq⟩
   | some v =>
     obtain ⟨x,hx,rfl⟩:=hu
     exact ⟨ι,h,.panic v,h0,F,⟨x,hx,rfl⟩,hv⟩
 | (k,l) :: ds,m,ι,h,W,a,u,h0,F,r,hu,hv=>by
   obtain ⟨d,rest,hd,hx,hr⟩:=r.2.1
   simp only [aLeaves] at hv
   obtain ⟨he,hc⟩:=hv
   obtain ⟨cap,ht,hl⟩:∃ cap,d.target=.fn (.func k) cap∧relL P ι l (d.args++cap).toList:=by
     rcases hx with h | ⟨hk,_⟩
     · exact h
     · exfalso
       unfold entersOk at he
       split at he
       · rename_i fn hf
         have:=(Array.getElem?_eq_some_iff.1 hf).1
         omega
       · cases he
   rw [hd]
   have hrun:u≠.run:=by
     cases m with
     | none=>simp only [relMode] at hu;subst hu;simp
     | some v=>obtain ⟨x,_,rfl⟩:=hu;simp
   refine ⟨hrun,.func k,cap,k,d.args++cap,ht,?_,?_⟩
   · rw [ht]
     show (callFunc k (d.args++cap)).run P W=_
     exact run_callFunc he _ W
   · have:=hc B ι W (d.args++cap).toList u F hl hu
     rw [Array.toArray_toList] at this
     refine this.mono ?_
     intro en u' w' hq
     have step:∀ (u2:FrameMode),(∃ ι' h' m',Names.le ι ι'∧Fits P B ι' h' w'∧relMode P ι' m' u2∧aLeaves P fn.results.toList Q (slotsOf e fn.results.toList) ds m' h') →
         Leaves P fn a.tmps (fun e w'=>∃ ι' h' ae,Names.le ι0 ι'∧Fits P B ι' h' w'∧relEnd P ι' ae e∧Q ae h') rest u2 w':=by
       rintro u2 ⟨ι',h',m',q1,q2,q3,q4⟩
       exact leaves_ok K ds m' (a:={ a with defers:=rest }) u2 (Names.le_trans h0 q1) q2 ⟨r.1,relDs_le q1 hr,fun t=>rel_le q1 (r.2.2 t)⟩ q3 q4
     cases en with
     | returned v=>exact step _ hq
     | panicked chain=>exact step _ hq
     | outgrown=>exact hq.elim
theorem initE {N0:Nat} {args:List V} {vs:List Value} {n:Nat} (hN:args.length + (n - args.length)=N0) (ra:relL P ι args vs) :
   relE P ι N0 [] (initEnv 0 args) { tmps:=vs.toArray++Array.replicate (n - vs.toArray.size) undef,defers:=[] }:=by
 subst hN
 have hlen:=relL_length ra
 refine ⟨by simp [hlen],rfl,fun t=>?_⟩
 rw [initEnv_get]
 simp only [Nat.zero_le,if_true,Nat.sub_zero]
 cases ht:args[t]? with
 | none=>exact .inl rfl
 | some v =>
   obtain ⟨x,h1,h2⟩:=relL_get ra t ht
   have hlt:t < vs.length:=by
     rcases Nat.lt_or_ge t vs.length with h | h
     · exact h
     · simp [List.getElem?_eq_none h] at h1
   have:(vs.toArray++Array.replicate (n - vs.toArray.size) undef).getD t undef=x:=by
     rw [Array.getD_eq_getD_getElem?,Array.getElem?_append_left (by simpa using hlt)]
     simp [h1]
   simp only [Option.getD_some]
   rw [this];exact h2
theorem acalls_vcD (K:Ok P) {f:FuncId} {fn:Func} {c:Code} (hf:P.funcs[f]?=some fn) (hb:fn.body=some c) (k:KT) {args:List V} {Q:AEnd→AH→Prop} (N:Nat) (rs:List ResultVar)
   (hN:args.length + (fn.ntmps - args.length)=N) (hr:fn.results.toList=rs) (hv:vcD P N c k (vcRetD P rs Q) [] (initEnv 0 args) h):ACalls P f args h Q:=by
 subst hr
 intro B ι W vs F ra
 refine calls_of_wp_defers hf hb (wp_mono (vcD_ok K c k _ [] ι h W _ _ F (initE hN ra) hv) ?_)
 rintro x a w ⟨ι',h',e',ax,ds,p1,p2,p3,p4,p5⟩
 cases x with
 | normal=>obtain rfl:=relX_normal p4;exact leaves_ok K ds none .returning p1 p2 p3 rfl p5
 | ret =>
   have:ax=.ret:=by cases ax <;> first | rfl | exact p4.elim
   subst this
   exact leaves_ok K ds none .returning p1 p2 p3 rfl p5
 | panic chain =>
   cases ax <;> first | exact p4.elim | skip
   rename_i v
   obtain ⟨x,hx,rfl⟩:=p4
   exact leaves_ok K ds (some v) (.panicking _) p1 p2 p3 ⟨x,hx,rfl⟩ p5
 | exit i=>cases ax <;> first | exact p4.elim | exact p5.elim
 | goto i=>cases ax <;> first | exact p4.elim | exact p5.elim
 | outgrown=>cases ax <;> exact p4.elim
def ctxD (P:Program) (N:Nat):Code→KT→List Nat→(AExit→List AD→Env→AH→Prop)→AExit→List AD→Env→AH→Prop
 | _,_,[],Q=>Q
 | .seq a b,k,0 :: p,Q=>ctxD P N a k.a p (seqD (fun ds e h=>k.fin (vcD P N b k.b Q ds (k.cut e) h)) Q)
 | .seq _ b,k,_ :: p,Q=>ctxD P N b k.b p Q
 | .cond _ a _,k,0 :: p,Q=>ctxD P N a k.a p Q
 | .cond _ _ b,k,_ :: p,Q=>ctxD P N b k.b p Q
 | .block id c,k,_ :: p,Q=>ctxD P N c k.a p (blockD id Q)
 | _,_,_,Q=>Q
def vcAtF (P:Program) (N:Nat) (c:Code) (k:KT) (p:List Nat) (Q:AExit→List AD→Env→AH→Prop) (ds:List AD) (e:Env) (h:AH):Prop :=
 vcD P N (subC c p) (subK c k p) (ctxD P N c k p Q) ds e h
def segAtF (P:Program) (N:Nat) (c:Code) (k:KT) (p:List Nat) (i g:Nat) (Q:AExit→List AD→Env→AH→Prop) (ds:List AD) (e:Env) (h:AH):Prop :=
 vcSegs P N (regOps (subC c p)) ((segs (regOps (subC c p)).toList).drop i) ((subK c k p).ks.drop g) (fun x e h=>ctxD P N c k p Q x ds e h) e h
end Go.Ab
namespace Go.Ab
open Go Go.RowKit
variable {P:Program} {ι:Names} {W:World} {B:Base} {h:AH} {D:List AD}
end Go.Ab
namespace Go.Ab
open Go Go.RowKit
variable {P:Program} {ι ι':Names} {W W':World} {B:Base} {h h':AH}
theorem acalls_forget {f:FuncId} {args:List V} {v:V} (ho:oldV (fun n=>(h.m n).isSome) v=true) (c:ACalls P f args h fun e h'=>e=.ret v∧∀ n,n < h.next→h'.m n=h.m n):ACalls P f args h (pureE v h):=by
 intro B ι W vs F r
 refine (c B ι W vs F r).mono ?_
 rintro e w' ⟨ι',h',ae,h1,h2,h3,rfl,h4⟩
 refine ⟨ι,h,.ret v,Names.le_refl _,F.forget h2 h1 h4,?_,rfl,rfl⟩
 cases e with
 | returned x =>
   refine old_rel (fun n hn=>?_) h1 ho h3
   obtain ⟨o,hm⟩:=Option.isSome_iff_exists.1 hn
   obtain ⟨L,hL,_⟩:=F.obj n o hm
   exact ⟨L,hL⟩
 | panicked c=>exact h3.elim
 | outgrown=>exact h3.elim
end Go.Ab
