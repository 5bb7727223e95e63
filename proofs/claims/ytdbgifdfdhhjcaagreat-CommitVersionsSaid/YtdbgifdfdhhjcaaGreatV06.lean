import Derived.Test.YtdbgifdfdhhjcaaGreatV05
import Derived.Recover
import Derived.Test.YtdbgifdfdhhjcaaGreatV04
set_option linter.unusedVariables false
set_option linter.unusedSimpArgs false
set_option linter.unusedSectionVars false
noncomputable section
namespace Go.Ab
section
open Go Go.RowKit
variable {P:Program} {ι:zw} {W:World} {B:wy} {h:AH} {D:List AD}
def sN (P:Program) (B:wy) (ι:zw) (N:Nat) (Q:yT->List AD->zJ->AH->Prop) (x:Exit) (a:Act) (w:World):Prop :=
 ∃ ι' h' e' ax ds,zw.le ι ι'/\ye P B ι' h' w/\wH P ι' N ds e' a/\Nl P ι' ax x/\Q ax ds e' h'
theorem sN.le {ι':zw} {N:Nat} {Q:yT->List AD->zJ->AH->Prop} {x:Exit} {a:Act} {w:World} (hl:zw.le ι ι') (p:sN P B ι' N Q x a w):sN P B ι N Q x a w:=by
 obtain ⟨ι2,h',e',ax,ds,h1,h2⟩:=p;exact ⟨ι2,h',e',ax,ds,zw.le_trans hl h1,h2⟩
theorem sN.of {N:Nat} {Q:yT->List AD->zJ->AH->Prop} {x:Exit} {a:Act} {w:World} (p:uK P B ι N D (λx e h=>Q x D e h) x a w):sN P B ι N Q x a w:=by
 obtain ⟨ι2,h',e',ax,h1,h2,h3,h4,h5⟩:=p;exact ⟨ι2,h',e',ax,D,h1,h2,h3,h4,h5⟩
abbrev z3V (k:List AD->zJ->AH->Prop) (Q:yT->List AD->zJ->AH->Prop) (x:yT) (ds:List AD) (e:zJ) (h:AH):Prop :=
 match x with
 | .normal=>k ds e h
 | x=>Q x ds e h
abbrev Xw (id:Nat) (Q:yT->List AD->zJ->AH->Prop) (x:yT) (ds:List AD) (e:zJ) (h:AH):Prop :=
 match x with
 | .exit i=>match Nat.beq i id with
  | true=>Q .normal ds e h
  | false=>Q (.exit i) ds e h
 | x=>Q x ds e h
def z08 (e:zJ) (c:Call) (h:AH) (ds:List AD) (Q:List AD->zJ->AH->Prop):Prop :=
 match mZ e c with
 | some ad=>Q (ad :: ds) e h
 | none=>False
def WI (P:Program) (N:Nat) (ops:Array Oper) (draw:Bool) (c:Call) (k:KT) (Q:yT->List AD->zJ->AH->Prop) (ds:List AD) (e:zJ) (h:AH):Prop :=
 rp draw (rp (rM P ops) (aI P N ops c h k.ks (λad e h=>Q .normal (ad :: ds) e h) e) False)
  (rp ((sA ops).all λo=>o.guard.isNone) (jQ P N (sA ops) (λe h=>z08 e c h ds (Q .normal)) (λx e h=>Q x ds e h) e h) False)
def Ve (P:Program) (N:Nat):Code->KT->(yT->List AD->zJ->AH->Prop)->List AD->zJ->AH->Prop
 | .region id ops draw,k,Q,ds,e,h=>match oX ops with
  | some c=>WI P N ops draw c k Q ds e h
  | none=>vc P N (.region id ops draw) k (λx e h=>Q x ds e h) e h
 | .seq a b,k,Q,ds,e,h=>Ve P N a k.a (z3V (λds e h=>k.fin (Ve P N b k.b Q ds (k.cut e) h)) Q) ds e h
 | .cond c a b,k,Q,ds,e,h=>zP (xl e c) (Ve P N a k.a Q ds e h) (Ve P N b k.b Q ds e h)
 | .block id c,k,Q,ds,e,h=>Ve P N c k.a (Xw id Q) ds e h
 | c,k,Q,ds,e,h=>vc P N c k (λx e h=>Q x ds e h) e h
theorem N7 {N:Nat} {k:List AD->zJ->AH->Prop} {Q:yT->List AD->zJ->AH->Prop} {next:Act->World->Prop} {x:Exit} {a:Act} {w:World}
 (p:sN P B ι N (z3V k Q) x a w) (hn:∀ ι' h' e' ds a w,zw.le ι ι'->ye P B ι' h' w->wH P ι' N ds e' a->k ds e' h'->next a w):Exit.then next (sN P B ι N Q) x a w:=by
 obtain ⟨ι',h',e',ax,ds,h1,h2,h3,h4,h5⟩:=p;cases x with
 | normal=>obtain rfl:=sJ h4;exact hn ι' h' e' ds a w h1 h2 h3 h5
 | _ =>
  have:=bM h4 S_;refine ⟨ι',h',e',ax,ds,h1,h2,h3,h4,?_⟩;cases ax <;> first | exact absurd rfl this | exact h5
theorem Ux {N id:Nat} {Q:yT->List AD->zJ->AH->Prop} {x:Exit} {a:Act} {w:World} (p:sN P B ι N (Xw id Q) x a w):Exit.inBlock id (sN P B ι N Q) x a w:=by
 obtain ⟨ι',h',e',ax,ds,h1,h2,h3,h4,h5⟩:=p;cases x with
 | exit i =>
  obtain rfl:=YW h4;simp only [Xw] at h5;simp only [Exit.inBlock];cases hb:Nat.beq i id with
  | true=>rw [hb] at h5;rw [if_pos (Nat.eq_of_beq_eq_true hb)];exact ⟨ι',h',e',.normal,ds,h1,h2,h3,trivial,h5⟩
  | false=>rw [hb] at h5;rw [if_neg (Nat.ne_of_beq_eq_false hb)];exact ⟨ι',h',e',.exit i,ds,h1,h2,h3,rfl,h5⟩
 | normal=>obtain rfl:=sJ h4;exact ⟨ι',h',e',.normal,ds,h1,h2,h3,h4,h5⟩
 | _ =>
  refine ⟨ι',h',e',ax,ds,h1,h2,h3,h4,?_⟩;cases ax <;> first | exact h5 | exact h4.elim
theorem YU (K:Ok P) {N:Nat} {ops:Array Oper} {Q:yT->zJ->AH->Prop} {k:zJ->AH->Prop} {rest:List Oper} {ι0:zw} {R:Exit->Act->World->Prop} (hR:∀ x a w,uK P B ι0 N D Q x a w->R x a w)
 (hk:∀ (ι':zw) (h':AH) (e':zJ) (a':Act) (w':World),zw.le ι0 ι'->ye P B ι' h' w'->wH P ι' N D e' a'->k e' h'->wpList P ops R rest a' w') :
 ∀ (l:List Oper) {ι:zw} {h:AH} {W:World} {e:zJ} {a:Act},(∀ o∈l,o.guard=none)->zw.le ι0 ι->ye P B ι h W->wH P ι N D e a->jQ P N l k Q e h->wpList P ops R (l++rest) a W
 | [],ι,h,W,e,a,_,h0,F,r,hv=>hk ι h e a W h0 F r hv
 | o :: l,ι,h,W,e,a,hg,h0,F,r,hv=>by
  simp only [jQ] at hv;simp only [List.cons_append,wpList];have hw:Region.wanted o (yielded ops a.tmps)=true:=by unfold Region.wanted;rw [hg o S_]
  rw [if_pos hw]
  left
  refine jU (λ_ _ _ p=>hR _ _ _ (uK.le h0 p)) (iZ K F r hv ?_);intro ι' h' v x w' hl F' hr hv';exact YU K hR hk l (λo ho=>hg o (by simp [ho])) (zw.le_trans h0 hl) F' (iv (nX hl r) hr) hv'
theorem Ua {ops:Array Oper} {o:Oper} (h:ops.back?=some o):ops.toList=sA ops++[o]:=by
 unfold sA;have h2:ops.toList.getLast?=some o:=by rw [<- h];simp [Array.back?,List.getLast?_eq_getElem?]
 obtain ⟨ys,hy⟩:=List.getLast?_eq_some_iff.1 h2;rw [hy];simp
theorem SP (K:Ok P) {N:Nat} {ops:Array Oper} {draw:Bool} {c:Call} {k:KT} {id:Nat} {Q:yT->List AD->zJ->AH->Prop} {e:zJ} {a:Act} (hl:oX ops=some c) (F:ye P B ι h W) (r:wH P ι N D e a)
 (hv:WI P N ops draw c k Q D e h):(Code.region id ops draw).wp P (sN P B ι N Q) a W:=by
 unfold WI at hv;cases draw with
 | true =>
  try simp only [wn] at hv
  cases hd:rM P ops with
  | false=>rw [hd] at hv;exact hv.elim
  | true =>
   rw [hd] at hv
   try simp only [wn] at hv
   obtain ⟨ad,hw⟩:=Up (id:=id) K hd hl F r hv;refine wp_mono hw ?_;rintro x a w ⟨ι',h',e',ax,h1,h2,h3,h4,rfl,h6⟩;exact ⟨ι',h',e',.normal,_,h1,h2,h3,h4,h6⟩
 | false =>
  try simp only [uj] at hv
  cases hg:(sA ops).all λo=>o.guard.isNone with
  | false=>rw [hg] at hv;exact hv.elim
  | true =>
   rw [hg] at hv
   try simp only [wn] at hv
   obtain ⟨o,ho,qU,hgo,qH⟩:∃ o,ops.back?=some o/\o.op=.defer c/\o.guard=none/\o.dst=none:=by
    unfold oX at hl;split at hl
    ·rename_i c' _ _ _ hb;cases hl;exact ⟨_,hb,rfl,rfl,rfl⟩
    ·cases hl
   apply wp_region_list;rw [Ua ho];refine YU (D:=D) (Q:=λx e h=>Q x D e h) (ι0:=ι) K (λx a w p=>sN.of p) ?_ (sA ops) (λo ho=>by have:=List.all_eq_true.1 hg o ho;simpa using this) (zw.le_refl _) F r hv;intro ι' h' e' a' w' g1 g2 g3 g4;unfold z08 at g4;split at g4
   ·rename_i ad had;obtain ⟨d,d1,d2⟩:=Yh (W:=w') g3 qU had;simp only [wpList];rw [if_pos (by unfold Region.wanted;rw [hgo])]
    left
    unfold Oper.wp;rw [d1];show sN P B ι N Q .normal ({ a' with defers:=d :: a'.defers }.put o.dst undef) w';rw [qH];exact ⟨ι',h',e',.normal,_,g1,g2,d2,trivial,g4⟩
   ·exact g4.elim
theorem fV (K:Ok P) {N:Nat}:∀ (c:Code) (k:KT) (Q:yT->List AD->zJ->AH->Prop) (ds:List AD) (ι:zw) (h:AH) (W:World) (e:zJ) (a:Act),ye P B ι h W->wH P ι N ds e a->Ve P N c k Q ds e h->c.wp P (sN P B ι N Q) a W
 | .region id ops draw,k,Q,ds,ι,h,W,e,a,F,r,hv=>by
  simp only [Ve] at hv;split at hv
  ·rename_i c hl;exact SP K hl F r hv
  ·exact wp_mono (ou K _ k _ ι h W e a F r hv) λ_ _ _ p=>sN.of p
 | .seq x y,k,Q,ds,ι,h,W,e,a,F,r,hv=>by
  simp only [Ve] at hv;refine wp_seq (wp_mono (fV K x k.a _ ds ι h W e a F r hv) ?_);intro x' a' w' p;refine N7 p ?_;intro ι' h' e' ds' a w hl F' r' hk;exact wp_mono (fV K y k.b Q ds' ι' h' w _ a F' (iy _ _ _ _ r') (KT.Jf hk)) λ_ _ _ p=>sN.le hl p
 | .cond c x y,k,Q,ds,ι,h,W,e,a,F,r,hv=>by
  simp only [Ve] at hv;exact PH r hv (λhp=>fV K x k.a Q ds ι h W e a F r hp) (λhq=>fV K y k.b Q ds ι h W e a F r hq)
 | .block id c,k,Q,ds,ι,h,W,e,a,F,r,hv=>by
  simp only [Ve] at hv;exact wp_block (wp_mono (fV K c k.a _ ds ι h W e a F r hv) λx a w p=>Ux p)
 | .skip,k,Q,ds,ι,h,W,e,a,F,r,hv=>wp_mono (ou K _ k (λx e h=>Q x ds e h) ι h W e a F r hv) λ_ _ _ p=>sN.of p
 | .loop c,k,Q,ds,ι,h,W,e,a,F,r,hv=>wp_mono (ou K _ k (λx e h=>Q x ds e h) ι h W e a F r hv) λ_ _ _ p=>sN.of p
 | .exit id,k,Q,ds,ι,h,W,e,a,F,r,hv=>wp_mono (ou K _ k (λx e h=>Q x ds e h) ι h W e a F r hv) λ_ _ _ p=>sN.of p
 | .ret,k,Q,ds,ι,h,W,e,a,F,r,hv=>wp_mono (ou K _ k (λx e h=>Q x ds e h) ι h W e a F r hv) λ_ _ _ p=>sN.of p
 | .label l,k,Q,ds,ι,h,W,e,a,F,r,hv=>wp_mono (ou K _ k (λx e h=>Q x ds e h) ι h W e a F r hv) λ_ _ _ p=>sN.of p
 | .scope c,k,Q,ds,ι,h,W,e,a,F,r,hv=>by simp only [Ve,vc] at hv
 | .goto l,k,Q,ds,ι,h,W,e,a,F,r,hv=>by simp only [Ve,vc] at hv
 | .rangeFunc _ _ _ _,k,Q,ds,ι,h,W,e,a,F,r,hv=>by simp only [Ve,vc] at hv
 | .refuse _,k,Q,ds,ι,h,W,e,a,F,r,hv=>by simp only [Ve,vc] at hv
def oq (P:Program) (ι:zw):Option V->FrameMode->Prop
 | none,u=>u=.returning
 | some v,u=>∃ x,rel P ι v x/\u=.panicking [{ v:=x,recovered:=false }]
def ADC (P:Program) (k:FuncId) (l:List V) (m:Option V) (h:AH) (K:Option V->AH->Prop):Prop :=
 vZ P k=true/\∀ (B:wy) (ι:zw) (W:World) (vs:List Value) (u:FrameMode),ye P B ι h W->wo P ι l vs->oq P ι m u->CallsD P k vs.toArray u W λe u' w' =>
  match e with
  | .returned _=>∃ ι' h' m',zw.le ι ι'/\ye P B ι' h' w'/\oq P ι' m' (settle u')/\K m' h'
  | .panicked chain=>∃ ι' h' m',zw.le ι ι'/\ye P B ι' h' w'/\oq P ι' m' (raised u' chain)/\K m' h'
  | .outgrown=>False
theorem ADC.mono {k:FuncId} {l:List V} {m:Option V} {h:AH} {K K':Option V->AH->Prop} (c:ADC P k l m h K) (hm:∀ m h,K m h->K' m h):ADC P k l m h K' :=
 ⟨c.1,λB ι W vs u F r hu=>(c.2 B ι W vs u F r hu).mono λe u' w' hq=>by
  cases e with
  | returned v=>obtain ⟨ι',h',m',a,b,d,f⟩:=hq;exact ⟨ι',h',m',a,b,d,hm _ _ f⟩
  | panicked v=>obtain ⟨ι',h',m',a,b,d,f⟩:=hq;exact ⟨ι',h',m',a,b,d,hm _ _ f⟩
  | outgrown=>exact hq⟩
def rV (e:zJ):List ResultVar->List V
 | []=>[]
 | .tmp t :: rs=>e.get t :: rV e rs
 | .cell a _ :: rs=>e.get a :: rV e rs
def jZ (P:Program) (h:AH):List ResultVar->List V->Option (List V)
 | [],_=>some []
 | .tmp _ :: rs,v :: vs=>match jZ P h rs vs with
  | some l=>some (v :: l)
  | none=>none
 | .cell _ t :: rs,v :: vs=>match v with
  | .ptr (some p)=>match iS P h p t,jZ P h rs vs with
   | some v,some l=>some (v :: l)
   | _,_=>none
  | _=>none
 | _ :: _,[]=>none
theorem Z6 {e:zJ} {h:AH}:∀ rs:List ResultVar,jZ P h rs (rV e rs)=zX P e h rs
 | []=>rfl
 | .tmp t :: rs=>by simp only [rV,jZ,zX,Z6 rs];rfl
 | .cell a t :: rs=>by simp only [rV,jZ,zX,Z6 rs];rfl
def vy (P:Program) (rs:List ResultVar) (Q:yO->AH->Prop) (vs:List V):List AD->Option V->AH->Prop
 | [],none,h=>yq (jZ P h rs vs) λv=>Q (.ret v) h
 | [],some v,h=>Q (.panic v) h
 | (k,l) :: ds,m,h=>ADC P k l m h λm' h'=>vy P rs Q vs ds m' h'
def pE (P:Program) (rs:List ResultVar) (Q:yO->AH->Prop):yT->List AD->zJ->AH->Prop
 | .normal,ds,e,h=>vy P rs Q (rV e rs) ds none h
 | .ret,ds,e,h=>vy P rs Q (rV e rs) ds none h
 | .panic v,ds,e,h=>vy P rs Q (rV e rs) ds (some v) h
 | _,_,_,_=>False
theorem z3f {k:FuncId} {l:List V} {m:Option V} {h:AH} {K:Option V->AH->Prop} (he:vZ P k=true) (c:ku P k l h λe h'=>∃ v,e=.ret v/\K m h'):ADC P k l m h K:=by
 refine ⟨he,λB ι W vs u F r hu=>(c B ι W vs u F r).mono ?_⟩;rintro e u' w' ⟨rfl,ι',h',ae,h1,h2,h3,v,rfl,h4⟩;cases e with
 | returned x =>
  refine ⟨ι',h',m,h1,h2,?_,h4⟩;cases m with
  | none=>simp only [oq] at hu;subst hu;rfl
  | some v =>
   obtain ⟨y,hy,rfl⟩:=hu;exact ⟨y,bG h1 hy,rfl⟩
 | panicked c=>exact h3.elim
 | outgrown=>exact h3.elim
theorem UA (K:Ok P) {N:Nat} {e:zJ} {a:Act} {fn:Func} {l:List V} (F:ye P B ι h W) (r:wH P ι N D e a) (hl:zX P e h fn.results.toList=some l) :
 ∃ v,(results fn a.tmps).run P W=.ok v W/\rel P ι (one l) v:=by
 obtain ⟨vs,g1,g2⟩:=dU K F r fn.results.toList l hl;refine ⟨(if h:vs.toArray.size=1 then vs.toArray[0] else .tuple vs.toArray),?_,?_⟩
 ·have z4M : (fn.results.mapM λx=> match x with
   | .tmp t=>pure (a.tmps.getD t undef)
   | .cell p t=>do loadVar t (<- asAddr (a.tmps.getD p undef)):Sem (Array Value)).run P W=.ok vs.toArray W:=by
   rw [Array.mapM_eq_mapM_toList];simp only [Sem.run_map];exact Eq.trans (congrArg (λr=>Result.andThen r _) g1) rfl
  unfold results;rw [Sem.run_bind];refine Eq.trans (congrArg (λr=>Result.andThen r _) z4M) ?_;simp only [Result.andThen_ok,Sem.run_pure]
 ·have UZ:=qi g2;by_cases h1:vs.toArray.size=1
  ·rw [dif_pos h1];cases l with
   | nil=>simp at UZ;simp [UZ] at h1
   | cons v l =>
    cases l with
    | nil =>
     obtain ⟨y,ys,k1,k2,rfl⟩:=yY.1 g2;simp only [wo] at k2;subst k2;exact k1
    | cons v' l=>simp at h1;simp [h1] at UZ
  ·rw [dif_neg h1];have:one l=.yX l:=by
    cases l with
    | nil=>rfl
    | cons v l =>
     cases l with
     | nil=>simp at UZ;simp [UZ] at h1
     | cons _ _=>rfl
   rw [this];exact .inr ⟨rfl,by simp only [zL,Value.cells];exact ⟨vs,g2,rfl⟩⟩
theorem lY (K:Ok P) {N:Nat} {fn:Func} {Q:yO->AH->Prop} {e:zJ} {ι0:zw}:∀ (ds:List AD) (m:Option V) {ι:zw} {h:AH} {W:World} {a:Act} (u:FrameMode),zw.le ι0 ι->ye P B ι h W->wH P ι N ds e a->oq P ι m u ->
 vy P fn.results.toList Q (rV e fn.results.toList) ds m h->Leaves P fn a.tmps (λe w'=>∃ ι' h' ae,zw.le ι0 ι'/\ye P B ι' h' w'/\gW P ι' ae e/\Q ae h') a.defers u W
 | [],m,ι,h,W,a,u,h0,F,r,hu,hv=>by
  have hd:a.defers=[]:=r.2.1;rw [hd];cases m with
  | none =>
   simp only [oq] at hu;subst hu;simp only [vy] at hv;obtain ⟨l,hl,hq⟩:=jF hv;rw [Z6] at hl;obtain ⟨v,g1,g2⟩:=UA K F r hl;exact ⟨v,g1,ι,h,.ret (one l),h0,F,g2,hq⟩
  | some v =>
   obtain ⟨x,hx,rfl⟩:=hu;exact ⟨ι,h,.panic v,h0,F,⟨x,hx,rfl⟩,hv⟩
 | (k,l) :: ds,m,ι,h,W,a,u,h0,F,r,hu,hv=>by
  obtain ⟨d,rest,hd,hx,hr⟩:=r.2.1;simp only [vy] at hv;obtain ⟨he,hc⟩:=hv;obtain ⟨cap,ht,hl⟩:∃ cap,d.target=.fn (.func k) cap/\wo P ι l (d.args++cap).toList:=by
   rcases hx with h | ⟨hk,_⟩
   ·exact h
   ·exfalso;unfold vZ at he;split at he
    ·rename_i fn hf;have:=(Array.getElem?_eq_some_iff.1 hf).1;omega
    ·cases he
  rw [hd];have pM:u≠.run:=by
   cases m with
   | none=>simp only [oq] at hu;subst hu;simp
   | some v=>obtain ⟨x,_,rfl⟩:=hu;simp
  refine ⟨pM,.func k,cap,k,d.args++cap,ht,?_,?_⟩
  ·rw [ht];show (callFunc k (d.args++cap)).run P W=_;exact nP he _ W
  ·have:=hc B ι W (d.args++cap).toList u F hl hu;rw [Array.toArray_toList] at this;refine this.mono ?_;intro en u' w' hq;have step:∀ (u2:FrameMode),(∃ ι' h' m',zw.le ι ι'/\ye P B ι' h' w'/\oq P ι' m' u2/\vy P fn.results.toList Q (rV e fn.results.toList) ds m' h') ->
    Leaves P fn a.tmps (λe w'=>∃ ι' h' ae,zw.le ι0 ι'/\ye P B ι' h' w'/\gW P ι' ae e/\Q ae h') rest u2 w':=by
    rintro u2 ⟨ι',h',m',q1,q2,q3,q4⟩;exact lY K ds m' (a:={ a with defers:=rest }) u2 (zw.le_trans h0 q1) q2 ⟨r.1,Za q1 hr,λt=>bG q1 (r.2.2 t)⟩ q3 q4
   cases en with
   | returned v=>exact step _ hq
   | panicked chain=>exact step _ hq
   | outgrown=>exact hq.elim
theorem zbg {N0:Nat} {args:List V} {vs:List Value} {n:Nat} (hN:args.length+(n-args.length)=N0) (ra:wo P ι args vs) :
 wH P ι N0 [] (zC 0 args) { tmps:=vs.toArray++Array.replicate (n-vs.toArray.size) undef,defers:=[] }:=by
 subst hN;have hlen:=qi ra;refine ⟨by simp [hlen],rfl,λt=>?_⟩;rw [lE];simp only [Nat.zero_le,if_true,Nat.sub_zero];cases ht:args[t]? with
 | none=>exact .inl rfl
 | some v =>
  obtain ⟨x,h1,h2⟩:=iY ra t ht;have hlt:t<vs.length:=by
   rcases Nat.lt_or_ge t vs.length with h | h
   ·exact h
   ·simp [List.getElem?_eq_none h] at h1
  have:(vs.toArray++Array.replicate (n-vs.toArray.size) undef).getD t undef=x:=by
   rw [Array.getD_eq_getD_getElem?,Array.getElem?_append_left (by simpa using hlt)];simp [h1]
  simp only [Option.getD_some];rw [this];exact h2
theorem Sq (K:Ok P) {f:FuncId} {fn:Func} {c:Code} (hf:P.funcs[f]?=some fn) (hb:fn.body=some c) (k:KT) {args:List V} {Q:yO->AH->Prop} (N:Nat) (rs:List ResultVar)
 (hN:args.length+(fn.ntmps-args.length)=N) (hr:fn.results.toList=rs) (hv:Ve P N c k (pE P rs Q) [] (zC 0 args) h):za P f args h Q:=by
 subst hr;intro B ι W vs F ra;refine calls_of_wp_defers hf hb (wp_mono (fV K c k _ [] ι h W _ _ F (zbg hN ra) hv) ?_);rintro x a w ⟨ι',h',e',ax,ds,p1,p2,p3,p4,p5⟩;cases x with
 | normal=>obtain rfl:=sJ p4;exact lY K ds none .returning p1 p2 p3 rfl p5
 | ret =>
  have:ax=.ret:=by cases ax <;> first | rfl | exact p4.elim
  subst this;exact lY K ds none .returning p1 p2 p3 rfl p5
 | panic chain =>
  cases ax <;> first | exact p4.elim | skip
  rename_i v;obtain ⟨x,hx,rfl⟩:=p4;exact lY K ds (some v) (.panicking _) p1 p2 p3 ⟨x,hx,rfl⟩ p5
 | exit i=>cases ax <;> first | exact p4.elim | exact p5.elim
 | goto i=>cases ax <;> first | exact p4.elim | exact p5.elim
 | outgrown=>cases ax <;> exact p4.elim
def TO (P:Program) (N:Nat):Code->KT->List Nat->(yT->List AD->zJ->AH->Prop)->yT->List AD->zJ->AH->Prop
 | _,_,[],Q=>Q
 | .seq a b,k,0 :: p,Q=>TO P N a k.a p (z3V (λds e h=>k.fin (Ve P N b k.b Q ds (k.cut e) h)) Q)
 | .seq _ b,k,_ :: p,Q=>TO P N b k.b p Q
 | .cond _ a _,k,0 :: p,Q=>TO P N a k.a p Q
 | .cond _ _ b,k,_ :: p,Q=>TO P N b k.b p Q
 | .block id c,k,_ :: p,Q=>TO P N c k.a p (Xw id Q)
 | _,_,_,Q=>Q
def YS (P:Program) (N:Nat) (c:Code) (k:KT) (p:List Nat) (Q:yT->List AD->zJ->AH->Prop) (ds:List AD) (e:zJ) (h:AH):Prop :=
 Ve P N (jC c p) (gX c k p) (TO P N c k p Q) ds e h
def Ts (P:Program) (N:Nat) (c:Code) (k:KT) (p:List Nat) (i g:Nat) (Q:yT->List AD->zJ->AH->Prop) (ds:List AD) (e:zJ) (h:AH):Prop :=
 pz P N (fA (jC c p)) ((mG (fA (jC c p)).toList).drop i) ((gX c k p).ks.drop g) (λx e h=>TO P N c k p Q x ds e h) e h
end
section
open Go Go.RowKit
variable {P:Program} {ι:zw} {W:World} {B:wy} {h:AH} {D:List AD}
end
section
open Go Go.RowKit
variable {P:Program} {ι ι':zw} {W W':World} {B:wy} {h h':AH}
theorem yN {f:FuncId} {args:List V} {v:V} (ho:tK (λn=>(h.m n).isSome) v=true) (c:za P f args h λe h'=>e=.ret v/\∀ n,n<h.next->h'.m n=h.m n):za P f args h (zO v h):=by
 intro B ι W vs F r;refine (c B ι W vs F r).mono ?_;rintro e w' ⟨ι',h',ae,h1,h2,h3,rfl,h4⟩;refine ⟨ι,h,.ret v,zw.le_refl _,F.forget h2 h1 h4,?_,rfl,rfl⟩;cases e with
 | returned x =>
  refine Q9 (λn hn=>?_) h1 ho h3;obtain ⟨o,hm⟩:=Option.isSome_iff_exists.1 hn;obtain ⟨L,hL,_⟩:=F.obj n o hm;exact ⟨L,hL⟩
 | panicked c=>exact h3.elim
 | outgrown=>exact h3.elim
end
end Go.Ab
end
