import Derived.Test.YtdbgifdfdhhjcaaGreatV04
import Derived.Defers
set_option linter.unusedVariables false
set_option linter.unusedSimpArgs false
set_option linter.unusedSectionVars false
noncomputable section
namespace Go.Ab
section
open Go Go.RowKit
variable {P:Program} {ι:zw} {W:World} {B:wy} {h:AH} {D:List AD}
inductive KT where
 | leaf
 | one (a:KT)
 | two (a b:KT)
 | seq (a b:KT) (zA:List Nat)
 | join (a b:KT) (zA:List Nat)
 | loop (a:KT) (zA:List Nat)
 | rm (ks:List (List Nat))
 | nG (es:List Nat)
 | flo (es fl:List Nat) (l:Nat)
 | NG (es fl:List Nat) (l kk:Nat)
abbrev YM (k:zJ->AH->Prop) (Q:yT->zJ->AH->Prop) (x:yT) (e:zJ) (h:AH):Prop :=
 match x with
 | .normal=>k e h
 | x=>Q x e h
abbrev MB:Nat:=1000000
def Vu (body:(yT->zJ->AH->Prop)->zJ->AH->Prop) (cut:zJ->zJ) (Q:yT->zJ->AH->Prop):Nat->zJ->AH->Prop
 | 0=>λ_ _=>False
 | k+1=>λe h=>body (YM (λe h=>z7 (Vu body cut Q k (cut e) h)) Q) e h
def MI (body:(yT->zJ->AH->Prop)->zJ->AH->Prop) (Q:yT->zJ->AH->Prop):Nat->zJ->AH->Prop
 | 0=>λ_ _=>False
 | k+1=>λe h=>body (YM (λe h=>MI body Q k e h) Q) e h
abbrev cw (id:Nat) (Q:yT->zJ->AH->Prop) (x:yT) (e:zJ) (h:AH):Prop :=
 match x with
 | .exit i=>match Nat.beq i id with
  | true=>Q .normal e h
  | false=>Q (.exit i) e h
 | x=>Q x e h
def zP (c:V) (a b:Prop):Prop :=
 match c with
 | .bool t=>if t=true then a else b
 | _=>False
def KT.a:KT->KT
 | .nG _=>.leaf
 | .flo _ _ _=>.leaf
 | .NG _ _ _ _=>.leaf
 | .one a=>a
 | .two a _=>a
 | .seq a _ _=>a
 | .join a _ _=>a
 | .loop a _=>a
 | .leaf=>.leaf
 | .rm _=>.leaf
def KT.ks:KT->List (List Nat)
 | .rm ks=>ks
 | _=>[]
def KT.b:KT->KT
 | .two _ b=>b
 | .seq _ b _=>b
 | .join _ b _=>b
 | _=>.leaf
def KT.cut:KT->zJ->zJ
 | .seq _ _ l,e=>zJ.zA l e
 | .join _ _ l,e=>zJ.zA l e
 | .loop _ l,e=>zJ.zA l e
 | _,e=>e
abbrev KT.fin (k:KT) (p:Prop):Prop :=
 match k with
 | .join _ _ _=>z7 p
 | _=>p
theorem KT.Jf {k:KT} {p:Prop} (h:k.fin p):p:=by cases k <;> first | exact h | exact z7.h h
def z0l (P:Program) (N:Nat) (ops:Array Oper) (k:KT) (Q:yT->zJ->AH->Prop) (e:zJ) (h:AH):Prop :=
 match k with
 | .nG es=>rp (qT P N ops es) (vc2 P N (vH ops) es 0 ops.toList [h] h [] (Q .normal) e) False
 | .flo es fl l=>rp (hH P N ops es fl l) (Hq P N (vI ops fl l) (vH (vI ops fl l)) es fl 0 (vI ops fl l).toList [h] h [] (Q .normal) (eT N ops fl e)) False
 | .NG es fl l kk=>rp (ie P N ops es fl l kk) (Nt P N (vI ops fl l) (vH (vI ops fl l)) es fl kk 0 (vI ops fl l).toList [h] h [] (Q .normal) (eT N ops fl e)) False
 | k=>rp (rM P ops) (tR P N ops h 0 (mG ops.toList) k.ks Q e) False
theorem Ly (K:Ok P) {N:Nat} {ops:Array Oper} {k:KT} {id:Nat} {Q:yT->zJ->AH->Prop} {e:zJ} {a:Act} (F:ye P B ι h W) (r:wH P ι N D e a) (hv:z0l P N ops k Q e h):(Code.region id ops true).wp P (uK P B ι N D Q) a W:=by
 have one:∀ ks,rp (rM P ops) (tR P N ops h 0 (mG ops.toList) ks Q e) False->(Code.region id ops true).wp P (uK P B ι N D Q) a W:=by
  intro ks hv;cases hd:rM P ops with
  | false=>rw [hd] at hv;exact hv.elim
  | true=>rw [hd] at hv;exact Ot K hd F r hv
 cases k with
 | nG es =>
  replace hv:rp (qT P N ops es) _ False:=hv
  cases hd:qT P N ops es with
  | false=>rw [hd] at hv;exact hv.elim
  | true=>rw [hd] at hv;exact SF K hd F r hv
 | flo es fl l =>
  replace hv:rp (hH P N ops es fl l) _ False:=hv
  cases hd:hH P N ops es fl l with
  | false=>rw [hd] at hv;exact hv.elim
  | true=>rw [hd] at hv;exact SX K hd F r hv
 | NG es fl l kk =>
  replace hv:rp (ie P N ops es fl l kk) _ False:=hv
  cases hd:ie P N ops es fl l kk with
  | false=>rw [hd] at hv;exact hv.elim
  | true=>rw [hd] at hv;exact Tn K hd F r hv
 | _=>exact one _ hv
def vc (P:Program) (N:Nat):Code->KT->(yT->zJ->AH->Prop)->zJ->AH->Prop
 | .skip,_,Q,e,h=>Q .normal e h
 | .region _ ops draw,k,Q,e,h=>rp draw (z0l P N ops k Q e h) (pz P N ops (mG ops.toList) k.ks Q e h)
 | .seq a b,k,Q,e,h=>vc P N a k.a (YM (λe h=>k.fin (vc P N b k.b Q (k.cut e) h)) Q) e h
 | .cond c a b,k,Q,e,h=>zP (xl e c) (vc P N a k.a Q e h) (vc P N b k.b Q e h)
 | .block id c,k,Q,e,h=>vc P N c k.a (cw id Q) e h
 | .loop c,k,Q,e,h=>match k with
  | .leaf=>MI (vc P N c .leaf) Q MB e h
  | k=>∃ n,z7 (Vu (vc P N c k.a) k.cut Q n (k.cut e) h)
 | .exit id,_,Q,e,h=>Q (.exit id) e h
 | .ret,_,Q,e,h=>Q .ret e h
 | .label _,_,Q,e,h=>Q .normal e h
 | .scope _,_,_,_,_=>False
 | .goto _,_,_,_,_=>False
 | .rangeFunc _ _ _ _,_,_,_,_=>False
 | .refuse _,_,_,_,_=>False
theorem sJ {ι:zw} {ax:yT} (r:Nl P ι ax .normal):ax=.normal:=by cases ax <;> first | rfl | exact r.elim
theorem YW {ι:zw} {ax:yT} {i:Nat} (r:Nl P ι ax (.exit i)):ax=.exit i:=by
 cases ax <;> first | exact r.elim | (simp only [Nl] at r;rw [r])
theorem bM {ι:zw} {ax:yT} {x:Exit} (r:Nl P ι ax x) (hn:x≠.normal):ax≠.normal:=by
 rintro rfl;cases x <;> first | exact hn rfl | exact r.elim
theorem Z5 {N:Nat} {k:zJ->AH->Prop} {Q:yT->zJ->AH->Prop} {next:Act->World->Prop} {x:Exit} {a:Act} {w:World}
 (p:uK P B ι N D (YM k Q) x a w) (hn:∀ ι' h' e' a w,zw.le ι ι'->ye P B ι' h' w->wH P ι' N D e' a->k e' h'->next a w):Exit.then next (uK P B ι N D Q) x a w:=by
 obtain ⟨ι',h',e',ax,h1,h2,h3,h4,h5⟩:=p;cases x with
 | normal=>obtain rfl:=sJ h4;exact hn ι' h' e' a w h1 h2 h3 h5
 | _ =>
  have:=bM h4 S_;refine ⟨ι',h',e',ax,h1,h2,h3,h4,?_⟩;cases ax <;> first | exact absurd rfl this | exact h5
theorem Sz {N id:Nat} {Q:yT->zJ->AH->Prop} {x:Exit} {a:Act} {w:World} (p:uK P B ι N D (cw id Q) x a w):Exit.inBlock id (uK P B ι N D Q) x a w:=by
 obtain ⟨ι',h',e',ax,h1,h2,h3,h4,h5⟩:=p;cases x with
 | exit i =>
  obtain rfl:=YW h4;simp only [cw] at h5;simp only [Exit.inBlock];cases hb:Nat.beq i id with
  | true=>rw [hb] at h5;rw [if_pos (Nat.eq_of_beq_eq_true hb)];exact ⟨ι',h',e',.normal,h1,h2,h3,trivial,h5⟩
  | false=>rw [hb] at h5;rw [if_neg (Nat.ne_of_beq_eq_false hb)];exact ⟨ι',h',e',.exit i,h1,h2,h3,rfl,h5⟩
 | normal=>obtain rfl:=sJ h4;exact ⟨ι',h',e',.normal,h1,h2,h3,h4,h5⟩
 | _ =>
  refine ⟨ι',h',e',ax,h1,h2,h3,h4,?_⟩;cases ax <;> first | exact h5 | exact h4.elim
theorem PH {N:Nat} {c:Operand} {x y:Code} {e:zJ} {a:Act} {p q:Prop} (r:wH P ι N D e a) (hv:zP (xl e c) p q) {Q:Exit->Act->World->Prop} (h1:p->x.wp P Q a W) (h2:q->y.wp P Q a W):(Code.cond c x y).wp P Q a W:=by
 unfold zP at hv;split at hv
 ·rename_i t hc;have:=vG r c;rw [hc] at this;have:=rel_bool this;refine wp_cond this ?_;cases t
  ·exact h2 (by simpa using hv)
  ·exact h1 (by simpa using hv)
 ·exact hv.elim
theorem XU {N:Nat} {c:Code} {body:(yT->zJ->AH->Prop)->zJ->AH->Prop} {cut:zJ->zJ} {Q:yT->zJ->AH->Prop}
 (hb:∀ (Q:yT->zJ->AH->Prop) (ι:zw) (h:AH) (W:World) (e:zJ) (a:Act),ye P B ι h W->wH P ι N D e a->body Q e h->c.wp P (uK P B ι N D Q) a W)
 (hc:∀ (ι:zw) (e:zJ) (a:Act),wH P ι N D e a->wH P ι N D (cut e) a):∀ (n:Nat) (ι:zw) (h:AH) (W:World) (e:zJ) (a:Act),ye P B ι h W->wH P ι N D e a->Vu body cut Q n e h ->
 Code.rounds P c (uK P B ι N D Q) n a W
 | 0,_,_,_,_,_,_,_,hi=>hi.elim
 | n+1,ι,h,W,e,a,F,r,hi=>by
  refine wp_mono (hb _ ι h W e a F r hi) ?_;intro x a' w' p;refine Z5 p ?_;intro ι' h' e' a w hl F' r' hk;have:=XU hb hc n ι' h' w (cut e') a F' (hc _ _ _ r') hk.h;exact lI (λ_ _ _ p=>uK.le hl p) n a w this
where
 lI {c:Code} {Q Q':Exit->Act->World->Prop} (hq:∀ x a w,Q x a w->Q' x a w):∀ (n:Nat) (a:Act) (w:World),Code.rounds P c Q n a w->Code.rounds P c Q' n a w
  | 0,_,_,hh=>hh.elim
  | n+1,a,w,hh=>wp_mono hh λx a w p=>by
   cases x with
   | normal=>exact lI hq n a w p
   | _=>exact hq _ _ _ p
theorem VS {N:Nat} {c:Code} {body:(yT->zJ->AH->Prop)->zJ->AH->Prop} {Q:yT->zJ->AH->Prop}
 (hb:∀ (Q:yT->zJ->AH->Prop) (ι:zw) (h:AH) (W:World) (e:zJ) (a:Act),ye P B ι h W->wH P ι N D e a->body Q e h->c.wp P (uK P B ι N D Q) a W) :
 ∀ (n:Nat) (ι:zw) (h:AH) (W:World) (e:zJ) (a:Act),ye P B ι h W->wH P ι N D e a->MI body Q n e h->Code.rounds P c (uK P B ι N D Q) n a W
 | 0,_,_,_,_,_,_,_,hi=>hi.elim
 | n+1,ι,h,W,e,a,F,r,hi=>by
  refine wp_mono (hb _ ι h W e a F r hi) ?_;intro x a' w' p;refine Z5 p ?_;intro ι' h' e' a w hl F' r' hk;have:=VS hb n ι' h' w e' a F' r' hk;exact XU.lI (λ_ _ _ p=>uK.le hl p) n a w this
theorem iy {N:Nat} (k:KT) (ι:zw) (e:zJ) (a:Act) (r:wH P ι N D e a):wH P ι N D (k.cut e) a:=by
 cases k <;> first | exact r | exact X5 _ r
theorem ou (K:Ok P) {N:Nat}:∀ (c:Code) (k:KT) (Q:yT->zJ->AH->Prop) (ι:zw) (h:AH) (W:World) (e:zJ) (a:Act),ye P B ι h W->wH P ι N D e a->vc P N c k Q e h->c.wp P (uK P B ι N D Q) a W
 | .skip,k,Q,ι,h,W,e,a,F,r,hv=>by
  simp only [vc] at hv;exact wp_skip ⟨ι,h,e,.normal,zw.le_refl _,F,r,trivial,hv⟩
 | .region id ops draw,k,Q,ι,h,W,e,a,F,r,hv=>by
  simp only [vc] at hv;cases draw with
  | true=>exact Ly K F r hv
  | false =>
   have:=lV K (mG ops.toList) k.ks (nS _) (zw.le_refl _) F r hv;rw [kw] at this;exact wp_region_list this
 | .seq x y,k,Q,ι,h,W,e,a,F,r,hv=>by
  simp only [vc] at hv;refine wp_seq (wp_mono (ou K x k.a _ ι h W e a F r hv) ?_);intro x' a' w' p;refine Z5 p ?_;intro ι' h' e' a w hl F' r' hk;exact wp_mono (ou K y k.b Q ι' h' w _ a F' (iy _ _ _ _ r') (KT.Jf hk)) λ_ _ _ p=>uK.le hl p
 | .cond c x y,k,Q,ι,h,W,e,a,F,r,hv=>by
  simp only [vc] at hv;exact PH r hv (λhp=>ou K x k.a Q ι h W e a F r hp) (λhq=>ou K y k.b Q ι h W e a F r hq)
 | .block id c,k,Q,ι,h,W,e,a,F,r,hv=>by
  simp only [vc] at hv;exact wp_block (wp_mono (ou K c k.a _ ι h W e a F r hv) λx a w p=>Sz p)
 | .loop c,k,Q,ι,h,W,e,a,F,r,hv=>by
  simp only [vc] at hv;split at hv
  ·exact wp_loop_rounds MB (VS (λQ ι h W e a F r hb=>ou K c .leaf Q ι h W e a F r hb) MB ι h W _ a F r hv)
  ·obtain ⟨n,hn⟩:=hv;exact wp_loop_rounds n (XU (λQ ι h W e a F r hb=>ou K c _ Q ι h W e a F r hb) (iy _) n ι h W _ a F (iy _ _ _ _ r) hn.h)
 | .exit id,k,Q,ι,h,W,e,a,F,r,hv=>by
  simp only [vc] at hv;exact wp_exit ⟨ι,h,e,.exit id,zw.le_refl _,F,r,rfl,hv⟩
 | .ret,k,Q,ι,h,W,e,a,F,r,hv=>by
  simp only [vc] at hv;exact wp_ret ⟨ι,h,e,.ret,zw.le_refl _,F,r,trivial,hv⟩
 | .label l,k,Q,ι,h,W,e,a,F,r,hv=>by
  simp only [vc] at hv;exact wp_label ⟨ι,h,e,.normal,zw.le_refl _,F,r,trivial,hv⟩
 | .scope c,k,Q,ι,h,W,e,a,F,r,hv=>by simp only [vc] at hv
 | .goto l,k,Q,ι,h,W,e,a,F,r,hv=>by simp only [vc] at hv
 | .rangeFunc _ _ _ _,k,Q,ι,h,W,e,a,F,r,hv=>by simp only [vc] at hv
 | .refuse _,k,Q,ι,h,W,e,a,F,r,hv=>by simp only [vc] at hv
theorem Sb (K:Ok P) (F:ye P B ι h W) {a:PA} {t:TypeId} {v:V} {x:Addr} (hl:iS P h a t=some v) (hx:ZJ P ι a x):∃ z,(loadVar t x).run P W=.ok z W/\rel P ι v z:=by
 simp only [iS] at hl;split at hl
 ·rename_i own ty v0 hm;split at hl
  ·rename_i V2;split at hl
   ·rename_i o u oK;split at hl
    ·rename_i w hg;obtain ⟨L,hL,sS⟩:=F.obj _ _ hm;obtain ⟨h1,h2,a1,m,c,elem,fr,h3,h4,h5,_,_⟩:=aG K.lay sS oK hg;obtain ⟨L',o',t',g1,g2,g3,rfl⟩:=hx;rw [hL] at g1;cases g1;rw [<- V2,oK] at g3;simp only [Option.some.injEq,Prod.mk.injEq] at g3;obtain ⟨rfl,rfl⟩:=g3;rw [<- h4];split at hl
     ·rename_i hut;subst hut;cases hl;obtain ⟨y,k1,k2,_⟩:=qQ K.lay h3 h2 h5;exact ⟨y,k1,k2⟩
     ·split at hl
      ·rename_i hsh;cases hl;obtain ⟨y,k1,k2,_⟩:=qQ K.lay h3 hsh h5;exact ⟨y,k1,k2⟩
      ·cases hl
    ·cases hl
   ·cases hl
  ·cases hl
 ·cases hl
def zX (P:Program) (e:zJ) (h:AH):List ResultVar->Option (List V)
 | []=>some []
 | .tmp t :: rs=>match zX P e h rs with
  | some l=>some (e.get t :: l)
  | none=>none
 | .cell a t :: rs=>match e.get a with
  | .ptr (some p)=>match iS P h p t,zX P e h rs with
   | some v,some l=>some (v :: l)
   | _,_=>none
  | _=>none
def one (l:List V):V :=
 match l with
 | [v]=>v
 | l=>.yX l
theorem dU (K:Ok P) {N:Nat} {e:zJ} {a:Act} (F:ye P B ι h W) (r:wH P ι N D e a):∀ (rs:List ResultVar) (l:List V),zX P e h rs=some l ->
 ∃ vs,(rs.mapM λx=>match x with
  | .tmp t=>pure (a.tmps.getD t undef)
  | .cell p t=>do loadVar t (<- asAddr (a.tmps.getD p undef)):Sem (List Value)).run P W=.ok vs W/\wo P ι l vs
 | [],l,hl=>by simp only [zX,Option.some.injEq] at hl;subst hl;exact ⟨[],rfl,relL_nil⟩
 | .tmp t :: rs,l,hl=>by
  simp only [zX] at hl;split at hl
  ·rename_i l' h';cases hl;obtain ⟨vs,h1,h2⟩:=dU K F r rs l' h';refine ⟨a.tmps.getD t undef :: vs,?_,relL_cons (r.2.2 t) h2⟩;simp only [List.mapM_cons,Sem.run_bind,Sem.run_pure,Result.andThen_ok,h1]
  ·cases hl
 | .cell p t :: rs,l,hl=>by
  simp only [zX] at hl;split at hl
  ·rename_i pa hp;split at hl
   ·rename_i v l' hv h';cases hl;obtain ⟨vs,h1,h2⟩:=dU K F r rs l' h';have:=r.2.2 p;rw [hp] at this;obtain ⟨x,hx1,hx2⟩:=sw this
    -- a load changes nothing
    obtain ⟨z,g1,g2⟩:=Sb K F hv hx2;refine ⟨z :: vs,?_,relL_cons g2 h2⟩;have Re:(asAddr (a.tmps.getD p undef)).run P W=.ok x W:=by rw [hx1];rfl
    simp only [List.mapM_cons,Sem.run_bind,Re,Sem.run_pure,Result.andThen_ok,g1,h1]
   ·cases hl
  ·cases hl
def yq (r:Option (List V)) (k:V->Prop):Prop :=
 match r with
 | some l=>k (one l)
 | none=>False
theorem jF {r:Option (List V)} {k:V->Prop} (hb:yq r k):∃ l,r=some l/\k (one l):=by
 unfold yq at hb;split at hb
 ·exact ⟨_,rfl,hb⟩
 ·exact hb.elim
def zn (P:Program) (rs:List ResultVar) (Q:yO->AH->Prop):yT->zJ->AH->Prop
 | .normal,e,h=>yq (zX P e h rs) λv=>Q (.ret v) h
 | .ret,e,h=>yq (zX P e h rs) λv=>Q (.ret v) h
 | .panic v,_,h=>Q (.panic v) h
 | _,_,_=>False
def zC:Nat->List V->zJ
 | _,[]=>[]
 | i,v :: vs=>(i,v) :: zC (i+1) vs
theorem lE:∀ (l:List V) (i t:Nat),zJ.get (zC i l) t=if i<=t then (l[t-i]?).getD .xF else .xF
 | [],i,t=>by simp [zC,zJ.get]
 | v :: l,i,t=>by
  simp only [zC,zJ.get];by_cases h:t=i
  ·subst h;simp
  ·rw [if_neg h,lE l (i+1) t];by_cases h1:i<=t
   ·rw [if_pos O_,if_pos h1];have:t-i=(t-(i+1))+1:=O_;rw [this];simp
   ·rw [if_neg O_,if_neg h1]
theorem Qo (K:Ok P) {fn:Func} {c:Code} (k:KT) {args:List V} {Q:yO->AH->Prop} {vs:List Value} (F:ye P B ι h W) (ra:wo P ι args vs)
 (hv:vc P (args.length+(fn.ntmps-args.length)) c k (zn P fn.results.toList Q) (zC 0 args) h) :
 c.wp P (bodyPost P fn λe w'=>∃ ι' h' ae,zw.le ι ι'/\ye P B ι' h' w'/\gW P ι' ae e/\Q ae h') { tmps:=vs.toArray++Array.replicate (fn.ntmps-vs.toArray.size) undef,defers:=[] } W:=by
 have hlen:=qi ra;refine (wp_mono (ou (D:=[]) K c k _ ι h W (zC 0 args) _ F ?_ hv) ?_)
 ·refine ⟨by simp [hlen],rfl,λt=>?_⟩;rw [lE];simp only [Nat.zero_le,if_true,Nat.sub_zero];cases ht:args[t]? with
  | none=>exact .inl rfl
  | some v =>
   obtain ⟨x,h1,h2⟩:=iY ra t ht;have hlt:t<vs.length:=by
    rcases Nat.lt_or_ge t vs.length with h | h
    ·exact h
    ·simp [List.getElem?_eq_none h] at h1
   have:(vs.toArray++Array.replicate (fn.ntmps-vs.toArray.size) undef).getD t undef=x:=by
    rw [Array.getD_eq_getD_getElem?,Array.getElem?_append_left (by simpa using hlt)];simp [h1]
   simp only [Option.getD_some];rw [this];exact h2
 ·intro x a w p;obtain ⟨ι',h',e',ax,p1,p2,p3,p4,p5⟩:=p;have WD:∀ l,zX P e' h' fn.results.toList=some l->Q (.ret (one l)) h'->a.defers=[]/\∃ v,(results fn a.tmps).run P w=.ok v w/\∃ ι' h'' ae,zw.le ι ι'/\ye P B ι' h'' w/\gW P ι' ae (.returned v)/\Q ae h'':=by
   intro l hl hq;obtain ⟨vs,g1,g2⟩:=dU K p2 p3 fn.results.toList l hl;refine ⟨p3.2.1,(if h:vs.toArray.size=1 then vs.toArray[0] else .tuple vs.toArray),?_,ι',h',.ret (one l),p1,p2,?_,hq⟩
   ·have z4M : (fn.results.mapM λx=> match x with
     | .tmp t=>pure (a.tmps.getD t undef)
     | .cell p t=>do loadVar t (<- asAddr (a.tmps.getD p undef)):Sem (Array Value)).run P w=.ok vs.toArray w:=by
     rw [Array.mapM_eq_mapM_toList];simp only [Sem.run_map,g1,Result.andThen_ok]
    unfold results;rw [Sem.run_bind];refine Eq.trans (congrArg (λr=>Result.andThen r _) z4M) ?_;simp only [Result.andThen_ok,Sem.run_pure]
   ·have UZ:=qi g2;by_cases h1:vs.toArray.size=1
    ·rw [dif_pos h1];cases l with
     | nil=>simp at UZ;simp [UZ] at h1
     | cons v l =>
      cases l with
      | nil =>
       obtain ⟨y,ys,k1,k2,rfl⟩:=yY.1 g2;simp only [wo] at k2;subst k2;exact k1
      | cons v' l=>simp at h1;simp [h1] at UZ
    ·rw [dif_neg h1];have:one l=.yX l:=by
      cases l with
      | nil=>rfl
      | cons v l =>
       cases l with
       | nil=>simp at UZ;simp [UZ] at h1
       | cons _ _=>rfl
     rw [this];exact .inr ⟨rfl,by simp only [zL,Value.cells];exact ⟨vs,g2,rfl⟩⟩
  cases x with
  | normal =>
   obtain rfl:=sJ p4;simp only [zn] at p5;obtain ⟨l,hl,p5⟩:=jF p5;exact WD l hl p5
  | ret =>
   have:ax=.ret:=by cases ax <;> first | rfl | exact p4.elim
   subst this;simp only [zn] at p5;obtain ⟨l,hl,p5⟩:=jF p5;exact WD l hl p5
  | panic chain =>
   cases ax <;> first | exact p4.elim | skip
   rename_i v;exact ⟨p3.2.1,ι',h',.panic v,p1,p2,p4,p5⟩
  | exit i=>cases ax <;> first | exact p4.elim | exact p5.elim
  | goto i=>cases ax <;> first | exact p4.elim | exact p5.elim
  | outgrown=>cases ax <;> exact p4.elim
theorem zk (K:Ok P) {f:FuncId} {fn:Func} {c:Code} (hf:P.funcs[f]?=some fn) (hb:fn.body=some c) (k:KT) {args:List V} {Q:yO->AH->Prop}
 (hv:vc P (args.length+(fn.ntmps-args.length)) c k (zn P fn.results.toList Q) (zC 0 args) h):za P f args h Q :=
 λ_ _ _ _ F ra=>calls_of_wp hf hb (Qo K k F ra hv)
def ku (P:Program) (f:FuncId) (args:List V) (h:AH) (Q:yO->AH->Prop):Prop :=
 ∀ (B:wy) (ι:zw) (W:World) (vs:List Value) (u:FrameMode),ye P B ι h W->wo P ι args vs ->
  CallsD P f vs.toArray u W λe u' w'=>u'=u/\∃ ι' h' ae,zw.le ι ι'/\ye P B ι' h' w'/\gW P ι' ae e/\Q ae h'
theorem ZP (K:Ok P) {f:FuncId} {fn:Func} {c:Code} (hf:P.funcs[f]?=some fn) (hb:fn.body=some c) (k:KT) {args:List V} {Q:yO->AH->Prop}
 (hv:vc P (args.length+(fn.ntmps-args.length)) c k (zn P fn.results.toList Q) (zC 0 args) h):ku P f args h Q :=
 λ_ _ _ _ _ F ra=>callsD_of_wp hf hb (Qo K k F ra hv)
def jC:Code->List Nat->Code
 | c,[]=>c
 | .seq a _,0 :: p=>jC a p
 | .seq _ b,_ :: p=>jC b p
 | .cond _ a _,0 :: p=>jC a p
 | .cond _ _ b,_ :: p=>jC b p
 | .block _ c,_ :: p=>jC c p
 | .loop c,_ :: p=>jC c p
 | _,_=>.skip
def gX:Code->KT->List Nat->KT
 | _,k,[]=>k
 | .seq a _,k,0 :: p=>gX a k.a p
 | .seq _ b,k,_ :: p=>gX b k.b p
 | .cond _ a _,k,0 :: p=>gX a k.a p
 | .cond _ _ b,k,_ :: p=>gX b k.b p
 | .block _ c,k,_ :: p=>gX c k.a p
 | .loop c,k,_ :: p=>gX c k.a p
 | _,_,_=>.leaf
def ZI (P:Program) (N:Nat):Code->KT->List Nat->List Nat->(yT->zJ->AH->Prop)->yT->zJ->AH->Prop
 | _,_,[],_,Q=>Q
 | .seq a b,k,0 :: p,ns,Q=>ZI P N a k.a p ns (YM (λe h=>k.fin (vc P N b k.b Q (k.cut e) h)) Q)
 | .seq _ b,k,_ :: p,ns,Q=>ZI P N b k.b p ns Q
 | .cond _ a _,k,0 :: p,ns,Q=>ZI P N a k.a p ns Q
 | .cond _ _ b,k,_ :: p,ns,Q=>ZI P N b k.b p ns Q
 | .block id c,k,_ :: p,ns,Q=>ZI P N c k.a p ns (cw id Q)
 | .loop c,k,_ :: p,n :: ns,Q=>ZI P N c k.a p ns (YM (λe h=>z7 (Vu (vc P N c k.a) k.cut Q n (k.cut e) h)) Q)
 | _,_,_,_,Q=>Q
def fA:Code->Array Oper
 | .region _ ops _=>ops
 | _=>#[]
def z97:Code->Code
 | .loop c=>c
 | _=>.skip
def xG (P:Program) (N:Nat) (c:Code) (k:KT) (p:List Nat) (ns:List Nat) (Q:yT->zJ->AH->Prop) (e:zJ) (h:AH):Prop :=
 vc P N (jC c p) (gX c k p) (ZI P N c k p ns Q) e h
def xX (P:Program) (N:Nat) (c:Code) (k:KT) (p:List Nat) (ns:List Nat) (n:Nat) (Q:yT->zJ->AH->Prop) (e:zJ) (h:AH):Prop :=
 Vu (vc P N (z97 (jC c p)) (gX c k p).a) (gX c k p).cut (ZI P N c k p ns Q) n e h
def bH (P:Program) (N:Nat) (c:Code) (k:KT) (p:List Nat) (i g j:Nat) (ns:List Nat) (Q:yT->zJ->AH->Prop) (e:zJ) (h:AH):Prop :=
 tR P N (fA (jC c p)) h j ((mG (fA (jC c p)).toList).drop i) ((gX c k p).ks.drop g) (ZI P N c k p ns Q) e
def yu (P:Program) (N:Nat) (c:Code) (k:KT) (p:List Nat) (i g:Nat) (ns:List Nat) (Q:yT->zJ->AH->Prop) (e:zJ) (h:AH):Prop :=
 pz P N (fA (jC c p)) ((mG (fA (jC c p)).toList).drop i) ((gX c k p).ks.drop g) (ZI P N c k p ns Q) e h
end
section
open Go Go.RowKit
variable {P:Program}
theorem bK (v:V) (h:AH):z03 (some v) h=some (v,h):=rfl
theorem S7 (h:AH):tq (some h)=some (yw,h):=rfl
theorem qG (h:AH) (o:AO) (n:Nat):(h.make o).m n=if n=h.next then some o else h.m n:=rfl
theorem fy (h:AH) (o:AO):(h.make o).next=h.next+1:=rfl
theorem Au (h:AH) (o:AO) (k n:Nat):(h.put k o).m n=if n=k then some o else h.m n:=rfl
theorem fP (b:Bool) (x y:V) (h:AH):yc (.bool b) x y h=some (if b then x else y,h):=rfl
theorem pH {h:AH} {t:TypeId} {v:V} (hs:zf P v t=true):xR P h t v=some (.ptr (some ⟨h.next,.one t,[]⟩),h.make (.cells true (.one t) v)):=by
 unfold xR;rw [if_pos hs]
theorem Gs {h:AH} {n:Nat} {ty:nC} {p:List Nat} {b:Bool} {v w:V} {o:Nat} {u:TypeId} (hm:h.m n=some (.cells b ty v)) (hl:tN P ty p=some (o,u)) (hg:yF v p=some w) :
 z9 P h u (.ptr (some ⟨n,ty,p⟩))=some (w,h):=by
 simp only [z9,iS,hm,if_true,hl,hg,bK]
theorem Kc {h:AH} {n:Nat} {ty:nC} {p:List Nat} {v v' w x:V} {o:Nat} {u:TypeId} (hm:h.m n=some (.cells true ty v)) (hl:tN P ty p=some (o,u)) (hg:yF v p=some w) (hs:zf P x u=true)
 (hv:tX v p x=some v'):zh P h u (.ptr (some ⟨n,ty,p⟩)) x=some (yw,h.put n (.cells true ty v')):=by
 simp only [zh,XI,hm,if_true,hl,hg,hs,decide_true,Bool.true_or,Bool.and_true,hv,S7]
theorem ze {r:Option (V × AH)} {v:V} {h:AH} {K:V->AH->Prop} (hr:r=some (v,h)) (k:K v h):z0 r K:=by rw [hr];exact k
theorem z6 {x:Option V} {v:V} {h:AH} {K:V->AH->Prop} (hx:x=some v) (k:K v h):z0 (z03 x h) K:=by rw [hx];exact k
theorem zg {x:Option V} {v:V} {h:AH} {K:V->Prop} (hx:x=some v) (k:K v):zc (zj (z03 x h)) K:=by rw [hx];exact k
theorem zN {r:Option (V × AH)} {v:V} {h:AH} {K:V->Prop} (hr:r=some (v,h)) (k:K v):zc (zj r) K:=by rw [hr];exact k
theorem wM {r:Option V} {v:V} {K:V->Prop} (hr:r=some v) (k:K v):zc r K:=by rw [hr];exact k
theorem yr {r:Option (List V)} {l:List V} {K:V->Prop} (hr:r=some l) (k:K (one l)):yq r K:=by rw [hr];exact k
def D9 (P:Program) (s:TypeId) (ty:nC) (p:List Nat) (f:Nat):Bool :=
 match ul P s with
 | some (.struct fs)=>match fs[f]?,tN P ty p with
  | some g,some (_,u)=>decide (P.cellsOf g.type≠0)&&gE P u f g.offset&&(ul P g.type).isSome
  | _,_=>false
 | _=>false
theorem yM {s:TypeId} {n:Nat} {ty:nC} {p:List Nat} {f:Nat} (hc:D9 P s ty p f=true):z5 P s (.ptr (some ⟨n,ty,p⟩)) f=some (.ptr (some ⟨n,ty,p++[f]⟩)):=by
 unfold D9 at hc;unfold z5;simp only;split at hc
 ·rename_i fs hs;rw [hs];simp only;split at hc
  ·rename_i g o u hg hl;rw [hg,hl];simp only;rw [if_pos hc]
  ·cases hc
 ·cases hc
def my (P:Program) (ty:nC) (p:List Nat) (t:TypeId):Bool :=
 match tN P ty p with
 | some (_,u)=>u == t
 | none=>false
theorem X3 {ty:nC} {p:List Nat} {t:TypeId} (h:my P ty p t=true):∃ o,tN P ty p=some (o,t):=by
 unfold my at h;split at h
 ·rename_i o u hl;simp only [beq_iff_eq] at h;subst h;exact ⟨o,hl⟩
 ·cases h
theorem zR {h:AH} {n:Nat} {ty:nC} {p:List Nat} {b:Bool} {v w:V} {t:TypeId} (hm:h.m n=some (.cells b ty v)) (hc:my P ty p t=true) (hg:yF v p=some w) :
 z9 P h t (.ptr (some ⟨n,ty,p⟩))=some (w,h):=by
 obtain ⟨o,hl⟩:=X3 hc;exact Gs hm hl hg
theorem ru {h:AH} {n:Nat} {ty:nC} {p:List Nat} {v v' w x:V} {t:TypeId} (hm:h.m n=some (.cells true ty v)) (hc:my P ty p t=true) (hg:yF v p=some w) (hs:zf P x t=true)
 (hv:tX v p x=some v'):zh P h t (.ptr (some ⟨n,ty,p⟩)) x=some (yw,h.put n (.cells true ty v')):=by
 obtain ⟨o,hl⟩:=X3 hc;exact Kc hm hl hg hs hv
theorem jd {h:AH} {t:TypeId} {z:V} (hz:xk P t=some z) (hs:zf P z t=true):zV P h t=some (.ptr (some ⟨h.next,.one t,[]⟩),h.make (.cells true (.one t) z)):=by
 unfold zV;rw [hz];exact pH hs
theorem ny (K:Ok P) {f:FuncId} {fn:Func} {c:Code} (hf:P.funcs[f]?=some fn) (hb:fn.body=some c) (k:KT) {args:List V} {h:AH} {Q:yO->AH->Prop} (N:Nat) (rs:List ResultVar)
 (hN:args.length+(fn.ntmps-args.length)=N) (hr:fn.results.toList=rs) (hv:vc P N c k (zn P rs Q) (zC 0 args) h):za P f args h Q:=by
 subst hN;subst hr;exact zk K hf hb k hv
mutual
def xS:V->Bool
 | .bool _=>true
 | .int _ _=>true
 | .str _=>true
 | .agg l=>xU l
 | .yX l=>xU l
 | _=>false
def xU:List V->Bool
 | []=>true
 | v :: l=>xS v&&xU l
end
mutual
theorem fF {ι ι':zw}:∀ (v:V) (cs:List Value),xS v=true->zL P ι v cs->zL P ι' v cs
 | .bool b,cs,_,r=>by simpa only [zL] using r
 | .int k n,cs,_,r=>by simpa only [zL] using r
 | .str s,cs,_,r=>by simpa only [zL] using r
 | .agg l,cs,hf,r=>by
  simp only [xS] at hf;simp only [zL] at r ⊢;exact aL l cs hf r
 | .yX l,cs,hf,r=>by
  simp only [xS] at hf;simp only [zL] at r ⊢;obtain ⟨vs,h1,h2⟩:=r;exact ⟨vs,fC l vs hf h1,h2⟩
 | .ptr _,_,hf,_=>by simp [xS] at hf
 | .y8 _ _,_,hf,_=>by simp [xS] at hf
 | .map _,_,hf,_=>by simp [xS] at hf
 | .fn _ _ _,_,hf,_=>by simp [xS] at hf
 | .uf,_,hf,_=>by simp [xS] at hf
 | .mB _ _,_,hf,_=>by simp [xS] at hf
 | .wb,_,hf,_=>by simp [xS] at hf
 | .xF,_,hf,_=>by simp [xS] at hf
theorem aL {ι ι':zw}:∀ (l:List V) (cs:List Value),xU l=true->y5 P ι l cs->y5 P ι' l cs
 | [],cs,_,r=>by simpa only [y5] using r
 | v :: l,cs,hf,r=>by
  simp only [xU,Bool.and_eq_true] at hf;simp only [y5] at r ⊢;obtain ⟨a,b,h1,h2,h3⟩:=r;exact ⟨a,b,fF v a hf.1 h1,aL l b hf.2 h2,h3⟩
theorem fC {ι ι':zw}:∀ (l:List V) (xs:List Value),xU l=true->wo P ι l xs->wo P ι' l xs
 | [],xs,_,r=>by simpa only [wo] using r
 | v :: l,xs,hf,r=>by
  simp only [xU,Bool.and_eq_true] at hf;simp only [wo] at r ⊢;obtain ⟨y,ys,h1,h2,h3⟩:=r;refine ⟨y,ys,?_,fC l ys hf.2 h2,h3⟩;rcases h1 with rfl | ⟨h1,nF⟩
  ·simp [xS] at hf
  ·exact .inr ⟨h1,fF v _ hf.1 nF⟩
end
theorem Kl {ι ι':zw} {v:V} {x:Value} (hf:xS v=true) (r:rel P ι v x):rel P ι' v x:=by
 rcases r with rfl | ⟨h1,h2⟩
 ·simp [xS] at hf
 ·exact .inr ⟨h1,fF v _ hf h2⟩
theorem AE (W:World):ye P ⟨λb=>b<W.heap.size,W⟩ (λ_=>none) xD W :=
 ⟨λn o hm=>by simp [xD] at hm,λ_ _=>rfl,λn n' o o' L L' hm=>by simp [xD] at hm,λn o L hm=>by simp [xD] at hm,λb hb=>⟨rfl,hb⟩,rfl,rfl,rfl,Nat.le_refl _⟩
theorem xa {f:FuncId} {args:List V} {v:V} (ha:xU args=true) (hv:xS v=true) (c:za P f args xD λe _=>e=.ret v) (h:AH):za P f args h (zO v h):=by
 intro B ι W vs F r;refine (c _ _ W vs (AE W) (fC args vs ha r)).mono ?_;rintro e w' ⟨ι',h',ae,h1,h2,h3,rfl⟩;have hold:∀ b,b<W.heap.size->w'.heap[b]?=W.heap[b]?:=λb hb=>(h2.frame b hb).1;refine ⟨ι,h,.ret v,zw.le_refl _,?_,?_,rfl,rfl⟩
 ·exact (F.grow (λ_=>False) hold (λ_ h=>h.elim) h2.os h2.tape h2.output h2.size).V5 (wP.grow F _ hold h2.os h2.tape h2.output h2.size)
 ·cases e with
  | returned x=>exact Kl hv h3
  | panicked c=>exact h3.elim
  | outgrown=>exact h3.elim
theorem calls_flat {f:FuncId} {args:List V} {v:V} {W:World} {vs:List Value} (r:∀ ι,wo P ι args vs) (c:za P f args xD λe _=>e=.ret v) :
 Calls P f vs.toArray W λe w'=>Go.RowKit.Below W.heap.size W w'/\∃ x ι,e=.returned x/\rel P ι v x:=by
 refine (c _ _ W vs (AE W) (r _)).mono ?_;rintro e w' ⟨ι',h',ae,h1,h2,h3,rfl⟩;refine ⟨⟨h2.os,h2.tape,h2.output,h2.size,λb hb=>(h2.frame b hb).1⟩,?_⟩;cases e with
 | returned x=>exact ⟨x,ι',rfl,h3⟩
 | panicked c=>exact h3.elim
 | outgrown=>exact h3.elim
end
section
open Go Go.RowKit
variable {P:Program}
section
variable {t:TypeId} {k:IntKind} {a b:Int} {c:Bool}
theorem d6:zi P .add t (.int k a) (.int k b) c=some (.int k (k.wrap (a+b))):=by simp [zi,tF]
theorem iF:zi P .sub t (.int k a) (.int k b) c=some (.int k (k.wrap (a-b))):=by simp [zi,tF]
theorem Z3:zi P .mul t (.int k a) (.int k b) c=some (.int k (k.wrap (a*b))):=by simp [zi,tF]
theorem Qz (hb:b≠0):zi P .quo t (.int k a) (.int k b) c=some (.int k (k.wrap (a.tdiv b))):=by simp [zi,tF,hb]
theorem Uz (hb:b≠0):zi P .rem t (.int k a) (.int k b) c=some (.int k (a.tmod b)):=by simp [zi,tF,hb]
theorem qe:zi P .eql t (.int k a) (.int k b) c=some (.bool (a == b)):=by simp [zi,tF]
theorem nl:zi P .neq t (.int k a) (.int k b) c=some (.bool (a != b)):=by simp [zi,tF]
theorem vq:zi P .lss t (.int k a) (.int k b) c=some (.bool (decide (a<b))):=by simp [zi,tF]
theorem eH:zi P .leq t (.int k a) (.int k b) c=some (.bool (decide (a<=b))):=by simp [zi,tF]
theorem qI:zi P .gtr t (.int k a) (.int k b) c=some (.bool (decide (a>b))):=by simp [zi,tF]
theorem rB:zi P .geq t (.int k a) (.int k b) c=some (.bool (decide (a>=b))):=by simp [zi,tF]
end
section
variable {t:TypeId} {a b:List UInt8} {c:Bool}
theorem qg (h:a.length+b.length<=9223372036854775807):zi P .add t (.str a) (.str b) c=some (.str (a++b)):=by simp [zi,jj,h]
theorem aN:zi P .eql t (.str a) (.str b) c=some (.bool (a == b)):=by simp [zi,jj]
theorem bP:zi P .neq t (.str a) (.str b) c=some (.bool (!(a == b))):=by simp [zi,jj]
end
theorem mT {b:Bool}:qd .not (.bool b)=some (.bool (!b)):=rfl
theorem ue {h:AH} {t:TypeId} {s:List UInt8} (hc:(match ul P t with | some .string=>true | _=>false)=true):zr P h .len [t] [.str s]=some (.int .i64 s.length,h):=by
 split at hc
 ·rename_i hu;simp only [zr,hu,Kw,bK]
 ·cases hc
def gV (P:Program) (s d:TypeId) (k:IntKind):Bool:=(ul P s).isSome&&(match ul P d with | some (.int k')=>decide (k'=k) | _=>false)
theorem xV {h:AH} {s d:TypeId} {k0:IntKind} {n:Int} (k:IntKind) (hc:gV P s d k=true):y9 P h s d (.int k0 n)=some (.int k (k.wrap n)):=by
 unfold gV at hc;simp only [Bool.and_eq_true,Option.isSome_iff_exists] at hc;obtain ⟨⟨x,hx⟩,h2⟩:=hc;split at h2
 ·rename_i k' hk;simp only [decide_eq_true_eq] at h2;subst h2;simp only [y9,hx,hk]
 ·cases h2
theorem z8 {a b:Prop} (e:a=b) (h:b):a:=e▸h
theorem sm {a b:Prop} (e:a=b) (h:b):z7 a:=z7.of (z8 e h)
theorem sE {x y:Prop} (h:x):vp (.bool true) true x y:=h
theorem jo {x y:Prop} (h:y):vp (.bool false) true x y:=h
theorem tA {x y:Prop} (h:y):vp (.bool true) false x y:=h
theorem xc {x y:Prop} (h:x):vp (.bool false) false x y:=h
theorem aQ {w:Bool} {x y:Prop} (h:y):vp yw w x y:=h
theorem xz {x y:Prop} (h:x):zP (.bool true) x y:=h
theorem yZ {x y:Prop} (h:y):zP (.bool false) x y:=h
theorem qY {b:Bool} {x y:Prop} (h1:b=true->x) (h2:b=false->y):vp (.bool b) true x y:=by
 cases b
 ·exact h2 rfl
 ·exact h1 rfl
theorem pj {b:Bool} {x y:Prop} (h1:b=false->x) (h2:b=true->y):vp (.bool b) false x y:=by
 cases b
 ·exact h1 rfl
 ·exact h2 rfl
theorem wJ {b:Bool} {x y:Prop} (h1:b=true->x) (h2:b=false->y):zP (.bool b) x y:=by
 cases b
 ·exact h2 rfl
 ·exact h1 rfl
theorem gD {x y:V} {h:AH}:yc (.bool true) x y h=some (x,h):=rfl
theorem j9 {x y:V} {h:AH}:yc (.bool false) x y h=some (y,h):=rfl
theorem z6H {b:Bool} (h:(!b)=true):b=false:=by cases b <;> first | rfl | cases h
theorem z6A {b:Bool} (h:(!b)=false):b=true:=by cases b <;> first | rfl | cases h
theorem vL {f:FuncId} {args:List V} {h:AH} {v:V} {K X:V->AH->Prop} (c:za P f args h (zO v h)) (k:K v h):za P f args h (zS K X) :=
 c.mono λe h' q=>by
  cases e with
  | ret u=>obtain ⟨rfl,rfl⟩:=q;exact k
  | panic _=>exact q.elim
end
end Go.Ab
end
