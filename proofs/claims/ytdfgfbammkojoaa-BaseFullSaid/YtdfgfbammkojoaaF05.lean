import Derived.Test.YtdfgfbammkojoaaF04
import Derived.Defers
set_option linter.unusedVariables false
set_option linter.unusedSimpArgs false
namespace Go.Ab
open Go Go.RowKit
variable {P:Program} {ι:Names} {W:World} {B:Base} {h:AH} {D:List AD}
inductive KT where
 | leaf
 | one (a:KT)
 | two (a b:KT)
 | seq (a b:KT) (keep:List Nat)
 | join (a b:KT) (keep:List Nat)
 | loop (a:KT) (keep:List Nat)
 | reg (ks:List (List Nat))
 | eff (es:List Nat)
 | flo (es fl:List Nat) (l:Nat)
 | efn (es fl:List Nat) (l kk:Nat)
abbrev vcSeq (k:Env→AH→Prop) (Q:AExit→Env→AH→Prop) (x:AExit) (e:Env) (h:AH):Prop :=
 match x with
 | .normal=>k e h
 | x=>Q x e h
abbrev manyR:Nat:=1000000
def iterN (body:(AExit→Env→AH→Prop)→Env→AH→Prop) (cut:Env→Env) (Q:AExit→Env→AH→Prop):Nat→Env→AH→Prop
 | 0=>fun _ _=>False
 | k + 1=>fun e h=>body (vcSeq (fun e h=>Meet (iterN body cut Q k (cut e) h)) Q) e h
def iterE (body:(AExit→Env→AH→Prop)→Env→AH→Prop) (Q:AExit→Env→AH→Prop):Nat→Env→AH→Prop
 | 0=>fun _ _=>False
 | k + 1=>fun e h=>body (vcSeq (fun e h=>iterE body Q k e h) Q) e h
abbrev vcBlock (id:Nat) (Q:AExit→Env→AH→Prop) (x:AExit) (e:Env) (h:AH):Prop :=
 match x with
 | .exit i=>match Nat.beq i id with
   | true=>Q .normal e h
   | false=>Q (.exit i) e h
 | x=>Q x e h
def vcIf (c:V) (a b:Prop):Prop :=
 match c with
 | .bool t=>if t=true then a else b
 | _=>False
def KT.a:KT→KT
 | .eff _=>.leaf
 | .flo _ _ _=>.leaf
 | .efn _ _ _ _=>.leaf
 | .one a=>a
 | .two a _=>a
 | .seq a _ _=>a
 | .join a _ _=>a
 | .loop a _=>a
 | .leaf=>.leaf
 | .reg _=>.leaf
def KT.ks:KT→List (List Nat)
 | .reg ks=>ks
 | _=>[]
def KT.b:KT→KT
 | .two _ b=>b
 | .seq _ b _=>b
 | .join _ b _=>b
 | _=>.leaf
def KT.cut:KT→Env→Env
 | .seq _ _ l,e=>Env.keep l e
 | .join _ _ l,e=>Env.keep l e
 | .loop _ l,e=>Env.keep l e
 | _,e=>e
abbrev KT.fin (k:KT) (p:Prop):Prop :=
 match k with
 | .join _ _ _=>Meet p
 | _=>p
theorem KT.fin_of {k:KT} {p:Prop} (h:k.fin p):p:=by cases k <;> first | exact h | exact Meet.h h
def vcReg (P:Program) (N:Nat) (ops:Array Oper) (k:KT) (Q:AExit→Env→AH→Prop) (e:Env) (h:AH):Prop :=
 match k with
 | .eff es=>bsel (draw2Ok P N ops es) (vc2 P N (befs ops) es 0 ops.toList [h] h [] (Q .normal) e) False
 | .flo es fl l=>bsel (draw3Ok P N ops es fl l) (vc3 P N (vopsOf ops fl l) (befs (vopsOf ops fl l)) es fl 0 (vopsOf ops fl l).toList [h] h [] (Q .normal) (clr N ops fl e)) False
 | .efn es fl l kk=>bsel (draw4Ok P N ops es fl l kk) (vc4 P N (vopsOf ops fl l) (befs (vopsOf ops fl l)) es fl kk 0 (vopsOf ops fl l).toList [h] h [] (Q .normal) (clr N ops fl e)) False
 | k=>bsel (drawOk P ops) (vcSegsD P N ops h 0 (segs ops.toList) k.ks Q e) False
theorem vcReg_ok (K:Ok P) {N:Nat} {ops:Array Oper} {k:KT} {id:Nat} {Q:AExit→Env→AH→Prop} {e:Env} {a:Act} (F:Fits P B ι h W) (r:relE P ι N D e a) (hv:vcReg P N ops k Q e h):(Code.region id ops true).wp P (Post P B ι N D Q) a W:=by
 have one:∀ ks,bsel (drawOk P ops) (vcSegsD P N ops h 0 (segs ops.toList) ks Q e) False→(Code.region id ops true).wp P (Post P B ι N D Q) a W:=by
   intro ks hv
   cases hd:drawOk P ops with
   | false=>rw [hd] at hv;exact hv.elim
   | true=>rw [hd] at hv;exact vcDraw_ok K hd F r hv
 cases k with
 | eff es =>
   replace hv:bsel (draw2Ok P N ops es) _ False:=hv
   cases hd:draw2Ok P N ops es with
   | false=>rw [hd] at hv;exact hv.elim
   | true=>rw [hd] at hv;exact vcDraw2_ok K hd F r hv
 | flo es fl l =>
   replace hv:bsel (draw3Ok P N ops es fl l) _ False:=hv
   cases hd:draw3Ok P N ops es fl l with
   | false=>rw [hd] at hv;exact hv.elim
   | true=>rw [hd] at hv;exact vcDraw3_ok K hd F r hv
 | efn es fl l kk =>
   replace hv:bsel (draw4Ok P N ops es fl l kk) _ False:=hv
   cases hd:draw4Ok P N ops es fl l kk with
   | false=>rw [hd] at hv;exact hv.elim
   | true=>rw [hd] at hv;exact vcDraw4_ok K hd F r hv
 | _=>exact one _ hv
def vc (P:Program) (N:Nat):Code→KT→(AExit→Env→AH→Prop)→Env→AH→Prop
 | .skip,_,Q,e,h=>Q .normal e h
 | .region _ ops draw,k,Q,e,h=>bsel draw (vcReg P N ops k Q e h) (vcSegs P N ops (segs ops.toList) k.ks Q e h)
 | .seq a b,k,Q,e,h=>vc P N a k.a (vcSeq (fun e h=>k.fin (vc P N b k.b Q (k.cut e) h)) Q) e h
 | .cond c a b,k,Q,e,h=>vcIf (opnd e c) (vc P N a k.a Q e h) (vc P N b k.b Q e h)
 | .block id c,k,Q,e,h=>vc P N c k.a (vcBlock id Q) e h
 | .loop c,k,Q,e,h=>match k with
   | .leaf=>iterE (vc P N c .leaf) Q manyR e h
   | k=>∃ n,Meet (iterN (vc P N c k.a) k.cut Q n (k.cut e) h)
 | .exit id,_,Q,e,h=>Q (.exit id) e h
 | .ret,_,Q,e,h=>Q .ret e h
 | .label _,_,Q,e,h=>Q .normal e h
 | .scope _,_,_,_,_=>False
 | .goto _,_,_,_,_=>False
 | .rangeFunc _ _ _ _,_,_,_,_=>False
 | .refuse _,_,_,_,_=>False
theorem relX_normal {ι:Names} {ax:AExit} (r:relX P ι ax .normal):ax=.normal:=by cases ax <;> first | rfl | exact r.elim
theorem relX_exit {ι:Names} {ax:AExit} {i:Nat} (r:relX P ι ax (.exit i)):ax=.exit i:=by
 cases ax <;> first | exact r.elim | (simp only [relX] at r;rw [r])
theorem relX_other {ι:Names} {ax:AExit} {x:Exit} (r:relX P ι ax x) (hn:x≠.normal):ax≠.normal:=by
 rintro rfl;cases x <;> first | exact hn rfl | exact r.elim
theorem post_seq {N:Nat} {k:Env→AH→Prop} {Q:AExit→Env→AH→Prop} {next:Act→World→Prop} {x:Exit} {a:Act} {w:World}
   (p:Post P B ι N D (vcSeq k Q) x a w) (hn:∀ ι' h' e' a w,Names.le ι ι'→Fits P B ι' h' w→relE P ι' N D e' a→k e' h'→next a w):Exit.then next (Post P B ι N D Q) x a w:=by
 obtain ⟨ι',h',e',ax,h1,h2,h3,h4,h5⟩:=p
 cases x with
 | normal=>obtain rfl:=relX_normal h4;exact hn ι' h' e' a w h1 h2 h3 h5
 | _ =>
   have:=relX_other h4 (by simp)
   refine ⟨ι',h',e',ax,h1,h2,h3,h4,?_⟩
   cases ax <;> first | exact absurd rfl this | exact h5
theorem post_block {N id:Nat} {Q:AExit→Env→AH→Prop} {x:Exit} {a:Act} {w:World} (p:Post P B ι N D (vcBlock id Q) x a w):Exit.inBlock id (Post P B ι N D Q) x a w:=by
 obtain ⟨ι',h',e',ax,h1,h2,h3,h4,h5⟩:=p
 cases x with
 | exit i =>
   obtain rfl:=relX_exit h4
   simp only [vcBlock] at h5
   simp only [Exit.inBlock]
   cases hb:Nat.beq i id with
   | true=>rw [hb] at h5;rw [if_pos (Nat.eq_of_beq_eq_true hb)];exact ⟨ι',h',e',.normal,h1,h2,h3,trivial,h5⟩
   | false=>rw [hb] at h5;rw [if_neg (Nat.ne_of_beq_eq_false hb)];exact ⟨ι',h',e',.exit i,h1,h2,h3,rfl,h5⟩
 | normal=>obtain rfl:=relX_normal h4;exact ⟨ι',h',e',.normal,h1,h2,h3,h4,h5⟩
 | _ =>
   refine ⟨ι',h',e',ax,h1,h2,h3,h4,?_⟩
   cases ax <;> first | exact h5 | exact h4.elim
theorem vcIf_ok {N:Nat} {c:Operand} {x y:Code} {e:Env} {a:Act} {p q:Prop} (r:relE P ι N D e a) (hv:vcIf (opnd e c) p q) {Q:Exit→Act→World→Prop} (h1:p→x.wp P Q a W) (h2:q→y.wp P Q a W):(Code.cond c x y).wp P Q a W:=by
 unfold vcIf at hv
 split at hv
 · rename_i t hc
   have:=rel_opnd r c
   rw [hc] at this
   have:=rel_bool this
   refine wp_cond this ?_
   cases t
   · exact h2 (by simpa using hv)
   · exact h1 (by simpa using hv)
 · exact hv.elim
theorem loop_ok {N:Nat} {c:Code} {body:(AExit→Env→AH→Prop)→Env→AH→Prop} {cut:Env→Env} {Q:AExit→Env→AH→Prop}
   (hb:∀ (Q:AExit→Env→AH→Prop) (ι:Names) (h:AH) (W:World) (e:Env) (a:Act),Fits P B ι h W→relE P ι N D e a→body Q e h→c.wp P (Post P B ι N D Q) a W)
   (hc:∀ (ι:Names) (e:Env) (a:Act),relE P ι N D e a→relE P ι N D (cut e) a):∀ (n:Nat) (ι:Names) (h:AH) (W:World) (e:Env) (a:Act),Fits P B ι h W→relE P ι N D e a→iterN body cut Q n e h →
   Code.rounds P c (Post P B ι N D Q) n a W
 | 0,_,_,_,_,_,_,_,hi=>hi.elim
 | n + 1,ι,h,W,e,a,F,r,hi=>by
   refine wp_mono (hb _ ι h W e a F r hi) ?_
   intro x a' w' p
   refine post_seq p ?_
   intro ι' h' e' a w hl F' r' hk
   have:=loop_ok hb hc n ι' h' w (cut e') a F' (hc _ _ _ r') hk.h
   exact rounds_mono (fun _ _ _ p=>Post.le hl p) n a w this
where
 rounds_mono {c:Code} {Q Q':Exit→Act→World→Prop} (hq:∀ x a w,Q x a w→Q' x a w):∀ (n:Nat) (a:Act) (w:World),Code.rounds P c Q n a w→Code.rounds P c Q' n a w
   | 0,_,_,hh=>hh.elim
   | n + 1,a,w,hh=>wp_mono hh fun x a w p=>by
       cases x with
       | normal=>exact rounds_mono hq n a w p
       | _=>exact hq _ _ _ p
theorem loopE_ok {N:Nat} {c:Code} {body:(AExit→Env→AH→Prop)→Env→AH→Prop} {Q:AExit→Env→AH→Prop}
   (hb:∀ (Q:AExit→Env→AH→Prop) (ι:Names) (h:AH) (W:World) (e:Env) (a:Act),Fits P B ι h W→relE P ι N D e a→body Q e h→c.wp P (Post P B ι N D Q) a W) :
   ∀ (n:Nat) (ι:Names) (h:AH) (W:World) (e:Env) (a:Act),Fits P B ι h W→relE P ι N D e a→iterE body Q n e h→Code.rounds P c (Post P B ι N D Q) n a W
 | 0,_,_,_,_,_,_,_,hi=>hi.elim
 | n + 1,ι,h,W,e,a,F,r,hi=>by
   refine wp_mono (hb _ ι h W e a F r hi) ?_
   intro x a' w' p
   refine post_seq p ?_
   intro ι' h' e' a w hl F' r' hk
   have:=loopE_ok hb n ι' h' w e' a F' r' hk
   exact loop_ok.rounds_mono (fun _ _ _ p=>Post.le hl p) n a w this
theorem relE_cut {N:Nat} (k:KT) (ι:Names) (e:Env) (a:Act) (r:relE P ι N D e a):relE P ι N D (k.cut e) a:=by
 cases k <;> first | exact r | exact relE_keep _ r
theorem vc_ok (K:Ok P) {N:Nat}:∀ (c:Code) (k:KT) (Q:AExit→Env→AH→Prop) (ι:Names) (h:AH) (W:World) (e:Env) (a:Act),Fits P B ι h W→relE P ι N D e a→vc P N c k Q e h→c.wp P (Post P B ι N D Q) a W
 | .skip,k,Q,ι,h,W,e,a,F,r,hv=>by
   simp only [vc] at hv
   exact wp_skip ⟨ι,h,e,.normal,Names.le_refl _,F,r,trivial,hv⟩
 | .region id ops draw,k,Q,ι,h,W,e,a,F,r,hv=>by
   simp only [vc] at hv
   cases draw with
   | true=>exact vcReg_ok K F r hv
   | false =>
     have:=vcSegs_ok K (segs ops.toList) k.ks (segs_guard _) (Names.le_refl _) F r hv
     rw [segs_flat] at this
     exact wp_region_list this
 | .seq x y,k,Q,ι,h,W,e,a,F,r,hv=>by
   simp only [vc] at hv
   refine wp_seq (wp_mono (vc_ok K x k.a _ ι h W e a F r hv) ?_)
   intro x' a' w' p
   refine post_seq p ?_
   intro ι' h' e' a w hl F' r' hk
   exact wp_mono (vc_ok K y k.b Q ι' h' w _ a F' (relE_cut _ _ _ _ r') (KT.fin_of hk)) fun _ _ _ p=>Post.le hl p
 | .cond c x y,k,Q,ι,h,W,e,a,F,r,hv=>by
   simp only [vc] at hv
   exact vcIf_ok r hv (fun hp=>vc_ok K x k.a Q ι h W e a F r hp) (fun hq=>vc_ok K y k.b Q ι h W e a F r hq)
 | .block id c,k,Q,ι,h,W,e,a,F,r,hv=>by
   simp only [vc] at hv
   exact wp_block (wp_mono (vc_ok K c k.a _ ι h W e a F r hv) fun x a w p=>post_block p)
 | .loop c,k,Q,ι,h,W,e,a,F,r,hv=>by
   simp only [vc] at hv
   split at hv
   · exact wp_loop_rounds manyR (loopE_ok (fun Q ι h W e a F r hb=>vc_ok K c .leaf Q ι h W e a F r hb) manyR ι h W _ a F r hv)
   · obtain ⟨n,hn⟩:=hv
     exact wp_loop_rounds n (loop_ok (fun Q ι h W e a F r hb=>vc_ok K c _ Q ι h W e a F r hb) (relE_cut _) n ι h W _ a F (relE_cut _ _ _ _ r) hn.h)
 | .exit id,k,Q,ι,h,W,e,a,F,r,hv=>by
   simp only [vc] at hv
   exact wp_exit ⟨ι,h,e,.exit id,Names.le_refl _,F,r,rfl,hv⟩
 | .ret,k,Q,ι,h,W,e,a,F,r,hv=>by
   simp only [vc] at hv
   exact wp_ret ⟨ι,h,e,.ret,Names.le_refl _,F,r,trivial,hv⟩
 | .label l,k,Q,ι,h,W,e,a,F,r,hv=>by
   simp only [vc] at hv
   exact wp_label ⟨ι,h,e,.normal,Names.le_refl _,F,r,trivial,hv⟩
 | .scope c,k,Q,ι,h,W,e,a,F,r,hv=>by simp only [vc] at hv
 | .goto l,k,Q,ι,h,W,e,a,F,r,hv=>by simp only [vc] at hv
 | .rangeFunc _ _ _ _,k,Q,ι,h,W,e,a,F,r,hv=>by simp only [vc] at hv
 | .refuse _,k,Q,ι,h,W,e,a,F,r,hv=>by simp only [vc] at hv
theorem aLoad_same (K:Ok P) (F:Fits P B ι h W) {a:PA} {t:TypeId} {v:V} {x:Addr} (hl:aLoad P h a t=some v) (hx:relA P ι a x):∃ z,(loadVar t x).run P W=.ok z W∧rel P ι v z:=by
 simp only [aLoad] at hl
 split at hl
 · rename_i own ty v0 hm
   split at hl
   · rename_i hty
     split at hl
     · rename_i o u hlay
       split at hl
       · rename_i w hg
         obtain ⟨L,hL,hobj⟩:=F.obj _ _ hm
         obtain ⟨h1,h2,a1,m,c,elem,fr,h3,h4,h5,_,_⟩:=obj_at K.lay hobj hlay hg
         obtain ⟨L',o',t',g1,g2,g3,rfl⟩:=hx
         rw [hL] at g1;cases g1
         rw [← hty,hlay] at g3
         simp only [Option.some.injEq,Prod.mk.injEq] at g3
         obtain ⟨rfl,rfl⟩:=g3
         rw [← h4]
         split at hl
         · rename_i hut
           subst hut
           cases hl
           obtain ⟨y,k1,k2,_⟩:=run_loadVar' K.lay h3 h2 h5
           exact ⟨y,k1,k2⟩
         · split at hl
           · rename_i hsh
             cases hl
             obtain ⟨y,k1,k2,_⟩:=run_loadVar' K.lay h3 hsh h5
             exact ⟨y,k1,k2⟩
           · cases hl
       · cases hl
     · cases hl
   · cases hl
 · cases hl
def aRes (P:Program) (e:Env) (h:AH):List ResultVar→Option (List V)
 | []=>some []
 | .tmp t :: rs=>match aRes P e h rs with
   | some l=>some (e.get t :: l)
   | none=>none
 | .cell a t :: rs=>match e.get a with
   | .ptr (some p)=>match aLoad P h p t,aRes P e h rs with
     | some v,some l=>some (v :: l)
     | _,_=>none
   | _=>none
def one (l:List V):V :=
 match l with
 | [v]=>v
 | l=>.tup l
theorem aRes_ok (K:Ok P) {N:Nat} {e:Env} {a:Act} (F:Fits P B ι h W) (r:relE P ι N D e a):∀ (rs:List ResultVar) (l:List V),aRes P e h rs=some l →
   ∃ vs,(rs.mapM fun x=>match x with
     | .tmp t=>pure (a.tmps.getD t undef)
     | .cell p t=>do loadVar t (← asAddr (a.tmps.getD p undef)):Sem (List Value)).run P W=.ok vs W∧relL P ι l vs
 | [],l,hl=>by simp only [aRes,Option.some.injEq] at hl;subst hl;exact ⟨[],rfl,relL_nil⟩
 | .tmp t :: rs,l,hl=>by
   simp only [aRes] at hl
   split at hl
   · rename_i l' h'
     cases hl
     obtain ⟨vs,h1,h2⟩:=aRes_ok K F r rs l' h'
     refine ⟨a.tmps.getD t undef :: vs,?_,relL_cons (r.2.2 t) h2⟩
     simp only [List.mapM_cons,Sem.run_bind,Sem.run_pure,Result.andThen_ok,h1]
   · cases hl
 | .cell p t :: rs,l,hl=>by
   simp only [aRes] at hl
   split at hl
   · rename_i pa hp
     split at hl
     · rename_i v l' hv h'
       cases hl
       obtain ⟨vs,h1,h2⟩:=aRes_ok K F r rs l' h'
       have:=r.2.2 p
       rw [hp] at this
       obtain ⟨x,hx1,hx2⟩:=rel_ptr this
       -- a load changes nothing
       obtain ⟨z,g1,g2⟩:=aLoad_same K F hv hx2
       refine ⟨z :: vs,?_,relL_cons g2 h2⟩
       have hadr:(asAddr (a.tmps.getD p undef)).run P W=.ok x W:=by rw [hx1];rfl
       simp only [List.mapM_cons,Sem.run_bind,hadr,Sem.run_pure,Result.andThen_ok,g1,h1]
     · cases hl
   · cases hl
def bindR (r:Option (List V)) (k:V→Prop):Prop :=
 match r with
 | some l=>k (one l)
 | none=>False
theorem bindR_some {r:Option (List V)} {k:V→Prop} (hb:bindR r k):∃ l,r=some l∧k (one l):=by
 unfold bindR at hb;split at hb
 · exact ⟨_,rfl,hb⟩
 · exact hb.elim
def vcRet (P:Program) (rs:List ResultVar) (Q:AEnd→AH→Prop):AExit→Env→AH→Prop
 | .normal,e,h=>bindR (aRes P e h rs) fun v=>Q (.ret v) h
 | .ret,e,h=>bindR (aRes P e h rs) fun v=>Q (.ret v) h
 | .panic v,_,h=>Q (.panic v) h
 | _,_,_=>False
def initEnv:Nat→List V→Env
 | _,[]=>[]
 | i,v :: vs=>(i,v) :: initEnv (i + 1) vs
theorem initEnv_get:∀ (l:List V) (i t:Nat),Env.get (initEnv i l) t=if i≤t then (l[t - i]?).getD .und else .und
 | [],i,t=>by simp [initEnv,Env.get]
 | v :: l,i,t=>by
   simp only [initEnv,Env.get]
   by_cases h:t=i
   · subst h;simp
   · rw [if_neg h,initEnv_get l (i + 1) t]
     by_cases h1:i≤t
     · rw [if_pos (by omega),if_pos h1]
       have:t - i=(t - (i + 1)) + 1:=by omega
       rw [this];simp
     · rw [if_neg (by omega),if_neg h1]
theorem body_wp (K:Ok P) {fn:Func} {c:Code} (k:KT) {args:List V} {Q:AEnd→AH→Prop} {vs:List Value} (F:Fits P B ι h W) (ra:relL P ι args vs)
   (hv:vc P (args.length + (fn.ntmps - args.length)) c k (vcRet P fn.results.toList Q) (initEnv 0 args) h) :
   c.wp P (bodyPost P fn fun e w'=>∃ ι' h' ae,Names.le ι ι'∧Fits P B ι' h' w'∧relEnd P ι' ae e∧Q ae h') { tmps:=vs.toArray++Array.replicate (fn.ntmps - vs.toArray.size) undef,defers:=[] } W:=by
 have hlen:=relL_length ra
 refine (wp_mono (vc_ok (D:=[]) K c k _ ι h W (initEnv 0 args) _ F ?_ hv) ?_)
 · refine ⟨by simp [hlen],rfl,fun t=>?_⟩
   rw [initEnv_get]
   simp only [Nat.zero_le,if_true,Nat.sub_zero]
   cases ht:args[t]? with
   | none=>exact .inl rfl
   | some v =>
     obtain ⟨x,h1,h2⟩:=relL_get ra t ht
     have hlt:t < vs.length:=by
       rcases Nat.lt_or_ge t vs.length with h | h
       · exact h
       · simp [List.getElem?_eq_none h] at h1
     have:(vs.toArray++Array.replicate (fn.ntmps - vs.toArray.size) undef).getD t undef=x:=by
       rw [Array.getD_eq_getD_getElem?,Array.getElem?_append_left (by simpa using hlt)]
       simp [h1]
     simp only [Option.getD_some]
     rw [this];exact h2
 · intro x a w p
   obtain ⟨ι',h',e',ax,p1,p2,p3,p4,p5⟩:=p
   have good:∀ l,aRes P e' h' fn.results.toList=some l→Q (.ret (one l)) h'→a.defers=[]∧∃ v,(results fn a.tmps).run P w=.ok v w∧∃ ι' h'' ae,Names.le ι ι'∧Fits P B ι' h'' w∧relEnd P ι' ae (.returned v)∧Q ae h'':=by
     intro l hl hq
     obtain ⟨vs,g1,g2⟩:=aRes_ok K p2 p3 fn.results.toList l hl
     refine ⟨p3.2.1,(if h:vs.toArray.size=1 then vs.toArray[0] else .tuple vs.toArray),?_,ι',h',.ret (one l),p1,p2,?_,hq⟩
     · have hmap : (fn.results.mapM fun x => match x with
           | .tmp t=>pure (a.tmps.getD t undef)
           | .cell p t=>do loadVar t (← asAddr (a.tmps.getD p undef)):Sem (Array Value)).run P w=.ok vs.toArray w:=by
         rw [Array.mapM_eq_mapM_toList]
         simp only [Sem.run_map,g1,Result.andThen_ok]
       unfold results
       rw [Sem.run_bind]
       refine Eq.trans (congrArg (fun r=>Result.andThen r _) hmap) ?_
       simp only [Result.andThen_ok,Sem.run_pure]
     · have hll:=relL_length g2
       by_cases h1:vs.toArray.size=1
       · rw [dif_pos h1]
         cases l with
         | nil=>simp at hll;simp [hll] at h1
         | cons v l =>
           cases l with
           | nil =>
             obtain ⟨y,ys,k1,k2,rfl⟩:=relL_cons_iff.1 g2
             simp only [relL] at k2;subst k2
             exact k1
           | cons v' l=>simp at h1;simp [h1] at hll
       · rw [dif_neg h1]
         have:one l=.tup l:=by
           cases l with
           | nil=>rfl
           | cons v l =>
             cases l with
             | nil=>simp at hll;simp [hll] at h1
             | cons _ _=>rfl
         rw [this]
         exact .inr ⟨rfl,by simp only [relC,Value.cells];exact ⟨vs,g2,rfl⟩⟩
   cases x with
   | normal =>
     obtain rfl:=relX_normal p4
     simp only [vcRet] at p5
     obtain ⟨l,hl,p5⟩:=bindR_some p5
     exact good l hl p5
   | ret =>
     have:ax=.ret:=by cases ax <;> first | rfl | exact p4.elim
     subst this
     simp only [vcRet] at p5
     obtain ⟨l,hl,p5⟩:=bindR_some p5
     exact good l hl p5
   | panic chain =>
     cases ax <;> first | exact p4.elim | skip
     rename_i v
     exact ⟨p3.2.1,ι',h',.panic v,p1,p2,p4,p5⟩
   | exit i=>cases ax <;> first | exact p4.elim | exact p5.elim
   | goto i=>cases ax <;> first | exact p4.elim | exact p5.elim
   | outgrown=>cases ax <;> exact p4.elim
theorem acalls_of_vc (K:Ok P) {f:FuncId} {fn:Func} {c:Code} (hf:P.funcs[f]?=some fn) (hb:fn.body=some c) (k:KT) {args:List V} {Q:AEnd→AH→Prop}
   (hv:vc P (args.length + (fn.ntmps - args.length)) c k (vcRet P fn.results.toList Q) (initEnv 0 args) h):ACalls P f args h Q :=
 fun _ _ _ _ F ra=>calls_of_wp hf hb (body_wp K k F ra hv)
def ACallsD (P:Program) (f:FuncId) (args:List V) (h:AH) (Q:AEnd→AH→Prop):Prop :=
 ∀ (B:Base) (ι:Names) (W:World) (vs:List Value) (u:FrameMode),Fits P B ι h W→relL P ι args vs →
   CallsD P f vs.toArray u W fun e u' w'=>u'=u∧∃ ι' h' ae,Names.le ι ι'∧Fits P B ι' h' w'∧relEnd P ι' ae e∧Q ae h'
theorem acallsD_of_vc (K:Ok P) {f:FuncId} {fn:Func} {c:Code} (hf:P.funcs[f]?=some fn) (hb:fn.body=some c) (k:KT) {args:List V} {Q:AEnd→AH→Prop}
   (hv:vc P (args.length + (fn.ntmps - args.length)) c k (vcRet P fn.results.toList Q) (initEnv 0 args) h):ACallsD P f args h Q :=
 fun _ _ _ _ _ F ra=>callsD_of_wp hf hb (body_wp K k F ra hv)
def subC:Code→List Nat→Code
 | c,[]=>c
 | .seq a _,0 :: p=>subC a p
 | .seq _ b,_ :: p=>subC b p
 | .cond _ a _,0 :: p=>subC a p
 | .cond _ _ b,_ :: p=>subC b p
 | .block _ c,_ :: p=>subC c p
 | .loop c,_ :: p=>subC c p
 | _,_=>.skip
def subK:Code→KT→List Nat→KT
 | _,k,[]=>k
 | .seq a _,k,0 :: p=>subK a k.a p
 | .seq _ b,k,_ :: p=>subK b k.b p
 | .cond _ a _,k,0 :: p=>subK a k.a p
 | .cond _ _ b,k,_ :: p=>subK b k.b p
 | .block _ c,k,_ :: p=>subK c k.a p
 | .loop c,k,_ :: p=>subK c k.a p
 | _,_,_=>.leaf
def ctxQ (P:Program) (N:Nat):Code→KT→List Nat→List Nat→(AExit→Env→AH→Prop)→AExit→Env→AH→Prop
 | _,_,[],_,Q=>Q
 | .seq a b,k,0 :: p,ns,Q=>ctxQ P N a k.a p ns (vcSeq (fun e h=>k.fin (vc P N b k.b Q (k.cut e) h)) Q)
 | .seq _ b,k,_ :: p,ns,Q=>ctxQ P N b k.b p ns Q
 | .cond _ a _,k,0 :: p,ns,Q=>ctxQ P N a k.a p ns Q
 | .cond _ _ b,k,_ :: p,ns,Q=>ctxQ P N b k.b p ns Q
 | .block id c,k,_ :: p,ns,Q=>ctxQ P N c k.a p ns (vcBlock id Q)
 | .loop c,k,_ :: p,n :: ns,Q=>ctxQ P N c k.a p ns (vcSeq (fun e h=>Meet (iterN (vc P N c k.a) k.cut Q n (k.cut e) h)) Q)
 | _,_,_,_,Q=>Q
def regOps:Code→Array Oper
 | .region _ ops _=>ops
 | _=>#[]
def loopC:Code→Code
 | .loop c=>c
 | _=>.skip
def vcAt (P:Program) (N:Nat) (c:Code) (k:KT) (p:List Nat) (ns:List Nat) (Q:AExit→Env→AH→Prop) (e:Env) (h:AH):Prop :=
 vc P N (subC c p) (subK c k p) (ctxQ P N c k p ns Q) e h
def loopAt (P:Program) (N:Nat) (c:Code) (k:KT) (p:List Nat) (ns:List Nat) (n:Nat) (Q:AExit→Env→AH→Prop) (e:Env) (h:AH):Prop :=
 iterN (vc P N (loopC (subC c p)) (subK c k p).a) (subK c k p).cut (ctxQ P N c k p ns Q) n e h
def segAtD (P:Program) (N:Nat) (c:Code) (k:KT) (p:List Nat) (i g j:Nat) (ns:List Nat) (Q:AExit→Env→AH→Prop) (e:Env) (h:AH):Prop :=
 vcSegsD P N (regOps (subC c p)) h j ((segs (regOps (subC c p)).toList).drop i) ((subK c k p).ks.drop g) (ctxQ P N c k p ns Q) e
def segAt (P:Program) (N:Nat) (c:Code) (k:KT) (p:List Nat) (i g:Nat) (ns:List Nat) (Q:AExit→Env→AH→Prop) (e:Env) (h:AH):Prop :=
 vcSegs P N (regOps (subC c p)) ((segs (regOps (subC c p)).toList).drop i) ((subK c k p).ks.drop g) (ctxQ P N c k p ns Q) e h
end Go.Ab
namespace Go.Ab
open Go Go.RowKit
variable {P:Program}
theorem still_mk (v:V) (h:AH):still (some v) h=some (v,h):=rfl
theorem quietly_mk (h:AH):quietly (some h)=some (hole,h):=rfl
theorem make_m (h:AH) (o:AO) (n:Nat):(h.make o).m n=if n=h.next then some o else h.m n:=rfl
theorem make_next (h:AH) (o:AO):(h.make o).next=h.next + 1:=rfl
theorem put_m (h:AH) (o:AO) (k n:Nat):(h.put k o).m n=if n=k then some o else h.m n:=rfl
theorem pick_b (b:Bool) (x y:V) (h:AH):aPick (.bool b) x y h=some (if b then x else y,h):=rfl
theorem new_mk {h:AH} {t:TypeId} {v:V} (hs:hasShape P v t=true):aNew P h t v=some (.ptr (some ⟨h.next,.one t,[]⟩),h.make (.cells true (.one t) v)):=by
 unfold aNew;rw [if_pos hs]
theorem load_mk {h:AH} {n:Nat} {ty:BTy} {p:List Nat} {b:Bool} {v w:V} {o:Nat} {u:TypeId} (hm:h.m n=some (.cells b ty v)) (hl:layB P ty p=some (o,u)) (hg:getV v p=some w) :
   aLoadV P h u (.ptr (some ⟨n,ty,p⟩))=some (w,h):=by
 simp only [aLoadV,aLoad,hm,if_true,hl,hg,still_mk]
theorem store_mk {h:AH} {n:Nat} {ty:BTy} {p:List Nat} {v v' w x:V} {o:Nat} {u:TypeId} (hm:h.m n=some (.cells true ty v)) (hl:layB P ty p=some (o,u)) (hg:getV v p=some w) (hs:hasShape P x u=true)
   (hv:setV v p x=some v'):aStoreV P h u (.ptr (some ⟨n,ty,p⟩)) x=some (hole,h.put n (.cells true ty v')):=by
 simp only [aStoreV,aStore,hm,if_true,hl,hg,hs,decide_true,Bool.true_or,Bool.and_true,hv,quietly_mk]
theorem bindV_mk {r:Option (V × AH)} {v:V} {h:AH} {K:V→AH→Prop} (hr:r=some (v,h)) (k:K v h):bindV r K:=by rw [hr];exact k
theorem bindS_mk {x:Option V} {v:V} {h:AH} {K:V→AH→Prop} (hx:x=some v) (k:K v h):bindV (still x h) K:=by rw [hx];exact k
theorem bindSO_mk {x:Option V} {v:V} {h:AH} {K:V→Prop} (hx:x=some v) (k:K v):bindO (fstV (still x h)) K:=by rw [hx];exact k
theorem bindVO_mk {r:Option (V × AH)} {v:V} {h:AH} {K:V→Prop} (hr:r=some (v,h)) (k:K v):bindO (fstV r) K:=by rw [hr];exact k
theorem bindO_mk' {r:Option V} {v:V} {K:V→Prop} (hr:r=some v) (k:K v):bindO r K:=by rw [hr];exact k
theorem bindR_mk {r:Option (List V)} {l:List V} {K:V→Prop} (hr:r=some l) (k:K (one l)):bindR r K:=by rw [hr];exact k
def faOk (P:Program) (s:TypeId) (ty:BTy) (p:List Nat) (f:Nat):Bool :=
 match ul P s with
 | some (.struct fs)=>match fs[f]?,layB P ty p with
   | some g,some (_,u)=>decide (P.cellsOf g.type≠0) && sameField P u f g.offset && (ul P g.type).isSome
   | _,_=>false
 | _=>false
theorem fa_mk {s:TypeId} {n:Nat} {ty:BTy} {p:List Nat} {f:Nat} (hc:faOk P s ty p f=true):aFieldAddr P s (.ptr (some ⟨n,ty,p⟩)) f=some (.ptr (some ⟨n,ty,p++[f]⟩)):=by
 unfold faOk at hc
 unfold aFieldAddr
 simp only
 split at hc
 · rename_i fs hs
   rw [hs]
   simp only
   split at hc
   · rename_i g o u hg hl
     rw [hg,hl]
     simp only
     rw [if_pos hc]
   · cases hc
 · cases hc
def ldOk (P:Program) (ty:BTy) (p:List Nat) (t:TypeId):Bool :=
 match layB P ty p with
 | some (_,u)=>u == t
 | none=>false
theorem ldOk_spec {ty:BTy} {p:List Nat} {t:TypeId} (h:ldOk P ty p t=true):∃ o,layB P ty p=some (o,t):=by
 unfold ldOk at h
 split at h
 · rename_i o u hl;simp only [beq_iff_eq] at h;subst h;exact ⟨o,hl⟩
 · cases h
theorem ld_mk {h:AH} {n:Nat} {ty:BTy} {p:List Nat} {b:Bool} {v w:V} {t:TypeId} (hm:h.m n=some (.cells b ty v)) (hc:ldOk P ty p t=true) (hg:getV v p=some w) :
   aLoadV P h t (.ptr (some ⟨n,ty,p⟩))=some (w,h):=by
 obtain ⟨o,hl⟩:=ldOk_spec hc
 exact load_mk hm hl hg
theorem st_mk {h:AH} {n:Nat} {ty:BTy} {p:List Nat} {v v' w x:V} {t:TypeId} (hm:h.m n=some (.cells true ty v)) (hc:ldOk P ty p t=true) (hg:getV v p=some w) (hs:hasShape P x t=true)
   (hv:setV v p x=some v'):aStoreV P h t (.ptr (some ⟨n,ty,p⟩)) x=some (hole,h.put n (.cells true ty v')):=by
 obtain ⟨o,hl⟩:=ldOk_spec hc
 exact store_mk hm hl hg hs hv
theorem al_mk {h:AH} {t:TypeId} {z:V} (hz:zeroV P t=some z) (hs:hasShape P z t=true):aAlloc P h t=some (.ptr (some ⟨h.next,.one t,[]⟩),h.make (.cells true (.one t) z)):=by
 unfold aAlloc;rw [hz];exact new_mk hs
theorem acalls_vc (K:Ok P) {f:FuncId} {fn:Func} {c:Code} (hf:P.funcs[f]?=some fn) (hb:fn.body=some c) (k:KT) {args:List V} {h:AH} {Q:AEnd→AH→Prop} (N:Nat) (rs:List ResultVar)
   (hN:args.length + (fn.ntmps - args.length)=N) (hr:fn.results.toList=rs) (hv:vc P N c k (vcRet P rs Q) (initEnv 0 args) h):ACalls P f args h Q:=by
 subst hN;subst hr
 exact acalls_of_vc K hf hb k hv
mutual
def flatB:V→Bool
 | .bool _=>true
 | .int _ _=>true
 | .str _=>true
 | .agg l=>flatBs l
 | .tup l=>flatBs l
 | _=>false
def flatBs:List V→Bool
 | []=>true
 | v :: l=>flatB v && flatBs l
end
mutual
theorem flat_relC {ι ι':Names}:∀ (v:V) (cs:List Value),flatB v=true→relC P ι v cs→relC P ι' v cs
 | .bool b,cs,_,r=>by simpa only [relC] using r
 | .int k n,cs,_,r=>by simpa only [relC] using r
 | .str s,cs,_,r=>by simpa only [relC] using r
 | .agg l,cs,hf,r=>by
   simp only [flatB] at hf
   simp only [relC] at r ⊢
   exact flat_relCs l cs hf r
 | .tup l,cs,hf,r=>by
   simp only [flatB] at hf
   simp only [relC] at r ⊢
   obtain ⟨vs,h1,h2⟩:=r
   exact ⟨vs,flat_relL l vs hf h1,h2⟩
 | .ptr _,_,hf,_=>by simp [flatB] at hf
 | .slc _ _,_,hf,_=>by simp [flatB] at hf
 | .map _,_,hf,_=>by simp [flatB] at hf
 | .fn _ _ _,_,hf,_=>by simp [flatB] at hf
 | .nilFn,_,hf,_=>by simp [flatB] at hf
 | .ifc _ _,_,hf,_=>by simp [flatB] at hf
 | .nilIfc,_,hf,_=>by simp [flatB] at hf
 | .und,_,hf,_=>by simp [flatB] at hf
theorem flat_relCs {ι ι':Names}:∀ (l:List V) (cs:List Value),flatBs l=true→relCs P ι l cs→relCs P ι' l cs
 | [],cs,_,r=>by simpa only [relCs] using r
 | v :: l,cs,hf,r=>by
   simp only [flatBs,Bool.and_eq_true] at hf
   simp only [relCs] at r ⊢
   obtain ⟨a,b,h1,h2,h3⟩:=r
   exact ⟨a,b,flat_relC v a hf.1 h1,flat_relCs l b hf.2 h2,h3⟩
theorem flat_relL {ι ι':Names}:∀ (l:List V) (xs:List Value),flatBs l=true→relL P ι l xs→relL P ι' l xs
 | [],xs,_,r=>by simpa only [relL] using r
 | v :: l,xs,hf,r=>by
   simp only [flatBs,Bool.and_eq_true] at hf
   simp only [relL] at r ⊢
   obtain ⟨y,ys,h1,h2,h3⟩:=r
   refine ⟨y,ys,?_,flat_relL l ys hf.2 h2,h3⟩
   rcases h1 with rfl | ⟨h1,h1'⟩
   · simp [flatB] at hf
   · exact .inr ⟨h1,flat_relC v _ hf.1 h1'⟩
end
theorem flat_rel {ι ι':Names} {v:V} {x:Value} (hf:flatB v=true) (r:rel P ι v x):rel P ι' v x:=by
 rcases r with rfl | ⟨h1,h2⟩
 · simp [flatB] at hf
 · exact .inr ⟨h1,flat_relC v _ hf h2⟩
theorem fits0 (W:World):Fits P ⟨fun b=>b < W.heap.size,W⟩ (fun _=>none) AH0 W :=
 ⟨fun n o hm=>by simp [AH0] at hm,fun _ _=>rfl,fun n n' o o' L L' hm=>by simp [AH0] at hm,fun n o L hm=>by simp [AH0] at hm,fun b hb=>⟨rfl,hb⟩,rfl,rfl,rfl,Nat.le_refl _⟩
theorem pure_lift {f:FuncId} {args:List V} {v:V} (ha:flatBs args=true) (hv:flatB v=true) (c:ACalls P f args AH0 fun e _=>e=.ret v) (h:AH):ACalls P f args h (pureE v h):=by
 intro B ι W vs F r
 refine (c _ _ W vs (fits0 W) (flat_relL args vs ha r)).mono ?_
 rintro e w' ⟨ι',h',ae,h1,h2,h3,rfl⟩
 have hold:∀ b,b < W.heap.size→w'.heap[b]?=W.heap[b]?:=fun b hb=>(h2.frame b hb).1
 refine ⟨ι,h,.ret v,Names.le_refl _,?_,?_,rfl,rfl⟩
 · exact (F.grow (fun _=>False) hold (fun _ h=>h.elim) h2.os h2.tape h2.output h2.size).rebase (BaseLe.grow F _ hold h2.os h2.tape h2.output h2.size)
 · cases e with
   | returned x=>exact flat_rel hv h3
   | panicked c=>exact h3.elim
   | outgrown=>exact h3.elim
theorem calls_flat {f:FuncId} {args:List V} {v:V} {W:World} {vs:List Value} (r:∀ ι,relL P ι args vs) (c:ACalls P f args AH0 fun e _=>e=.ret v) :
   Calls P f vs.toArray W fun e w'=>Go.RowKit.Below W.heap.size W w'∧∃ x ι,e=.returned x∧rel P ι v x:=by
 refine (c _ _ W vs (fits0 W) (r _)).mono ?_
 rintro e w' ⟨ι',h',ae,h1,h2,h3,rfl⟩
 refine ⟨⟨h2.os,h2.tape,h2.output,h2.size,fun b hb=>(h2.frame b hb).1⟩,?_⟩
 cases e with
 | returned x=>exact ⟨x,ι',rfl,h3⟩
 | panicked c=>exact h3.elim
 | outgrown=>exact h3.elim
end Go.Ab
namespace Go.Ab
open Go Go.RowKit
variable {P:Program}
section
variable {t:TypeId} {k:IntKind} {a b:Int} {c:Bool}
theorem b_add:aBin P .add t (.int k a) (.int k b) c=some (.int k (k.wrap (a + b))):=by simp [aBin,intBin]
theorem b_sub:aBin P .sub t (.int k a) (.int k b) c=some (.int k (k.wrap (a - b))):=by simp [aBin,intBin]
theorem b_mul:aBin P .mul t (.int k a) (.int k b) c=some (.int k (k.wrap (a * b))):=by simp [aBin,intBin]
theorem b_quo (hb:b≠0):aBin P .quo t (.int k a) (.int k b) c=some (.int k (k.wrap (a.tdiv b))):=by simp [aBin,intBin,hb]
theorem b_rem (hb:b≠0):aBin P .rem t (.int k a) (.int k b) c=some (.int k (a.tmod b)):=by simp [aBin,intBin,hb]
theorem b_eql:aBin P .eql t (.int k a) (.int k b) c=some (.bool (a == b)):=by simp [aBin,intBin]
theorem b_neq:aBin P .neq t (.int k a) (.int k b) c=some (.bool (a != b)):=by simp [aBin,intBin]
theorem b_lss:aBin P .lss t (.int k a) (.int k b) c=some (.bool (decide (a < b))):=by simp [aBin,intBin]
theorem b_leq:aBin P .leq t (.int k a) (.int k b) c=some (.bool (decide (a≤b))):=by simp [aBin,intBin]
theorem b_gtr:aBin P .gtr t (.int k a) (.int k b) c=some (.bool (decide (a > b))):=by simp [aBin,intBin]
theorem b_geq:aBin P .geq t (.int k a) (.int k b) c=some (.bool (decide (a ≥ b))):=by simp [aBin,intBin]
end
section
variable {t:TypeId} {a b:List UInt8} {c:Bool}
theorem t_add (h:a.length + b.length≤9223372036854775807):aBin P .add t (.str a) (.str b) c=some (.str (a++b)):=by simp [aBin,strBin,h]
theorem t_eql:aBin P .eql t (.str a) (.str b) c=some (.bool (a == b)):=by simp [aBin,strBin]
theorem t_neq:aBin P .neq t (.str a) (.str b) c=some (.bool (!(a == b))):=by simp [aBin,strBin]
end
theorem u_not {b:Bool}:aUn .not (.bool b)=some (.bool (!b)):=rfl
theorem len_str {h:AH} {t:TypeId} {s:List UInt8} (hc:(match ul P t with | some .string=>true | _=>false)=true):aBuiltin P h .len [t] [.str s]=some (.int .i64 s.length,h):=by
 split at hc
 · rename_i hu
   simp only [aBuiltin,hu,aLen,still_mk]
 · cases hc
def cvOk (P:Program) (s d:TypeId) (k:IntKind):Bool:=(ul P s).isSome && (match ul P d with | some (.int k')=>decide (k'=k) | _=>false)
theorem cv_int {h:AH} {s d:TypeId} {k0:IntKind} {n:Int} (k:IntKind) (hc:cvOk P s d k=true):aConv P h s d (.int k0 n)=some (.int k (k.wrap n)):=by
 unfold cvOk at hc
 simp only [Bool.and_eq_true,Option.isSome_iff_exists] at hc
 obtain ⟨⟨x,hx⟩,h2⟩:=hc
 split at h2
 · rename_i k' hk
   simp only [decide_eq_true_eq] at h2
   subst h2
   simp only [aConv,hx,hk]
 · cases h2
theorem cast_p {a b:Prop} (e:a=b) (h:b):a:=e▸h
theorem g_tt {x y:Prop} (h:x):vcG (.bool true) true x y:=h
theorem g_ft {x y:Prop} (h:y):vcG (.bool false) true x y:=h
theorem g_tf {x y:Prop} (h:y):vcG (.bool true) false x y:=h
theorem g_ff {x y:Prop} (h:x):vcG (.bool false) false x y:=h
theorem g_hole {w:Bool} {x y:Prop} (h:y):vcG hole w x y:=h
theorem i_t {x y:Prop} (h:x):vcIf (.bool true) x y:=h
theorem i_f {x y:Prop} (h:y):vcIf (.bool false) x y:=h
theorem g_split_t {b:Bool} {x y:Prop} (h1:b=true→x) (h2:b=false→y):vcG (.bool b) true x y:=by
 cases b
 · exact h2 rfl
 · exact h1 rfl
theorem g_split_f {b:Bool} {x y:Prop} (h1:b=false→x) (h2:b=true→y):vcG (.bool b) false x y:=by
 cases b
 · exact h1 rfl
 · exact h2 rfl
theorem i_split {b:Bool} {x y:Prop} (h1:b=true→x) (h2:b=false→y):vcIf (.bool b) x y:=by
 cases b
 · exact h2 rfl
 · exact h1 rfl
theorem p_t {x y:V} {h:AH}:aPick (.bool true) x y h=some (x,h):=rfl
theorem p_f {x y:V} {h:AH}:aPick (.bool false) x y h=some (y,h):=rfl
theorem not_f {b:Bool} (h:(!b)=true):b=false:=by cases b <;> first | rfl | cases h
theorem not_t {b:Bool} (h:(!b)=false):b=true:=by cases b <;> first | rfl | cases h
theorem call_mk {f:FuncId} {args:List V} {h:AH} {v:V} {K X:V→AH→Prop} (c:ACalls P f args h (pureE v h)) (k:K v h):ACalls P f args h (aEnd K X) :=
 c.mono fun e h' q=>by
   cases e with
   | ret u=>obtain ⟨rfl,rfl⟩:=q;exact k
   | panic _=>exact q.elim
end Go.Ab
