import Derived.Test.YtdbgifdfdhhjcaaGreatV02
import Derived.LoopN
import Derived.Tactics
import Derived.Orders
set_option linter.unusedVariables false
set_option linter.unusedSimpArgs false
set_option linter.unusedSectionVars false
noncomputable section
namespace Go.Ab
section
open Go Go.RowKit
abbrev AD:=FuncId × List V
variable {P:Program} {ι:zw} {W:World} {B:wy} {h:AH} {D:List AD}
inductive yT where
 | normal
 | exit (id:Nat)
 | goto (l:Nat)
 | ret
 | panic (v:V)
inductive yO where
 | ret (v:V)
 | panic (v:V)
def Nl (P:Program) (ι:zw):yT->Exit->Prop
 | .normal,.normal=>True
 | .exit i,.exit j=>i=j
 | .goto i,.goto j=>i=j
 | .ret,.ret=>True
 | .panic v,.panic c=>∃ x,rel P ι v x/\c=[{ v:=x,recovered:=false }]
 | _,_=>False
def gW (P:Program) (ι:zw):yO->Ending->Prop
 | .ret v,.returned x=>rel P ι v x
 | .panic v,.panicked c=>∃ x,rel P ι v x/\c=[{ v:=x,recovered:=false }]
 | _,_=>False
def za (P:Program) (f:FuncId) (args:List V) (h:AH) (Q:yO->AH->Prop):Prop :=
 ∀ (B:wy) (ι:zw) (W:World) (vs:List Value),ye P B ι h W->wo P ι args vs ->
  Calls P f vs.toArray W λe w'=>∃ ι' h' ae,zw.le ι ι'/\ye P B ι' h' w'/\gW P ι' ae e/\Q ae h'
theorem za.mono {f:FuncId} {args:List V} {Q Q':yO->AH->Prop} (c:za P f args h Q) (m:∀ e h',Q e h'->Q' e h'):za P f args h Q' :=
 λB ι W vs F r=>(c B ι W vs F r).mono λ_ _ ⟨ι',h',ae,a1,a2,a3,a4⟩=>⟨ι',h',ae,a1,a2,a3,m _ _ a4⟩
abbrev rp (b:Bool) (x y:Prop):Prop :=
 match b with
 | true=>x
 | false=>y
theorem wn {x y:Prop}:rp true x y=x:=rfl
theorem uj {x y:Prop}:rp false x y=y:=rfl
def vZ (P:Program) (k:FuncId):Bool :=
 match P.funcs[k]? with
 | some fn=>fn.body.isSome&&!(fn.name == "runtime.NumGoroutine")
 | none=>false
def c9 (P:Program) (t:TypeId) (name:String):Option FuncId :=
 match P.info? t with
 | some i=>match i.methods.find? (·.name == name) with
  | some m=>match m.path.toList,m.func,P.underlying t with
   | [],some (f,true),some (.pointer _)=>some f
   | _,_,_=>none
  | none=>none
 | none=>none
def zJ.put (N:Nat) (d:Option Tmp) (v:V) (e:zJ):zJ :=
 match d with
 | some t=>if t<N then (t,v) :: e else e
 | none=>e
def zJ.zA (l:List Nat) (e:zJ):zJ:=l.map λt=>(t,zJ.get e t)
def xl (e:zJ):Operand->V
 | .tmp t=>e.get t
 | .const v=>cst v
 | .global _=>.xF
 | .func f=>.fn (.func f) [] []
def z0 (r:Option (V × AH)) (k:V->AH->Prop):Prop :=
 match r with
 | some (v,h)=>k v h
 | none=>False
def zS (K:V->AH->Prop) (X:V->AH->Prop):yO->AH->Prop
 | .ret v,h=>K v h
 | .panic v,h=>X v h
def rY (P:Program) (k:FuncId) (args:List V) (h:AH) (E:yO->AH->Prop):Prop :=
 rp (vZ P k) (za P k args h E) False
def qc (P:Program) (f:V) (args:List V) (h:AH) (E:yO->AH->Prop):Prop :=
 match f with
 | .fn (.func k) first cap=>rY P k (first++(args++cap)) h E
 | _=>False
def tD (P:Program) (r:V) (name:String) (args:List V) (h:AH) (E:yO->AH->Prop):Prop :=
 match r with
 | .mB t v=>match c9 P t name with
  | some k=>rY P k (v :: args) h E
  | none=>False
 | _=>False
def Q1 (x:V) (X:V->Prop):Prop :=
 match x with
 | .mB t v=>X (.mB t v)
 | _=>False
def Nu (P:Program) (op:Op) (e:zJ) (h:AH) (K:V->AH->Prop) (Q:yT->zJ->AH->Prop):Prop :=
 match op with
 | .call { callee:=.value f,args:=args,.. }=>qc P (xl e f) (args.toList.map (xl e)) h (zS K λv h=>Q (.panic v) e h)
 | .call { callee:=.invoke r name,args:=args,.. }=>tD P (xl e r) name (args.toList.map (xl e)) h (zS K λv h=>Q (.panic v) e h)
 | .panic x=>Q1 (xl e x) λv=>Q (.panic v) e h
 | .move x=>K (xl e x) h
 | .assign x=>K (xl e x) h
 | .makeFunc fn a b=>K (.fn fn (a.toList.map (xl e)) (b.toList.map (xl e))) h
 | .range t x=>Wr P t (xl e x) h K
 | .next x true=>XD (xl e x) h K
 | .next x false=>WF (xl e x) h K
 | .entry x=>WB (xl e x) h K
 | op=>z0 (ZL P (xl e) h op) K
def jQ (P:Program) (N:Nat):List Oper->(zJ->AH->Prop)->(yT->zJ->AH->Prop)->zJ->AH->Prop
 | [],k,_,e,h=>k e h
 | o :: rest,k,Q,e,h=>Nu P o.op e h (λv h'=>jQ P N rest k Q (e.put N o.dst v) h') Q
def nZ (N:Nat):List Oper->zJ->zJ
 | [],e=>e
 | o :: rest,e=>nZ N rest (e.put N o.dst yw)
def mG:List Oper->List (Option (Nat × Bool) × List Oper)
 | []=>[]
 | o :: rest=>match mG rest with
  | (g,l) :: more=>if g=o.guard then (g,o :: l) :: more else (o.guard,[o]) :: (g,l) :: more
  | []=>[(o.guard,[o])]
def vp (x:V) (kO:Bool) (yes no:Prop):Prop :=
 match x with
 | .bool b=>if b=kO then yes else no
 | .yX []=>no
 | _=>False
def ZQ (ks:List (List Nat)) (e:zJ):zJ :=
 match ks with
 | k :: _=>zJ.zA k e
 | []=>e
structure z7 (p:Prop):Prop where
 of ::
 h:p
abbrev ju (ks:List (List Nat)) (p:Prop):Prop :=
 match ks with
 | []=>p
 | _=>z7 p
theorem oS {ks:List (List Nat)} {p:Prop} (h:ju ks p):p:=by cases ks <;> first | exact h | exact z7.h h
def pz (P:Program) (N:Nat) (ops:Array Oper):List (Option (Nat × Bool) × List Oper)->List (List Nat)->(yT->zJ->AH->Prop)->zJ->AH->Prop
 | [],_,Q,e,h=>Q .normal e h
 | (none,l) :: rest,ks,Q,e,h=>jQ P N l (λe h=>pz P N ops rest ks Q e h) Q e h
 | (some (j,w),l) :: rest,ks,Q,e,h =>
  match (ops[j]?).bind (·.dst) with
  | some d=>rp (l.all (λo=>o.dst != some d)) (
   vp (e.get d) w (jQ P N l (λe h=>ju ks (pz P N ops rest ks.tail Q (ZQ ks e) h)) Q e h) (ju ks (pz P N ops rest ks.tail Q (ZQ ks (nZ N l e)) h))) False
  | none=>False
def Qp (P:Program) (ι:zw):List AD->List Deferred->Prop
 | [],ds=>ds=[]
 | (k,l) :: as,ds=>∃ d rest,ds=d :: rest/\((∃ cap,d.target=.fn (.func k) cap/\wo P ι l (d.args++cap).toList)\/(P.funcs.size<=k/\∃ r:Nat,l=[.agg [.xF,.int .u64 (r:Int)]]/\d={ target:=.collected r,args:=#[] }))/\Qp P ι as rest
theorem Za {ι':zw} (hl:zw.le ι ι'):∀ {as:List AD} {ds:List Deferred},Qp P ι as ds->Qp P ι' as ds
 | [],_,r=>r
 | (_,_) :: _,_,r=>by
  obtain ⟨d,rest,h1,h2,h4⟩:=r;refine ⟨d,rest,h1,?_,Za hl h4⟩;rcases h2 with ⟨cap,h2,h3⟩ | h2
  ·exact .inl ⟨cap,h2,hP hl _ _ h3⟩
  ·exact .inr h2
def wH (P:Program) (ι:zw) (N:Nat) (D:List AD) (e:zJ) (a:Act):Prop:=a.tmps.size=N/\Qp P ι D a.defers/\∀ t,rel P ι (zJ.get e t) (a.tmps.getD t undef)
theorem nX {ι':zw} {N:Nat} {e:zJ} {a:Act} (hl:zw.le ι ι') (r:wH P ι N D e a):wH P ι' N D e a:=⟨r.1,Za hl r.2.1,λt=>bG hl (r.2.2 t)⟩
theorem iv {N:Nat} {e:zJ} {a:Act} (r:wH P ι N D e a) {d:Option Tmp} {v:V} {x:Value} (hv:rel P ι v x):wH P ι N D (zJ.put N d v e) (a.put d x):=by
 cases d with
 | none=>exact r
 | some t =>
  refine ⟨by simp [Act.put,r.1],r.2.1,λu=>?_⟩;simp only [zJ.put,Act.put];by_cases ht:t<N
  ·rw [if_pos ht];simp only [zJ.get];by_cases hu:u=t
   ·subst hu;rw [if_pos rfl];have:(a.tmps.setIfInBounds u x).getD u undef=x:=by
     have:=r.1;simp [Array.getD,this,ht]
    rw [this];exact hv
   ·rw [if_neg hu];have:(a.tmps.setIfInBounds t x).getD u undef=a.tmps.getD u undef:=by
     rw [Array.getD_eq_getD_getElem?,Array.getD_eq_getD_getElem?,Array.getElem?_setIfInBounds_ne O_]
    rw [this];exact r.2.2 u
  ·rw [if_neg ht];have:a.tmps.setIfInBounds t x=a.tmps:=by
    apply Array.ext_getElem?;intro i;rw [Array.getElem?_setIfInBounds];split
    ·rename_i e;subst e;rw [if_neg (by rw [r.1];exact ht),Array.getElem?_eq_none (by rw [r.1];exact Nat.le_of_not_lt ht)]
    ·rfl
   rw [this];exact r.2.2 u
theorem aw (e:zJ):∀ (l:List Nat) (t:Nat),zJ.get (zJ.zA l e) t=zJ.get e t\/zJ.get (zJ.zA l e) t=.xF
 | [],t=>.inr rfl
 | u :: l,t=>by
  simp only [zJ.zA,List.map_cons,zJ.get];by_cases h:t=u
  ·rw [if_pos h,h];exact .inl rfl
  ·rw [if_neg h];exact aw e l t
theorem X5 {N:Nat} {e:zJ} {a:Act} (l:List Nat) (r:wH P ι N D e a):wH P ι N D (zJ.zA l e) a :=
 ⟨r.1,r.2.1,λt=>by
  rcases aw e l t with h | h
  ·rw [h];exact r.2.2 t
  ·rw [h];exact .inl rfl⟩
theorem vG {N:Nat} {e:zJ} {a:Act} (r:wH P ι N D e a) (x:Operand):rel P ι (xl e x) (a.eval x):=by
 cases x with
 | tmp t=>exact r.2.2 t
 | const v=>exact Ip v
 | global g=>exact .inl rfl
 | func f =>
  refine .inr ⟨rfl,?_⟩;simp only [xl,zL,Value.cells,Act.eval];exact ⟨[],[],relL_nil,relL_nil,rfl⟩
def uK (P:Program) (B:wy) (ι:zw) (N:Nat) (D:List AD) (Q:yT->zJ->AH->Prop) (x:Exit) (a:Act) (w:World):Prop :=
 ∃ ι' h' e' ax,zw.le ι ι'/\ye P B ι' h' w/\wH P ι' N D e' a/\Nl P ι' ax x/\Q ax e' h'
theorem uK.le {ι':zw} {N:Nat} {Q:yT->zJ->AH->Prop} {x:Exit} {a:Act} {w:World} (hl:zw.le ι ι') (p:uK P B ι' N D Q x a w):uK P B ι N D Q x a w:=by
 obtain ⟨ι2,h',e',ax,h1,h2⟩:=p;exact ⟨ι2,h',e',ax,zw.le_trans hl h1,h2⟩
theorem HH {a:Act} {d:Nat} {x:Value} (hx:a.tmps.getD d undef=x) (wO:x≠undef):a.tmps[d]?=some x:=by
 rw [Array.getD_eq_getD_getElem?] at hx;cases hq:a.tmps[d]? with
 | none=>rw [hq] at hx;exact absurd hx.symm wO
 | some q=>rw [hq] at hx;simp at hx;rw [hx]
theorem i6 {a:Act} {ops:Array Oper} {j d:Nat} {b:Bool} (hj:(ops[j]?).bind (·.dst)=some d) (hr:rel P ι (.bool b) (a.tmps.getD d undef)):yielded ops a.tmps j=some b:=by
 simp only [yielded,hj,Option.bind_some,HH (rel_bool hr) (by simp [undef])]
theorem iB {a:Act} {ops:Array Oper} {j d:Nat} (hj:(ops[j]?).bind (·.dst)=some d) (hr:rel P ι (.yX []) (a.tmps.getD d undef)):yielded ops a.tmps j=none:=by
 obtain ⟨vs,h1,h2⟩:=RC hr;simp only [wo] at h2;subst h2;simp only [yielded,hj,Option.bind_some];cases hq:a.tmps[d]? with
 | none=>rfl
 | some q =>
  rw [Array.getD_eq_getD_getElem?,hq] at h1;simp at h1;subst h1;rfl
theorem nP {k:FuncId} (he:vZ P k=true) (args:Array Value) (W:World):(callFunc k args).run P W=.ok (.enter k args) W:=by
 unfold vZ at he;cases hf:P.funcs[k]? with
 | none=>rw [hf] at he;cases he
 | some fn =>
  rw [hf] at he;simp only [Bool.and_eq_true,Bool.not_eq_true'] at he;have hb:fn.body.isNone=false:=by cases hq:fn.body <;> simp_all
  simp only [callFunc,Sem.run_bind,run_program,Result.andThen_ok,hf,he.2,Bool.false_eq_true,if_false,hb,Sem.run_pure]
theorem ST {t:TypeId} {name:String} {k:FuncId} (hm:c9 P t name=some k) (n:Nat) (x:Value) (W:World):(method (n+1) t x name).run P W=.ok (k,x) W:=by
 unfold c9 at hm;cases hi:P.info? t with
 | none=>rw [hi] at hm;cases hm
 | some i =>
  rw [hi] at hm;simp only at hm;cases hf:i.methods.find? (·.name == name) with
  | none=>rw [hf] at hm;cases hm
  | some m =>
   rw [hf] at hm;simp only at hm;split at hm
   ·rename_i f e hp hfn hu;cases hm;have hti:(typeInfo t).run P W=.ok i W:=by simp [typeInfo,hi]
    have hul:(underlying t).run P W=.ok (.pointer e) W:=by simp [underlying,hu]
    simp only [method,Sem.run_bind,hti,Result.andThen_ok,hf,hp,follow,Sem.run_pure,hfn,receiverAt,hul,Place.get]
   ·cases hm
theorem upon_enter {N:Nat} {o:Oper} {a:Act} {k:FuncId} {args:List V} {vs:List Value} {next:Act->World->Prop} {Q:yT->zJ->AH->Prop} {Kv:V->AH->Prop} {e:zJ} (F:ye P B ι h W) (r:wH P ι N D e a) (ra:wo P ι args vs)
 (hc:za P k args h (zS Kv λv h=>Q (.panic v) e h)) (hn:∀ ι' h' v x w',zw.le ι ι'->ye P B ι' h' w'->rel P ι' v x->Kv v h'->next (a.put o.dst x) w') :
 o.upon P a next (uK P B ι N D Q) (.ok (.enter k vs.toArray) W):=by
 rw [Oper.upon_enter];refine (hc B ι W vs F ra).mono ?_;rintro en w' ⟨ι',h',ae,k1,k2,k3,k4⟩;cases en with
 | returned x =>
  cases ae with
  | ret v=>exact hn ι' h' v x w' k1 k2 k3 k4
  | panic v=>exact k3.elim
 | panicked c =>
  cases ae with
  | ret v=>exact k3.elim
  | panic v=>exact ⟨ι',h',e,.panic v,k1,k2,nX k1 r,k3,k4⟩
 | outgrown=>cases ae <;> exact k3.elim
theorem iZ (K:Ok P) {N:Nat} {o:Oper} {a:Act} {next:Act->World->Prop} {Q:yT->zJ->AH->Prop} {Kv:V->AH->Prop} {e:zJ} (F:ye P B ι h W) (r:wH P ι N D e a) (hv:Nu P o.op e h Kv Q)
 (hn:∀ ι' h' v x w',zw.le ι ι'->ye P B ι' h' w'->rel P ι' v x->Kv v h'->next (a.put o.dst x) w') :
 o.wp P a W next (uK P B ι N D Q):=by
 unfold Nu at hv;obtain ⟨dst,op,type,pos,after,guard⟩:=o;simp only at hv;have fin:∀ v h',ZL P (xl e) h op=some (v,h')->Kv v h'->(Oper.mk dst op type pos after guard).wp P a W next (uK P B ι N D Q):=by
  intro v h' qU hv;obtain ⟨ι',W',nx,g1,g2,g3,g4⟩:=S5 (o:=⟨dst,op,type,pos,after,guard⟩) K F (vG r) qU;unfold Oper.wp;rw [g1];rcases g4 with ⟨y,rfl,hy⟩ | ⟨rfl,rfl⟩
  ·exact hn ι' h' v y W' g2 g3 hy hv
  ·exact hn ι' h' yw undef W' g2 g3 lc hv
 split at hv
 ·rename_i f args ts;unfold qc at hv;split at hv
  ·rename_i k first cap hf;have hρ:=vG r f;rw [hf] at hρ;obtain ⟨fa,fb,hf1,hf2,hf3⟩:=gH hρ;unfold rY at hv;cases JI:vZ P k with
   | false=>rw [JI] at hv;exact hv.elim
   | true =>
    rw [JI] at hv
    try simp only [wn] at hv
    have hargs:=pw (vG r) args.toList;have o8:=qx hf2 (qx hargs hf3);have:=upon_enter (o:=⟨dst,.call { callee:=.value f,args:=args,argTypes:=ts },type,pos,after,guard⟩) F r o8 hv hn;unfold Oper.wp;have pM:(execOp a.eval ⟨dst,.call { callee:=.value f,args:=args,argTypes:=ts },type,pos,after,guard⟩).run P W=.ok (.enter k (fa++(args.toList.map a.eval++fb)).toArray) W:=by
     simp only [execOp,resolve,hf1,Deferred.ofValue,Sem.run_bind,Sem.run_pure,Result.andThen_ok,invoke];rw [nP JI];congr 2;apply Array.ext';simp
    rw [pM];exact this
  ·exact hv.elim
 ·rename_i rcv name args ts;unfold tD at hv;split at hv
  ·rename_i t v hf;split at hv
   ·rename_i k hm;have hρ:=vG r rcv;rw [hf] at hρ;obtain ⟨y,hf1,hf2,_⟩:=nV hρ;unfold rY at hv;cases JI:vZ P k with
    | false=>rw [JI] at hv;exact hv.elim
    | true =>
     rw [JI] at hv
     try simp only [wn] at hv
     have hargs:=pw (vG r) args.toList;have:=upon_enter (o:=⟨dst,.call { callee:=.invoke rcv name,args:=args,argTypes:=ts },type,pos,after,guard⟩) F r (relL_cons hf2 hargs) hv hn;unfold Oper.wp;have pM:(execOp a.eval ⟨dst,.call { callee:=.invoke rcv name,args:=args,argTypes:=ts },type,pos,after,guard⟩).run P W=.ok (.enter k (y :: args.toList.map a.eval).toArray) W:=by
      simp only [execOp,resolve,hf1,Sem.run_bind,Sem.run_pure,Result.andThen_ok,invoke];have h0:(#[Value.iface t y]++args.map a.eval)[0]?=some (.iface t y):=by rw [Array.getElem?_append_left S_];rfl
      simp only [h0,callMethod,Sem.run_bind,run_program,Result.andThen_ok];have hx:(#[Value.iface t y]++args.map a.eval).extract 1 (#[Value.iface t y]++args.map a.eval).size=args.map a.eval:=by
       have h1:=Array.extract_append_right (as:=#[Value.iface t y]) (bs:=args.map a.eval) (i:=(args.map a.eval).size);have e:(#[Value.iface t y]++args.map a.eval).size=(#[Value.iface t y]).size+(args.map a.eval).size:=Array.size_append;rw [e];refine Eq.trans h1 ?_;simp
      have hfu:P.types.size+Made.depth=(P.types.size+99)+1:=rfl;rw [hfu,ST hm,hx];simp only [Result.andThen_ok];rw [nP JI];congr 2;apply Array.ext';simp
     rw [pM];exact this
   ·exact hv.elim
  ·exact hv.elim
 ·rename_i x;unfold Q1 at hv;split at hv
  ·rename_i t v hf;have hρ:=vG r x;rw [hf] at hρ;obtain ⟨y,hf1,hf2,hf3⟩:=nV hρ;unfold Oper.wp;have pM:(execOp a.eval ⟨dst,.panic x,type,pos,after,guard⟩).run P W=.halt (.panic (.iface t y)) W:=by
    simp [execOp,Instr.panic,hf1]
   rw [pM,Oper.upon_panic];exact ⟨ι,h,e,.panic (.mB t v),zw.le_refl _,F,r,⟨_,hf1▸hρ,rfl⟩,hv⟩
  ·exact hv.elim
 ·exact fin _ _ rfl hv
 ·exact fin _ _ rfl hv
 ·exact fin _ _ rfl hv
 ·rename_i t x;obtain ⟨v,h',hk,ι',W',z,g1,g2,g3,g4⟩:=SA F hv (vG r x);have pM:(execOp a.eval ⟨dst,.range t x,type,pos,after,guard⟩).run P W=.ok (.value z) W':=by simp only [execOp,Sem.run_bind,g1,Result.andThen_ok,Sem.run_pure]
  unfold Oper.wp;rw [pM];exact hn ι' h' v z W' g2 g3 g4 hk
 ·rename_i x;obtain ⟨v,h',hk,ι',W',z,g1,g2,g3,g4⟩:=Si (ty:=type) F hv (vG r x);have pM:(execOp a.eval ⟨dst,.next x true,type,pos,after,guard⟩).run P W=.ok (.value z) W':=by simp only [execOp,Sem.run_bind,g1,Result.andThen_ok,Sem.run_pure]
  unfold Oper.wp;rw [pM];exact hn ι' h' v z W' g2 g3 g4 hk
 ·rename_i x;obtain ⟨v,h',hk,ι',W',z,g1,g2,g3,g4⟩:=z0R (ty:=type) F hv (vG r x);have pM:(execOp a.eval ⟨dst,.next x false,type,pos,after,guard⟩).run P W=.ok (.value z) W':=by simp only [execOp,Sem.run_bind,g1,Result.andThen_ok,Sem.run_pure]
  unfold Oper.wp;rw [pM];exact hn ι' h' v z W' g2 g3 g4 hk
 ·rename_i x;obtain ⟨v,h',hk,ι',W',z,g1,g2,g3,g4⟩:=Ss F hv (vG r x);have pM:(execOp a.eval ⟨dst,.entry x,type,pos,after,guard⟩).run P W=.ok (.value z) W':=by simp only [execOp,Sem.run_bind,g1,Result.andThen_ok,Sem.run_pure]
  unfold Oper.wp;rw [pM];exact hn ι' h' v z W' g2 g3 g4 hk
 ·unfold z0 at hv;split at hv
  ·rename_i v h' qU;exact fin _ _ qU hv
  ·exact hv.elim
theorem OE {o:Oper} {a:Act} {next next':Act->World->Prop} {Q Q':Exit->Act->World->Prop} (hn:∀ a w,next a w->next' a w) (hq:∀ x a w,Q x a w->Q' x a w) (r:Result Next) (hh:o.upon P a next Q r):o.upon P a next' Q' r:=by
 cases r with
 | ok n w' =>
  cases n <;> simp only [Oper.upon] at hh ⊢ <;>
   first
    | exact hn _ _ hh
    | exact Calls.mono hh (λe w'' he=>by
     cases e
     ·exact hn _ _ he
     ·exact hq _ _ _ he
     ·obtain ⟨a,w,h⟩:=he;exact ⟨a,w,hq _ _ _ h⟩)
    | exact Rows.mono hh (λ_ _ he=>hn _ _ he)
 | halt x w'=>cases x <;> simp only [Oper.upon] at hh ⊢ <;> exact hq _ _ _ hh
theorem eJ {a:Act} {ops:Array Oper} {j d:Nat} (hj:(ops[j]?).bind (·.dst)=some d) {o:Oper} (hd:o.dst≠some d) (x:Value):yielded ops (a.put o.dst x).tmps j=yielded ops a.tmps j:=by
 simp only [yielded,hj,Option.bind_some];cases ho:o.dst with
 | none=>rfl
 | some t =>
  have:t≠d:=λe=>hd (by rw [ho,e]);simp only [Act.put];rw [Array.getElem?_setIfInBounds_ne this]
theorem jU {o:Oper} {a:Act} {next:Act->World->Prop} {Q Q':Exit->Act->World->Prop} (hq:∀ x a w,Q x a w->Q' x a w) (hh:o.wp P a W next Q):o.wp P a W next Q' :=
 OE (λ_ _ h=>h) hq _ hh
theorem cQ (K:Ok P) {N:Nat} {ops:Array Oper} {Q:yT->zJ->AH->Prop} {k:zJ->AH->Prop} {rest:List Oper} {ι0:zw} (g:Option (Nat × Bool)) (d:Nat)
 (hd:∀ j w,g=some (j,w)->(ops[j]?).bind (·.dst)=some d)
 (hk:∀ (ι':zw) (h':AH) (e':zJ) (a':Act) (w':World),zw.le ι0 ι'->ye P B ι' h' w'->wH P ι' N D e' a'->k e' h'->wpList P ops (uK P B ι0 N D Q) rest a' w') :
 ∀ (l:List Oper) {ι:zw} {h:AH} {W:World} {e:zJ} {a:Act},(∀ o∈l,o.guard=g)->(g≠none->∀ o∈l,o.dst≠some d)->zw.le ι0 ι ->
 ye P B ι h W->wH P ι N D e a->(∀ j w,g=some (j,w)->yielded ops a.tmps j=some w)->jQ P N l k Q e h ->
 wpList P ops (uK P B ι0 N D Q) (l++rest) a W
 | [],ι,h,W,e,a,_,_,h0,F,r,_,hv=>hk ι h e a W h0 F r hv
 | o :: l,ι,h,W,e,a,hg,qH,h0,F,r,hy,hv=>by
  simp only [jQ] at hv;simp only [List.cons_append,wpList];have hw:Region.wanted o (yielded ops a.tmps)=true:=by
   unfold Region.wanted;rw [hg o S_];cases g with
   | none=>rfl
   | some p=>obtain ⟨j,w⟩:=p;simp [hy j w rfl]
  rw [if_pos hw]
  left
  refine jU (λ_ _ _ p=>uK.le h0 p) (iZ K F r hv ?_);intro ι' h' v x w' hl F' hr hv';exact cQ K (rest:=rest) g d hd hk l (λo ho=>hg o (by simp [ho])) (λhn o ho=>qH hn o (by simp [ho])) (zw.le_trans h0 hl) F' (iv (nX hl r) hr)
   (λj w e=>by
    rw [eJ (hd j w e) (qH (by rw [e];simp) o S_)];exact hy j w e) hv'
theorem aW {N:Nat} {ops:Array Oper} {Q:Exit->Act->World->Prop} {rest:List Oper} {j d:Nat} {w:Bool} (hd:(ops[j]?).bind (·.dst)=some d) {ι:zw} {W:World} :
 ∀ (l:List Oper) {e:zJ} {a:Act},(∀ o∈l,o.guard=some (j,w))->(∀ o∈l,o.dst≠some d)->wH P ι N D e a->yielded ops a.tmps j≠some w ->
 (∀ a',wH P ι N D (nZ N l e) a'->wpList P ops Q rest a' W)->wpList P ops Q (l++rest) a W
 | [],e,a,_,_,r,_,hk=>hk a r
 | o :: l,e,a,hg,qH,r,hy,hk=>by
  simp only [List.cons_append,wpList];have hw:Region.wanted o (yielded ops a.tmps)=false:=by
   unfold Region.wanted;rw [hg o S_];simpa using hy
  rw [if_neg (by simp [hw])];exact aW hd l (λo ho=>hg o (by simp [ho])) (λo ho=>qH o (by simp [ho])) (iv r lc) (by rw [eJ hd (qH o S_)];exact hy) hk
def rv (l:List (Option (Nat × Bool) × List Oper)):List Oper:=l.flatMap (·.2)
theorem kw:∀ l:List Oper,rv (mG l)=l
 | []=>rfl
 | o :: rest=>by
  have ih:=kw rest;simp only [mG];split
  ·rename_i g l more hs;rw [hs] at ih;split
   ·simp only [rv,List.flatMap_cons] at ih ⊢;rw [List.cons_append,ih]
   ·simp only [rv,List.flatMap_cons] at ih ⊢;rw [ih];rfl
  ·rename_i hs;rw [hs] at ih;simp only [rv,List.flatMap_nil] at ih;simp [rv,<- ih]
theorem nS:∀ l:List Oper,∀ s∈mG l,∀ o∈s.2,o.guard=s.1
 | [],s,hs=>by simp [mG] at hs
 | o :: rest,s,hs=>by
  have ih:=nS rest;simp only [mG] at hs;split at hs
  ·rename_i g l more he;rw [he] at ih;split at hs
   ·rename_i hg;rcases List.mem_cons.1 hs with rfl | hs
    ·intro o' rD;rcases List.mem_cons.1 rD with rfl | rD
     ·exact hg.symm
     ·exact ih (g,l) S_ o' rD
    ·exact ih s (by simp [hs])
   ·rcases List.mem_cons.1 hs with rfl | hs
    ·intro o' rD;simp at rD;subst rD;rfl
    ·exact ih s hs
  ·simp at hs;subst hs;intro o' rD;simp at rD;subst rD;rfl
theorem lV (K:Ok P) {N:Nat} {ops:Array Oper} {Q:yT->zJ->AH->Prop} {ι0:zw}:∀ (l:List (Option (Nat × Bool) × List Oper)) (ks:List (List Nat)) {ι:zw} {h:AH} {W:World} {e:zJ} {a:Act},(∀ s∈l,∀ o∈s.2,o.guard=s.1)->zw.le ι0 ι ->
 ye P B ι h W->wH P ι N D e a->pz P N ops l ks Q e h->wpList P ops (uK P B ι0 N D Q) (rv l) a W
 | [],ks,ι,h,W,e,a,_,h0,F,r,hv=>⟨ι,h,e,.normal,h0,F,r,trivial,hv⟩
 | (none,s) :: rest,ks,ι,h,W,e,a,hg,h0,F,r,hv=>by
  simp only [pz] at hv;simp only [rv,List.flatMap_cons];exact cQ K none 0 (by intro j w e;cases e) (λι' h' e' a' w' hl F' r' hk=>lV K rest ks (λs hs=>hg s (by simp [hs])) hl F' r' hk) s (hg (none,s) S_) (λhn=>absurd rfl hn) h0 F r (by intro j w e;cases e) hv
 | (some (j,w),s) :: rest,ks,ι,h,W,e,a,hg,h0,F,r,hv=>by
  simp only [pz] at hv;simp only [rv,List.flatMap_cons];split at hv
  ·rename_i d hd;cases o8:s.all (λo=>o.dst != some d) with
   | false=>rw [o8] at hv;exact hv.elim
   | true =>
    rw [o8] at hv
    try simp only [wn] at hv
    have qH:∀ o∈s,o.dst≠some d:=by
     intro o ho;have:=List.all_eq_true.1 o8 o ho;simpa using this
    have hgs:=hg (some (j,w),s) S_;have dg:∀ (s':Option (Nat × Bool) × List Oper),s'∈rest->∀ o∈s'.2,o.guard=s'.1:=λs' dO=>hg s' (by simp [dO]);have z0A:∀ {ι:zw} {e:zJ} {a:Act},wH P ι N D e a->wH P ι N D (ZQ ks e) a:=by
     intro ι e a r;cases ks with
     | nil=>exact r
     | cons k ks=>exact X5 k r
    have yes:jQ P N s (λe h=>ju ks (pz P N ops rest ks.tail Q (ZQ ks e) h)) Q e h->yielded ops a.tmps j=some w->wpList P ops (uK P B ι0 N D Q) (s++rest.flatMap (·.2)) a W:=by
     intro hv hy;exact cQ K (some (j,w)) d (by intro j' w' e';cases e';exact hd)
      (λι' h' e' a' w' hl F' r' hk=>lV K rest ks.tail dg hl F' (z0A r') (oS hk)) s hgs (λ_=>qH) h0 F r (by intro j' w' e';cases e';exact hy) hv
    have no:ju ks (pz P N ops rest ks.tail Q (ZQ ks (nZ N s e)) h)->yielded ops a.tmps j≠some w->wpList P ops (uK P B ι0 N D Q) (s++rest.flatMap (·.2)) a W:=by
     intro hv hy;exact aW hd s hgs qH r hy (λa' r'=>lV K rest ks.tail dg h0 F (z0A r') (oS hv))
    have hr:=r.2.2 d;unfold vp at hv;split at hv
    ·rename_i b hb;rw [hb] at hr;have hy:=i6 hd hr;split at hv
     ·rename_i BJ;exact yes hv (by rw [hy,BJ])
     ·rename_i BJ;exact no hv (by rw [hy];simpa using BJ)
    ·rename_i hb;rw [hb] at hr;exact no hv (by rw [iB hd hr];simp)
    ·exact hv.elim
  ·exact hv.elim
end
section
open Go Go.RowKit
variable {P:Program} {ι:zw} {W:World} {B:wy} {h:AH} {D:List AD}
theorem Oz {ρ ρ':Operand->V} (h:AH) (o:Op) (hx:∀ x∈o.operands,ρ x=ρ' x):ZL P ρ h o=ZL P ρ' h o:=by
 have z0B:∀ ps:Array (Nat × Operand),(∀ x∈ps.map (·.2),ρ x=ρ' x)->(ps.toList.map λp=>(p.1,ρ p.2))=(ps.toList.map λp=>(p.1,ρ' p.2)):=λps hp =>
  List.map_congr_left λp hm=>by rw [hp p.2 (Array.mem_map.2 ⟨p,Array.mem_toList_iff.1 hm,rfl⟩)]
 unfold ZL;cases o <;> simp only [Op.operands] at hx <;> (try simp only)
 case build t ps=>rw [z0B ps λx h=>hx x (by simpa using h)]
 case buildSlice t n ps=>rw [z0B ps λx h=>hx x (by simpa using h)]
 case makeFunc fn first captured =>
  rw [List.map_congr_left (l:=first.toList) λx h=>hx x (by simp [Array.mem_toList_iff.1 h]),List.map_congr_left (l:=captured.toList) λx h=>hx x (by simp [Array.mem_toList_iff.1 h])]
 case makeMap t r=>cases r <;> simp_all
 case slice t x lo hi mx=>cases lo <;> cases hi <;> cases mx <;> simp_all
 case typeAssert x a b c=>cases c <;> simp_all
 case call c =>
  obtain ⟨callee,args,ts⟩:=c;cases callee <;> (try simp only)
  all_goals (try rfl)
  rw [List.map_congr_left (l:=args.toList) λx h=>hx x (by simp [Call.operands,Array.mem_toList_iff.1 h])]
 all_goals (first | rfl | (simp_all;done))
def zO (v:V) (h:AH):yO->AH->Prop
 | .ret u,h'=>u=v/\h'=h
 | .panic _,_=>False
def zc (r:Option V) (k:V->Prop):Prop :=
 match r with
 | some v=>k v
 | none=>False
theorem aH {r:Option V} {k:V->Prop} (h:zc r k):∃ v,r=some v/\k v:=by
 unfold zc at h;split at h
 ·exact ⟨_,rfl,h⟩
 ·exact h.elim
def zj (r:Option (V × AH)):Option V :=
 match r with
 | some (v,_)=>some v
 | none=>none
def kA:Op->Bool
 | .move _ | .assign _ | .pick .. | .build .. | .load .. | .nilCheck _ | .binOp .. | .unOp .. | .convert .. | .makeInterface .. | .makeFunc .. | .slice .. | .fieldAddr .. | .field ..
 | .indexAddr .. | .index .. | .lookup .. | .extract ..=>true
 | .call { callee:=.builtin .len,.. } | .call { callee:=.builtin .min,.. } | .call { callee:=.builtin .max,.. }=>true
 | _=>false
theorem Kn {ρ:Operand->V} {h h':AH} {o:Op} {v:V} (hq:kA o=true) (hl:ZL P ρ h o=some (v,h')):h'=h:=by
 unfold kA at hq;split at hq <;> first | (cases hq;done) | skip
 all_goals (simp only [ZL] at hl)
 all_goals (first
  | (cases hl;rfl)
  | exact (zK hl).2
  | skip)
 ·unfold yc at hl;split at hl <;> cases hl;rfl
 ·unfold z9 at hl;split at hl
  ·exact (zK hl).2
  ·cases hl
 ·unfold y7 at hl;split at hl <;> cases hl <;> rfl
 ·rename_i t x lo hi mx;cases mx with
  | none=>exact (zK hl).2
  | some m=>cases hl
 ·unfold zr at hl;split at hl <;> first | (cases hl;done) | skip
  all_goals (first
   | exact (zK hl).2
   | (split at hl <;> exact (zK hl).2)
   | simp_all)
def H8 (P:Program) (o:Op) (e:zJ) (h:AH) (K:V->Prop):Prop :=
 match o with
 | .call { callee:=.value f,args:=args,.. }=>∃ v,qc P (xl e f) (args.toList.map (xl e)) h (zO v h)/\K v
 | .call { callee:=.invoke r name,args:=args,.. }=>∃ v,tD P (xl e r) name (args.toList.map (xl e)) h (zO v h)/\K v
 | .panic _=>False
 | .move x=>K (xl e x)
 | .assign x=>K (xl e x)
 | .makeFunc fn a b=>K (.fn fn (a.toList.map (xl e)) (b.toList.map (xl e)))
 | op=>rp (kA op) (zc (zj (ZL P (xl e) h op)) K) False
def xw (P:Program) (o:Op) (e:zJ) (h h':AH) (v:V):Prop :=
 match o with
 | .call { callee:=.value f,args:=args,.. }=>qc P (xl e f) (args.toList.map (xl e)) h (zO v h')
 | .call { callee:=.invoke r name,args:=args,.. }=>tD P (xl e r) name (args.toList.map (xl e)) h (zO v h')
 | .panic _=>False
 | op=>ZL P (xl e) h op=some (v,h')
theorem iK {o:Op} {e e':zJ} {h h':AH} {v:V} (hx:∀ x∈o.operands,xl e x=xl e' x) (y:xw P o e h h' v):xw P o e' h h' v:=by
 have qU:=Oz (P:=P) h o hx;unfold xw at *;split at y
 ·rename_i f args ts;have h1:xl e f=xl e' f:=hx f (by simp [Op.operands,Call.operands]);have h2:args.toList.map (xl e)=args.toList.map (xl e'):=List.map_congr_left λx h=>hx x (by simp [Op.operands,Call.operands,Array.mem_toList_iff.1 h]);rw [<- h1,<- h2];exact y
 ·rename_i r name args ts;have h1:xl e r=xl e' r:=hx r (by simp [Op.operands,Call.operands]);have h2:args.toList.map (xl e)=args.toList.map (xl e'):=List.map_congr_left λx h=>hx x (by simp [Op.operands,Call.operands,Array.mem_toList_iff.1 h]);rw [<- h1,<- h2];exact y
 ·exact y.elim
 ·rename_i h1 h2 h3;cases o <;> (try simp only at y ⊢) <;> first | (rw [<- qU];exact y) | skip
  all_goals (first
   | exact absurd rfl (h3 _)
   | (rename_i c;obtain ⟨callee,args,ts⟩:=c;cases callee <;> first | exact absurd rfl (h1 _ _ _) | exact absurd rfl (h2 _ _ _ _) | ((try simp only at y ⊢);rw [<- qU];exact y)))
theorem da {o:Op} {e:zJ} {h h':AH} {v:V} (y:xw P o e h h' v):Nu P o e h (λv' h''=>v'=v/\h''=h') (λ_ _ _=>False):=by
 have lift:∀ {k:FuncId} {args:List V},rY P k args h (zO v h')->rY P k args h (zS (λv' h''=>v'=v/\h''=h') λ_ _=>False):=by
  intro k args hv;unfold rY at *;cases JI:vZ P k with
  | false=>rw [JI] at hv;exact hv.elim
  | true =>
   rw [JI] at hv
   try simp only [wn] at hv ⊢
   exact hv.mono λe h' q=>by cases e <;> exact q
 unfold xw at y;unfold Nu;split at y
 ·try simp only at y ⊢
  unfold qc at *;split at y
  ·exact lift y
  ·exact y.elim
 ·try simp only at y ⊢
  unfold tD at *;split at y
  ·split at y
   ·exact lift y
   ·exact y.elim
  ·exact y.elim
 ·exact y.elim
 ·rename_i h1 h2 h3;cases o <;> (try simp only at y ⊢) <;> first | (rw [y];exact ⟨rfl,rfl⟩) | (simp only [ZL,Option.some.injEq,Prod.mk.injEq] at y;exact ⟨y.1,y.2⟩) | (simp only [ZL] at y;cases y;done) | skip
  all_goals (first
   | exact absurd rfl (h3 _)
   | (rename_i c;obtain ⟨callee,args,ts⟩:=c;cases callee <;> first | exact absurd rfl (h1 _ _ _) | exact absurd rfl (h2 _ _ _ _) | ((try simp only at y ⊢);rw [y];exact ⟨rfl,rfl⟩)))
theorem up {o:Op} {e:zJ} {h:AH} {K:V->Prop} (hv:H8 P o e h K):∃ v,xw P o e h h v/\K v:=by
 unfold H8 at hv;unfold xw;split at hv
 ·exact hv
 ·exact hv
 ·exact hv.elim
 ·exact ⟨_,rfl,hv⟩
 ·exact ⟨_,rfl,hv⟩
 ·exact ⟨_,rfl,hv⟩
 ·rename_i h1 h2 h3 _ _ _;cases hq:kA o with
  | false=>rw [hq] at hv;exact hv.elim
  | true =>
   rw [hq] at hv
   try simp only [wn] at hv
   obtain ⟨v,g1,g2⟩:=aH hv;have:∃ h',ZL P (xl e) h o=some (v,h'):=by
    unfold zj at g1;split at g1
    ·rename_i u h' hu;cases g1;exact ⟨h',hu⟩
    ·cases g1
   obtain ⟨h',hl⟩:=this;obtain rfl:=Kn hq hl;refine ⟨v,?_,g2⟩;cases o <;> (try simp only) <;> first | exact hl | skip
   all_goals (first
    | exact absurd rfl (h3 _)
    | (rename_i c;obtain ⟨callee,args,ts⟩:=c;cases callee <;> first | exact absurd rfl (h1 _ _ _) | exact absurd rfl (h2 _ _ _ _) | exact hl))
structure wP (B B':wy):Prop where
 sub:∀ c,B.F c->B'.F c/\B'.W0.heap[c]?=B.W0.heap[c]?
 os:B'.W0.os=B.W0.os
 tape:B'.W0.tape=B.W0.tape
 output:B'.W0.output=B.W0.output
 size:B.W0.heap.size<=B'.W0.heap.size
theorem wP.refl (B:wy):wP B B:=⟨λ_ h=>⟨h,rfl⟩,rfl,rfl,rfl,Nat.le_refl _⟩
theorem wP.trans {A B C:wy} (h:wP A B) (k:wP B C):wP A C :=
 ⟨λc hc=>⟨(k.sub c (h.sub c hc).1).1,(k.sub c (h.sub c hc).1).2.trans (h.sub c hc).2⟩,k.os.trans h.os,k.tape.trans h.tape,k.output.trans h.output,Nat.le_trans h.size k.size⟩
theorem ye.V5 {B':wy} (hb:wP B B') (F:ye P B' ι h W):ye P B ι h W where
 obj:=F.obj
 fresh:=F.fresh
 apart:=F.apart
 free:=λn o L h1 h2 h3 h4=>F.free n o L h1 h2 h3 (hb.sub _ h4).1
 frame:=λb dN=>let h1:=hb.sub b dN;⟨(F.frame b h1.1).1.trans h1.2,(F.frame b h1.1).2⟩
 os:=F.os.trans hb.os
 tape:=F.tape.trans hb.tape
 output:=F.output.trans hb.output
 size:=Nat.le_trans hb.size F.size
theorem ye.grow {W':World} (F:ye P B ι h W) (X:Nat->Prop) (hb:∀ b,b<W.heap.size->W'.heap[b]?=W.heap[b]?) (hX:∀ b,X b->W.heap.size<=b/\b<W'.heap.size)
 (ho:W'.os=W.os) (ht:W'.tape=W.tape) (hp:W'.output=W.output) (hs:W.heap.size<=W'.heap.size):ye P ⟨λc=>B.F c\/X c,W'⟩ ι h W' where
 obj:=λn o hm=>let ⟨L,h1,h2⟩:=F.obj n o hm;⟨L,h1,vR (zw.le_refl _) (hb _ (uA h2)) h2⟩
 fresh:=F.fresh
 apart:=F.apart
 free:=λn o L h1 h2 h3 h4=>by
  rcases h4 with h4 | h4
  ·exact F.free n o L h1 h2 h3 h4
  ·obtain ⟨L',g1,g2⟩:=F.obj n o h1;rw [h3] at g1;cases g1;have:=uA g2;have:=(hX _ h4).1;omega
 frame:=λb h4=>⟨rfl,by
  rcases h4 with h4 | h4
  ·exact Nat.lt_of_lt_of_le (F.frame b h4).2 hs
  ·exact (hX _ h4).2⟩
 os:=rfl
 tape:=rfl
 output:=rfl
 size:=Nat.le_refl _
theorem wP.grow {W':World} (F:ye P B ι h W) (X:Nat->Prop) (hb:∀ b,b<W.heap.size->W'.heap[b]?=W.heap[b]?)
 (ho:W'.os=W.os) (ht:W'.tape=W.tape) (hp:W'.output=W.output) (hs:W.heap.size<=W'.heap.size):wP B ⟨λc=>B.F c\/X c,W'⟩ where
 sub:=λc hc=>⟨.inl hc,(hb c (F.frame c hc).2).trans (F.frame c hc).1⟩
 os:=ho.trans F.os
 tape:=ht.trans F.tape
 output:=hp.trans F.output
 size:=Nat.le_trans F.size hs
end
section
open Go Go.RowKit
variable {P:Program} {ι:zw} {W:World} {B:wy} {h:AH} {D:List AD}
theorem qb (N:Nat) (d:Option Tmp) (v:V) (e:zJ) (t:Nat):zJ.get (zJ.put N d v e) t=if d=some t/\t<N then v else zJ.get e t:=by
 cases d with
 | none=>simp [zJ.put]
 | some u =>
  simp only [zJ.put,Option.some.injEq];by_cases hu:u<N
  ·rw [if_pos hu];simp only [zJ.get];by_cases ht:t=u
   ·subst ht;simp [hu]
   ·rw [if_neg ht,if_neg (by rintro ⟨h,_⟩;exact ht h.symm)]
  ·rw [if_neg hu,if_neg (by rintro ⟨rfl,h⟩;exact hu h)]
theorem sY (e:zJ):∀ (l:List Nat) (t:Nat),t∈l->zJ.get (zJ.zA l e) t=zJ.get e t
 | u :: l,t,ht=>by
  simp only [zJ.zA,List.map_cons,zJ.get];by_cases h:t=u
  ·rw [if_pos h,h]
  ·rw [if_neg h];exact sY e l t (by rcases List.mem_cons.1 ht with h' | h';exact absurd h' h;exact h')
def wK (N:Nat) (ops:Array Oper) (zG:Nat->V) (e0:zJ) (S:Nat->Bool):Nat->zJ
 | 0=>e0
 | k+1=>bif S k then zJ.put N ((ops[k]?).bind (·.dst)) (zG k) (wK N ops zG e0 S k) else wK N ops zG e0 S k
section
variable {N:Nat} {ops:Array Oper} {zG:Nat->V} {e0:zJ} {S S':Nat->Bool}
theorem sO (k t:Nat):zJ.get (wK N ops zG e0 S (k+1)) t=if S k=true/\(ops[k]?).bind (·.dst)=some t/\t<N then zG k else zJ.get (wK N ops zG e0 S k) t:=by
 simp only [wK];cases hS:S k with
 | false=>simp
 | true =>
  simp only [cond_true,true_and];rw [qb]
theorem rK (t:Nat):∀ k,(∀ i,i<k->(ops[i]?).bind (·.dst)=some t->S i=S' i)->zJ.get (wK N ops zG e0 S k) t=zJ.get (wK N ops zG e0 S' k) t
 | 0,_=>rfl
 | k+1,h=>by
  rw [sO,sO,rK t k λi hi=>h i O_];by_cases hd:(ops[k]?).bind (·.dst)=some t
  ·rw [h k O_ hd]
  ·rw [if_neg (by rintro ⟨_,h,_⟩;exact hd h),if_neg (by rintro ⟨_,h,_⟩;exact hd h)]
theorem VK (t k:Nat):∀ n,(∀ i,k<=i->i<k+n->(ops[i]?).bind (·.dst)=some t->S i=false)->zJ.get (wK N ops zG e0 S (k+n)) t=zJ.get (wK N ops zG e0 S k) t
 | 0,_=>rfl
 | n+1,h=>by
  rw [show k+(n+1)=(k+n)+1 from rfl,sO];rw [if_neg (by rintro ⟨h1,h2,_⟩;have:=h (k+n) O_ O_ h2;rw [this] at h1;cases h1)];exact VK t k n λi h1 h2=>h i h1 O_
def ww (S:Nat->Bool) (j:Nat):Nat->Bool:=λi=>i == j||S i
theorem uG (S:Nat->Bool) (j:Nat):ww S j j=true:=by simp [ww]
theorem xO (S:Nat->Bool) {j i:Nat} (h:i≠j):ww S j i=S i:=by simp [ww,h]
theorem VV {j:Nat} (hj:S j=false) (t:Nat):∀ n,j<n->(∀ i,j<i->i<n->S i=true->(ops[i]?).bind (·.dst)=(ops[j]?).bind (·.dst)->(ops[j]?).bind (·.dst)=none) ->
 zJ.get (wK N ops zG e0 (ww S j) n) t=zJ.get (zJ.put N ((ops[j]?).bind (·.dst)) (zG j) (wK N ops zG e0 S n)) t
 | 0,h,_=>by omega
 | n+1,h,hi=>by
  rw [sO,qb,sO];rcases Nat.lt_or_ge j n with NZ | NZ
  ·rw [VV hj t n NZ λi h1 h2=>hi i h1 O_,qb,xO S (show n≠j from O_)];by_cases hc:S n=true/\(ops[n]?).bind (·.dst)=some t/\t<N
   ·rw [if_pos hc];by_cases hd:(ops[j]?).bind (·.dst)=some t/\t<N
    ·have:=hi n NZ O_ hc.1 (by rw [hc.2.1,hd.1]);rw [hd.1] at this;cases this
    ·rw [if_neg hd,if_pos hc]
   ·rw [if_neg hc,if_neg hc]
  ·obtain rfl:j=n:=O_;rw [uG,hj];simp only [true_and,Bool.false_eq_true,false_and,if_false];split
   ·rfl
   ·exact rK t j λi hi _=>xO S O_
def WZ (oj:Oper) (i:Nat):Bool:=oj.after.any λe=>Region.binds .any e&&e.on == i
def uH (ops:Array Oper):Bool :=
 (List.range ops.size).all λj=>(List.range j).all λi=>match ops[i]?,ops[j]? with
  | some oi,some oj=>WZ oj i||oi.apart ops oj
  | _,_=>true
def xb (ops:Array Oper) (S:Nat->Bool):Prop:=∀ i o,ops[i]?=some o->S i=true->∀ e∈o.after,Region.binds .any e=true->S e.on=true
def wR (ops:Array Oper) (S:Nat->Bool) (j:Nat):Prop:=S j=false/\∀ o,ops[j]?=some o->∀ e∈o.after,Region.binds .any e=true->S e.on=true
theorem xb.add {j:Nat} (hc:xb ops S) (hr:wR ops S j):xb ops (ww S j):=by
 intro i o ho hS e he hb;by_cases sT:i=j
 ·subst sT;have:=hr.2 o ho e he hb;simp [ww,this]
 ·rw [xO S sT] at hS;have:=hc i o ho hS e he hb;simp [ww,this]
theorem aK (hp:uH ops=true) {i j:Nat} {oi oj:Oper} (sT:i<j) (hi:ops[i]?=some oi) (hj:ops[j]?=some oj):WZ oj i=true\/oi.apart ops oj=true:=by
 have mg:j<ops.size:=(Array.getElem?_eq_some_iff.1 hj).1;have h1:=List.all_eq_true.1 hp j (List.mem_range.2 mg);have h2:=List.all_eq_true.1 h1 i (List.mem_range.2 sT);rw [hi,hj] at h2;simpa using h2
theorem VQ {o:Oper} {i:Nat} (h:WZ o i=true):∃ e∈o.after,Region.binds .any e=true/\e.on=i:=by
 unfold WZ at h;rw [Array.any_eq_true'] at h;obtain ⟨e,he,h2⟩:=h;simp only [Bool.and_eq_true,beq_iff_eq] at h2;exact ⟨e,he,h2⟩
theorem mW (hp:uH ops=true) {i j:Nat} {oi oj:Oper} (hr:wR ops S j) (sT:i<j) (hi:ops[i]?=some oi) (hj:ops[j]?=some oj) (ha:oi.apart ops oj=false):S i=true:=by
 rcases aK hp sT hi hj with h | h
 ·obtain ⟨e,he,hb,rfl⟩:=VQ h;exact hr.2 oj hj e he hb
 ·rw [ha] at h;cases h
theorem fH (hp:uH ops=true) {i j:Nat} {oi oj:Oper} (hc:xb ops S) (hr:S j=false) (sT:j<i) (hi:ops[i]?=some oi) (hj:ops[j]?=some oj) (ha:oj.apart ops oi=false):S i=false:=by
 rcases aK hp sT hj hi with h | h
 ·obtain ⟨e,he,hb,hon⟩:=VQ h;cases hS:S i with
  | false=>rfl
  | true =>
   have:=hc i oi hi hS e he hb;rw [hon,hr] at this;cases this
 ·rw [ha] at h;cases h
theorem mo {x y:Oper} {d:Tmp} (hx:x.dst=some d) (hy:d∈y.looksAt ops):x.apart ops y=false:=by
 cases h:x.apart ops y with
 | false=>rfl
 | true=>exact absurd hy ((Oper.apart_spec h).1 d hx)
theorem oT {x y:Oper} {d:Tmp} (hy:y.dst=some d) (hx:d∈x.looksAt ops):x.apart ops y=false:=by
 cases h:x.apart ops y with
 | false=>rfl
 | true=>exact absurd hx ((Oper.apart_spec h).2.2 d hy)
theorem mU {x y:Oper} {d:Tmp} (hx:x.dst=some d) (hy:y.dst=some d):x.apart ops y=false:=by
 cases h:x.apart ops y with
 | false=>rfl
 | true=>exact absurd hy ((Oper.apart_spec h).2.1 d hx)
theorem SH {i:Nat} {d:Tmp} (h:(ops[i]?).bind (·.dst)=some d):∃ o,ops[i]?=some o/\o.dst=some d:=by
 cases ho:ops[i]? with
 | none=>rw [ho] at h;cases h
 | some o=>rw [ho] at h;exact ⟨o,rfl,h⟩
theorem cS (hp:uH ops=true) (hc:xb ops S) {j:Nat} {o:Oper} (hr:wR ops S j) (ho:ops[j]?=some o) {t:Tmp} (ht:t∈o.looksAt ops) :
 zJ.get (wK N ops zG e0 S ops.size) t=zJ.get (wK N ops zG e0 (λ_=>true) j) t:=by
 have mg:j<ops.size:=(Array.getElem?_eq_some_iff.1 ho).1;have h1:=VK (N:=N) (ops:=ops) (zG:=zG) (e0:=e0) (S:=S) t j (ops.size-j) (by
  intro i h1 h2 hd;obtain ⟨oi,hi,hdi⟩:=SH hd;rcases Nat.lt_or_ge j i with hlt | Rb
  ·exact fH hp hc hr.1 hlt hi ho (oT hdi ht)
  ·obtain rfl:i=j:=O_;exact hr.1)
 rw [show j+(ops.size-j)=ops.size by omega] at h1;rw [h1];exact rK t j λi hi hd=>by
  obtain ⟨oi,vK,hdi⟩:=SH hd;exact mW hp hr hi vK ho (mo hdi ht)
end
end
section
open Go Go.RowKit
variable {P:Program} {ι:zw} {W:World} {B:wy} {h:AH} {D:List AD}
def bC:V->Bool
 | .int _ _=>true
 | _=>false
def RU (N:Nat) (o o2:Oper):Option (Tmp × TypeId × TypeId) :=
 match o.dst,o.op,o.guard,o2.op,o2.guard with
 | some d,.buildSlice _ _ _,none,.convert s dd (.tmp d'),none=>if d=d'/\d<N then some (d,s,dd) else none
 | _,_,_,_,_=>none
def wx (N:Nat) (ops:Array Oper) (i:Nat):Option (Tmp × TypeId × TypeId) :=
 match ops[i]?,ops[i+1]? with
 | some o,some o2=>RU N o o2
 | _,_=>none
def xD:AH:=⟨0,λ_=>none⟩
def kO (ops:Array Oper) (e:zJ) (o:Oper):Option Bool :=
 match o.guard with
 | none=>some true
 | some (j,w)=>match (ops[j]?).bind (·.dst) with
  | some d=>match e.get d with
   | .bool b=>some (decide (b=w))
   | .yX []=>some false
   | _=>none
  | none=>none
section
variable {N:Nat} {ops:Array Oper} {zG:Nat->V} {e0:zJ} {S:Nat->Bool} {mem:(Nat->Bool)->AH}
def Below (e e':zJ):Prop:=∀ t,zJ.get e t=.xF\/zJ.get e t=zJ.get e' t
def mZ (e:zJ) (c:Call):Option AD :=
 match c.callee with
 | .value f=>match xl e f with
  | .fn (.func k) first cap=>some (k,first++(c.args.toList.map (xl e)++cap))
  | _=>none
 | _=>none
inductive bW (P:Program) (N:Nat) (ops:Array Oper) (zG:Nat->V) (mem:(Nat->Bool)->AH) (D:(Nat->Bool)->List AD) (e0:zJ) (j:Nat):Prop where
 | ord (hA:wx N ops j=none) (hB:∀ i,j=i+1->wx N ops i=none) (e:zJ) (he:Below e (wK N ops zG e0 (λ_=>true) j)) (o:Oper) (ho:ops[j]?=some o)
  (hw:kO ops e o=some true) (hy:∀ S,xb ops S->wR ops S j->xw P o.op e (mem S) (mem (ww S j)) (zG j)) (hD:∀ S,xb ops S->wR ops S j->D (ww S j)=D S)
 | off (hA:wx N ops j=none) (hB:∀ i,j=i+1->wx N ops i=none) (e:zJ) (he:Below e (wK N ops zG e0 (λ_=>true) j)) (o:Oper) (ho:ops[j]?=some o)
  (hw:kO ops e o=some false) (hm:∀ S,xb ops S->wR ops S j->mem (ww S j)=mem S) (hv:zG j=yw) (hD:∀ S,xb ops S->wR ops S j->D (ww S j)=D S)
 | zcT (d:Tmp) (s dd:TypeId) (hA:wx N ops j=some (d,s,dd)) (e:zJ) (he:Below e (wK N ops zG e0 (λ_=>true) j)) (o:Oper) (ho:ops[j]?=some o)
  (t:TypeId) (n:Nat) (ps:Array (Nat × Operand)) (qU:o.op=.buildSlice t n ps) (hf:((ps.toList.map λp=>(p.1,xl e p.2)).all λp=>bC p.2)=true) (v1:V) (h1:AH)
  (hb:yp P xD t n (ps.toList.map λp=>(p.1,xl e p.2))=some (v1,h1)) (str:List UInt8) (hc:y9 P h1 s dd v1=some (.str str)) (hv:zG j=.xF) (hv2:zG (j+1)=.str str)
  (hm:∀ S,xb ops S->wR ops S j->mem (ww S j)=mem S) (hD:∀ S,xb ops S->wR ops S j->D (ww S j)=D S)
 | zcU (i:Nat) (hi:j=i+1) (hA:wx N ops i≠none) (hm:∀ S,xb ops S->wR ops S j->mem (ww S j)=mem S) (hD:∀ S,xb ops S->wR ops S j->D (ww S j)=D S)
 | dfr (hA:wx N ops j=none) (hB:∀ i,j=i+1->wx N ops i=none) (e:zJ) (he:Below e (wK N ops zG e0 (λ_=>true) j)) (o:Oper) (ho:ops[j]?=some o)
  (hw:kO ops e o=some true) (c:Call) (qU:o.op=.defer c) (ad:AD) (hdf:mZ e c=some ad) (hm:∀ S,xb ops S->wR ops S j->mem (ww S j)=mem S) (hv:zG j=yw)
  (hD:∀ S,xb ops S->wR ops S j->D (ww S j)=ad :: D S)
def Xy (P:Program) (zG:Nat->V) (B':wy) (a:Act) (i:Nat) (d:Tmp) (s dd:TypeId):Prop :=
 ∃ ι1 h1 v1 Wl str,ye P ⟨λ_=>False,Wl⟩ ι1 h1 Wl/\rel P ι1 v1 (a.tmps.getD d undef) /\
  (∀ n o L,h1.m n=some o->ι1 n=some L->B'.F L.wC/\Wl.heap[L.wC]?=B'.W0.heap[L.wC]?)/\y9 P h1 s dd v1=some (.str str)/\zG (i+1)=.str str
structure jG (P:Program) (B:wy) (ι0:zw) (N:Nat) (D:(Nat->Bool)->List AD) (ops:Array Oper) (zG:Nat->V) (mem:(Nat->Bool)->AH) (e0:zJ) (S:Nat->Bool) (a:Act) (W:World):Prop where
 ex:∃ ι B',zw.le ι0 ι/\wP B B'/\ye P B' ι (mem S) W/\wH P ι N (D S) (wK N ops zG e0 S ops.size) a /\
  ∀ i d s dd,wx N ops i=some (d,s,dd)->S i=true->S (i+1)=false->Xy P zG B' a i d s dd
theorem uk {i:Nat} {d:Tmp} {s dd:TypeId} (h:wx N ops i=some (d,s,dd)) :
 ∃ o o2 t n ps,ops[i]?=some o/\ops[i+1]?=some o2/\o.dst=some d/\o.op=.buildSlice t n ps/\o.guard=none/\o2.op=.convert s dd (.tmp d)/\o2.guard=none/\d<N:=by
 unfold wx at h;split at h
 ·rename_i o o2 ho ho2;unfold RU at h;split at h
  ·rename_i d1 t n ps s1 dd1 d2 h1 h2 h3 h4 h5;split at h
   ·rename_i hd;cases h;obtain ⟨rfl,hd⟩:=hd;exact ⟨o,o2,t,n,ps,ho,ho2,h1,h2,h3,h4,h5,hd⟩
   ·cases h
  ·cases h
 ·cases h
theorem LJ (hp:uH ops=true) (hc:xb ops S) {i j:Nat} {d:Tmp} {s dd:TypeId} (hl:wx N ops i=some (d,s,dd)) (hi:S i=true) (hi1:S (i+1)=false)
 {o:Oper} (hr:wR ops S j) (ho:ops[j]?=some o) (wO:j≠i+1):o.dst≠some d:=by
 intro hd;obtain ⟨oi,o2,t,n,ps,k1,k2,k3,k4,k5,k6,k7,k8⟩:=uk hl;have hji:j≠i:=by rintro rfl;rw [hr.1] at hi;cases hi
 have J9:d∈o2.looksAt ops:=by
  unfold Oper.looksAt;rw [k6];simp [Op.operands]
 rcases Nat.lt_or_ge j i with hlt | Rb
 ·have:=fH hp hc hr.1 hlt k1 ho (mU hd k3);rw [this] at hi;cases hi
 ·have hlt:i+1<j:=O_;have:=mW hp hr hlt k2 ho (oT hd J9);rw [hi1] at this;cases this
theorem sI {a:Act} {o:Oper} {d:Tmp} (hd:o.dst≠some d) (x:Value):(a.put o.dst x).tmps.getD d undef=a.tmps.getD d undef:=by
 cases ho:o.dst with
 | none=>rfl
 | some t =>
  have:t≠d:=λe=>hd (by rw [ho,e]);simp only [Act.put,Array.getD_eq_getD_getElem?];rw [Array.getElem?_setIfInBounds_ne this]
theorem ow {e e':zJ} {a:Act} (r:wH P ι N D e a) (h:∀ t,zJ.get e' t=.xF\/zJ.get e' t=zJ.get e t):wH P ι N D e' a :=
 ⟨r.1,r.2.1,λt=>by rcases h t with k | k;rw [k];exact .inl rfl;rw [k];exact r.2.2 t⟩
theorem qv (hp:uH ops=true) (hc:xb ops S) {j:Nat} {o:Oper} (hr:wR ops S j) (ho:ops[j]?=some o) {a:Act} (r:wH P ι N D (wK N ops zG e0 S ops.size) a) {x:Value} (hx:rel P ι (zG j) x) :
 wH P ι N D (wK N ops zG e0 (ww S j) ops.size) (a.put o.dst x):=by
 have mg:j<ops.size:=(Array.getElem?_eq_some_iff.1 ho).1;have qH:(ops[j]?).bind (·.dst)=o.dst:=by rw [ho];rfl
 refine ow (iv (d:=o.dst) (v:=zG j) r hx) λt=>.inr ?_;rw [VV hr.1 t ops.size mg ?_,qH];intro i h1 h2 h3 h4;cases hd:o.dst with
 | none=>rw [qH,hd]
 | some d =>
  rw [qH,hd] at h4;obtain ⟨oi,hi,hdi⟩:=SH h4;have:=fH hp hc hr.1 h1 hi ho (mU hd hdi);rw [this] at h3;cases h3
theorem fB {e:zJ} {a:Act} {o:Oper} {b:Bool} (r:wH P ι N D e a) (hw:kO ops e o=some b):Region.wanted o (yielded ops a.tmps)=b:=by
 unfold kO at hw;unfold Region.wanted;split at hw
 ·rename_i hg;rw [hg];simpa using hw
 ·rename_i j w hg;rw [hg];simp only;split at hw
  ·rename_i d hd;have hr:=r.2.2 d;split at hw
   ·rename_i c hc;rw [hc] at hr;rw [i6 hd hr];simp only [Option.some.injEq] at hw;rw [<- hw];cases c <;> cases w <;> rfl
   ·rename_i hc;rw [hc] at hr;rw [iB hd hr];simp only [Option.some.injEq] at hw;rw [<- hw];rfl
   ·cases hw
  ·cases hw
theorem fG {e:zJ} {o:Oper}:kO ops (zJ.zA (o.looksAt ops) e) o=kO ops e o:=by
 unfold kO;cases hg:o.guard with
 | none=>rfl
 | some g =>
  obtain ⟨j,w⟩:=g;simp only;cases hd:(ops[j]?).bind (·.dst) with
  | none=>rfl
  | some d =>
   simp only;rw [sY];unfold Oper.looksAt;rw [hg];simp [hd]
theorem pm {e:zJ} {o:Oper} (x:Operand) (hx:x∈o.op.operands):xl (zJ.zA (o.looksAt ops) e) x=xl e x:=by
 cases x with
 | tmp t =>
  simp only [xl];apply sY;unfold Oper.looksAt;refine List.mem_append_left _ (List.mem_filterMap.2 ⟨.tmp t,by simpa using hx,rfl⟩)
 | _=>rfl
theorem rG (hp:uH ops=true) (hc:xb ops S) {j:Nat} {o:Oper} (hr:wR ops S j) (ho:ops[j]?=some o) {a:Act} (r:wH P ι N D (wK N ops zG e0 S ops.size) a) {e:zJ} (he:Below e (wK N ops zG e0 (λ_=>true) j)) :
 wH P ι N D (zJ.zA (o.looksAt ops) e) a:=by
 refine ow r λt=>?_;by_cases ht:t∈o.looksAt ops
 ·rw [sY _ _ _ ht,cS hp hc hr ho ht];exact he t
 ·left
  have:∀ l:List Nat,t ∉ l->zJ.get (zJ.zA l e) t=.xF:=by
   intro l;induction l with
   | nil=>intro _;rfl
   | cons u l ih =>
    intro hu;simp only [zJ.zA,List.map_cons,zJ.get];rw [if_neg (by rintro rfl;exact hu S_)];exact ih λh=>hu (by simp [h])
  exact this _ ht
end
theorem Vv {ops:Array Oper} {e:zJ} {o:Oper} {c:Call} (qU:o.op=.defer c):mZ (zJ.zA (o.looksAt ops) e) c=mZ e c:=by
 have hk:∀ x∈c.operands,xl (zJ.zA (o.looksAt ops) e) x=xl e x:=λx hx=>pm x (by rw [qU];simpa [Op.operands] using hx);unfold mZ;obtain ⟨callee,args,ts⟩:=c;cases callee <;> try rfl
 rename_i f;simp only;rw [hk f (by simp [Call.operands]),List.map_congr_left (l:=args.toList) λx h=>hk x (by simp [Call.operands,Array.mem_toList_iff.1 h])]
theorem Yh {N:Nat} {D:List AD} {e:zJ} {a:Act} (r:wH P ι N D e a) {o:Oper} {c:Call} (qU:o.op=.defer c) {ad:AD} (hd:mZ e c=some ad) :
 ∃ d,(execOp a.eval o).run P W=.ok (.defer d) W/\wH P ι N (ad :: D) e { a with defers:=d :: a.defers }:=by
 obtain ⟨dst,op,type,pos,after,guard⟩:=o;simp only at qU;subst qU;unfold mZ at hd;split at hd
 ·rename_i f hc;split at hd
  ·rename_i k first cap hf;cases hd;have hρ:=vG r f;rw [hf] at hρ;obtain ⟨fa,fb,hf1,hf2,hf3⟩:=gH hρ;have hargs:=pw (vG r) c.args.toList;refine ⟨{ target:=.fn (.func k) fb.toArray,args:=fa.toArray++c.args.map a.eval },?_,r.1,⟨_,_,rfl,.inl ⟨fb.toArray,rfl,?_⟩,r.2.1⟩,r.2.2⟩
   ·obtain ⟨callee,args,ts⟩:=c;simp only at hc;subst hc;simp only [execOp,resolve,hf1,Deferred.ofValue,Sem.run_bind,Sem.run_pure,Result.andThen_ok]
   ·have:=qx hf2 (qx hargs hf3);have e:(fa.toArray++c.args.map a.eval++fb.toArray).toList=fa++(c.args.toList.map a.eval++fb):=S_;simp only;rw [e];exact this
  ·cases hd
 ·cases hd
end
section
open Go Go.RowKit
variable {P:Program} {ι:zw} {W:World} {B:wy} {h:AH} {D:(Nat->Bool)->List AD}
variable {N:Nat} {ops:Array Oper} {zG:Nat->V} {e0:zJ} {S:Nat->Bool} {mem:(Nat->Bool)->AH} {ι0:zw}
theorem dL {h h1:AH} {t:TypeId} {n:Nat} {ps:List (Nat × V)} {v:V} (hb:yp P h t n ps=some (v,h1)):(∃ a,v=.y8 (some a) n)/\∃ e l,h1=h.make (.cells true (.row e) (.agg l)):=by
 unfold yp at hb;split at hb
 ·split at hb
  ·split at hb
   ·split at hb
    ·cases hb;exact ⟨⟨_,rfl⟩,⟨_,_,rfl⟩⟩
    ·cases hb
   ·cases hb
  ·cases hb
 ·cases hb
theorem VU {B' B'':wy} {a a':Act} {i:Nat} {d:Tmp} {s dd:TypeId} (hl:Xy P zG B' a i d s dd) (ht:a'.tmps.getD d undef=a.tmps.getD d undef)
 (hb:∀ c,B'.F c->B''.F c/\B''.W0.heap[c]?=B'.W0.heap[c]?):Xy P zG B'' a' i d s dd:=by
 obtain ⟨ι1,h1,v1,Wl,str,k1,k2,k3,k4,k5⟩:=hl;refine ⟨ι1,h1,v1,Wl,str,k1,by rw [ht];exact k2,?_,k4,k5⟩;intro n o L hm hL;obtain ⟨g1,g2⟩:=k3 n o L hm hL;exact ⟨(hb _ g1).1,g2.trans (hb _ g1).2.symm⟩
theorem gM (K:Ok P) (hp:uH ops=true) {j:Nat} (Zo:bW P N ops zG mem D e0 j) (hc:xb ops S) (hr:wR ops S j) {a:Act} {W:World} (g:jG P B ι0 N D ops zG mem e0 S a W) (Q:Exit->Act->World->Prop) :
 wpOp P ops Q j (jG P B ι0 N D ops zG mem e0 (ww S j)) a W:=by
 obtain ⟨ι,B',hle,hB,F,r,hl⟩:=g.ex
 -- the other slices zA z0E state,where the base grows and z0E slots stay
 have zA:∀ {B'':wy} {o:Oper} {x:Value},ops[j]?=some o->(∀ c,B'.F c->B''.F c/\B''.W0.heap[c]?=B'.W0.heap[c]?) ->
  ∀ i d s dd,wx N ops i=some (d,s,dd)->i≠j->ww S j i=true->ww S j (i+1)=false->Xy P zG B'' (a.put o.dst x) i d s dd:=by
  intro B'' o x ho hb i d s dd ZF sT h1 h2;rw [xO S sT] at h1;have hi1:i+1≠j:=by rintro rfl;rw [uG] at h2;cases h2
  rw [xO S hi1] at h2;exact VU (hl i d s dd ZF h1 h2) (sI (LJ hp hc ZF h1 h2 hr ho (λe=>hi1 e.symm)) x) hb
 cases Zo with
 | ord hA hB' e he o ho hw hy hD =>
  have re:=rG hp hc hr ho r he;have UU:=fB re (fG.trans hw);unfold wpOp;rw [ho];simp only;rw [if_pos (by simp [UU])]
  left
  have y:=iK (λx hx=>(pm (ops:=ops) x hx).symm) (hy S hc hr);refine jU (Q:=uK P B' ι N (D S) λ_ _ _=>False) (λx a w p=>by obtain ⟨_,_,_,_,_,_,_,_,f⟩:=p;exact f.elim) (iZ K F re (da y) ?_);rintro ι' h' v x w' g1 g2 g3 ⟨rfl,rfl⟩;refine ⟨ι',B',zw.le_trans hle g1,hB,g2,by rw [hD S hc hr];exact qv hp hc hr ho (nX g1 r) g3,?_⟩;intro i d s dd ZF h1 h2;by_cases sT:i=j
  ·subst sT;rw [hA] at ZF;cases ZF
  ·exact zA ho (λc hc=>⟨hc,rfl⟩) i d s dd ZF sT h1 h2
 | off hA hB' e he o ho hw hm hv hD =>
  have re:=rG hp hc hr ho r he;have UU:=fB re (fG.trans hw);unfold wpOp;rw [ho];simp only;rw [if_neg (by simp [UU])];refine ⟨ι,B',hle,hB,by rw [hm S hc hr];exact F,by rw [hD S hc hr];exact qv hp hc hr ho r (by rw [hv];exact lc),?_⟩;intro i d s dd ZF h1 h2;by_cases sT:i=j
  ·subst sT;rw [hA] at ZF;cases ZF
  ·exact zA ho (λc hc=>⟨hc,rfl⟩) i d s dd ZF sT h1 h2
 | zcT d s dd hA e he o ho t n ps qU hf v1 h1 hb str hcv hv hv2 hm hD =>
  obtain ⟨o',o2,t',n',ZG,k1,k2,k3,k4,k5,k6,k7,k8⟩:=uk hA;rw [ho] at k1;cases k1;have re:=rG hp hc hr ho r he;unfold wpOp;rw [ho];simp only;rw [if_pos (by simp [Region.wanted,k5])]
  left
  -- its operation,over no memory
  let ρ:Operand->V:=λx=>if bC (xl (zJ.zA (o.looksAt ops) e) x) then xl (zJ.zA (o.looksAt ops) e) x else .xF
  have hρ:∀ x,rel P (λ_=>none) (ρ x) (a.eval x):=by
   intro x;have:=vG re x;show rel P _ (if _ then _ else _) _;split
   ·rename_i hi;generalize xl (zJ.zA (o.looksAt ops) e) x=v at *;cases v <;> first | (simp [bC] at hi;done) | skip
    rw [vA this];exact mk_int _ _
   ·exact .inl rfl
  have F0:ye P ⟨λb=>b<W.heap.size,W⟩ (λ_=>none) xD W :=
   ⟨λn o hm=>by simp [xD] at hm,λ_ _=>rfl,λn n' o o' L L' hm=>by simp [xD] at hm,λn o L hm=>by simp [xD] at hm,λb hb=>⟨rfl,hb⟩,rfl,rfl,rfl,Nat.le_refl _⟩
  have JJ:ZL P ρ xD o.op=some (v1,h1):=by
   rw [qU];simp only [ZL];rw [<- hb];congr 1;apply List.map_congr_left;intro p hp';have hin:xl (zJ.zA (o.looksAt ops) e) p.2=xl e p.2:=pm (ops:=ops) p.2 (by
    have hq:p.2∈ps.map (·.2):=Array.mem_map.2 ⟨p,Array.mem_toList_iff.1 hp',rfl⟩;rw [qU];simpa [Op.operands] using hq)
   have hi:bC (xl e p.2)=true:=by
    have:=List.all_eq_true.1 hf (p.1,xl e p.2) (List.mem_map.2 ⟨p,hp',rfl⟩);exact this
   show (p.1,if _ then _ else _)=_;rw [hin,if_pos hi]
  obtain ⟨ι1,W',nx,g1,g2,g3,g4⟩:=S5 (o:=o) K F0 hρ JJ;obtain ⟨⟨a1,rfl⟩,e1,l1,hh1⟩:=dL hb;rcases g4 with ⟨y,rfl,hy⟩ | ⟨_,z4A⟩
  ·unfold Oper.wp;rw [g1];show jG P B ι0 N D ops zG mem e0 (ww S j) (a.put o.dst y) W';have hold:∀ b,b<W.heap.size->W'.heap[b]?=W.heap[b]?:=λb hb=>(g3.frame b hb).1;let X:Nat->Prop:=λc=>∃ n o L,h1.m n=some o/\ι1 n=some L/\c=L.wC
   have hX:∀ c,X c->W.heap.size<=c/\c<W'.heap.size:=by
    rintro c ⟨n1,o1,L1,m1,m2,rfl⟩;obtain ⟨L2,q1,q2⟩:=g3.obj n1 o1 m1;rw [m2] at q1;cases q1;refine ⟨?_,uA q2⟩;have ux:o1.w8=true:=by
     rw [hh1] at m1;simp only [AH.make] at m1;by_cases hn:n1=xD.next
     ·rw [if_pos hn] at m1;cases m1;rfl
     ·rw [if_neg hn] at m1;simp [xD] at m1
    have:=g3.free n1 o1 L1 m1 ux m2;exact Nat.le_of_not_lt this
   have F2:=F.grow X hold hX g3.os g3.tape g3.output g3.size;have hB2:=wP.grow F X hold g3.os g3.tape g3.output g3.size;refine ⟨ι,_,hle,hB.trans hB2,by rw [hm S hc hr];exact F2,by rw [hD S hc hr];exact qv hp hc hr ho r (by rw [hv];exact .inl rfl),?_⟩;intro i d' s' dd' ZF q1 q2;by_cases sT:i=j
   ·subst sT;rw [hA] at ZF;cases ZF;refine ⟨ι1,h1,_,W',str,⟨g3.obj,g3.fresh,g3.apart,λ_ _ _ _ _ _ h=>h,λ_ h=>h.elim,rfl,rfl,rfl,Nat.le_refl _⟩,?_,?_,hcv,hv2⟩
    ·have:(a.put o.dst y).tmps.getD d undef=y:=by
      rw [k3];simp [Act.put,Array.getD_eq_getD_getElem?,r.1,k8]
     rw [this];exact hy
    ·intro n1 o1 L1 m1 m2;exact ⟨.inr ⟨n1,o1,L1,m1,m2,rfl⟩,rfl⟩
   ·refine zA ho ?_ i d' s' dd' ZF sT q1 q2;exact hB2.sub
  ·cases z4A
 | dfr hA hBl e he o ho hw c qU ad hdf hm hv hD =>
  have re:=rG hp hc hr ho r he;have UU:=fB re (fG.trans hw);unfold wpOp;rw [ho];simp only;rw [if_pos (by simp [UU])]
  left
  obtain ⟨d,d1,d2⟩:=Yh (W:=W) re qU (by rw [Vv qU];exact hdf);unfold Oper.wp;rw [d1];show jG P B ι0 N D ops zG mem e0 (ww S j) ({ a with defers:=d :: a.defers }.put o.dst undef) W;have r2:wH P ι N (ad :: D S) (wK N ops zG e0 S ops.size) { a with defers:=d :: a.defers }:=⟨r.1,d2.2.1,r.2.2⟩
  refine ⟨ι,B',hle,hB,by rw [hm S hc hr];exact F,by rw [hD S hc hr];exact qv hp hc hr ho r2 (by rw [hv];exact lc),?_⟩;intro i d' s dd ZF h1 h2;by_cases sT:i=j
  ·subst sT;rw [hA] at ZF;cases ZF
  ·exact VU (zA (x:=undef) ho (λc hc=>⟨hc,rfl⟩) i d' s dd ZF sT h1 h2) (by cases o.dst <;> rfl) λc hc=>⟨hc,rfl⟩
 | zcU i hi hA hm hD =>
  subst hi;cases ZF:wx N ops i with
  | none=>exact absurd ZF hA
  | some q =>
   obtain ⟨d,s,dd⟩:=q;obtain ⟨o,o2,t,n,ps,k1,k2,k3,k4,k5,k6,k7,k8⟩:=uk ZF;have J9:d∈o2.looksAt ops:=by
    unfold Oper.looksAt;rw [k6];simp [Op.operands]
   have hSi:=mW hp hr (Nat.lt_succ_self i) k1 k2 (mo k3 J9);obtain ⟨ι1,h1,v1,Wl,str,f1,f2,f3,f4,f5⟩:=hl i d s dd ZF hSi hr.1;unfold wpOp;rw [k2];simp only;rw [if_pos (by simp [Region.wanted,k7])]
   left
   have F1:ye P ⟨λ_=>False,W⟩ ι1 h1 W:=by
    refine ⟨λn1 o1 m1=>?_,f1.fresh,f1.apart,λ_ _ _ _ _ _ h=>h,λ_ h=>h.elim,rfl,rfl,rfl,Nat.le_refl _⟩;obtain ⟨L1,q1,q2⟩:=f1.obj n1 o1 m1;obtain ⟨q3,q4⟩:=f3 n1 o1 L1 m1 q1;exact ⟨L1,q1,vR (zw.le_refl _) ((F.frame _ q3).1.trans q4.symm) q2⟩
   obtain ⟨z,z1,z2⟩:=Ul K F1 f4 f2;have hz:=tS z2;unfold Oper.wp;have pM:(execOp a.eval o2).run P W=.ok (.value z) W:=by
    obtain ⟨dst,op,type,pos,after,guard⟩:=o2;simp only at k6;subst k6;simp only [execOp];have:a.eval (.tmp d)=a.tmps.getD d undef:=by simp [Act.eval,Array.getD_eq_getD_getElem?]
    rw [this];simp only [Sem.run_bind,z1,Sem.run_pure,Result.andThen_ok]
   rw [pM];show jG P B ι0 N D ops zG mem e0 (ww S (i+1)) (a.put o2.dst z) W;refine ⟨ι,B',hle,hB,by rw [hm S hc hr];exact F,by rw [hD S hc hr];exact qv hp hc hr k2 r (by rw [f5,hz];exact mk_str _),?_⟩;intro i' d' s' dd' zcV q1 q2;by_cases sT:i'=i+1
   ·subst sT;obtain ⟨o3,o4,t',n',ZG,m1,m2,m3,m4,m5,m6,m7,m8⟩:=uk zcV;rw [k2] at m1;cases m1;rw [k6] at m4;cases m4
   ·exact zA k2 (λc hc=>⟨hc,rfl⟩) i' d' s' dd' zcV sT q1 q2
def eG (ops:Array Oper):Bool :=
 (List.range ops.size).all λj=>match ops[j]? with
  | some o=>o.after.all λe=>!Region.binds .any e||decide (e.on<j)
  | none=>true
def tG (yP:Array Bool):Nat->Bool:=λi=>yP.getD i false
def left (n:Nat) (yP:Array Bool):Nat:=(List.range n).countP λi=>!yP.getD i false
theorem Yg {yP:Array Bool} {j:Nat} (hj:j<yP.size):tG (yP.setIfInBounds j true)=ww (tG yP) j:=by
 funext i;unfold tG ww;by_cases sT:i=j
 ·subst sT;simp [hj]
 ·rw [getD_set_ne false (λh=>sT h.symm)];simp [sT]
theorem iQ {yP:Array Bool} {j:Nat} (hs:yP.size=ops.size) (h:j∈Region.ready .any ops yP):j<ops.size/\wR ops (tG yP) j:=by
 rw [mem_ready] at h;obtain ⟨h1,o,ho,h2⟩:=h;have mg:j<ops.size:=(Array.getElem?_eq_some_iff.1 ho).1;refine ⟨mg,?_,?_⟩
 ·unfold tG;have:j<yP.size:=O_;simpa [this] using h1
 ·intro o' rD e he hb;rw [ho] at rD;cases rD;exact h2 e he hb
theorem nQ (Rg:eG ops=true) {yP:Array Bool} (hs:yP.size=ops.size) (h:Region.ready .any ops yP=[]):∀ i,i<ops.size->tG yP i=true:=by
 intro i;induction i using Nat.strongRecOn with
 | _ i ih =>
  intro hi;cases hS:tG yP i with
  | true=>rfl
  | false =>
   exfalso;have:i∈Region.ready .any ops yP:=by
    rw [mem_ready];have hil:i<yP.size:=O_;refine ⟨by unfold tG at hS;simpa [hil] using hS,ops[i],by simp [hi],?_⟩;intro e he hb;have h1:=List.all_eq_true.1 Rg i (List.mem_range.2 hi);have hoi:ops[i]?=some ops[i]:=by simp [hi]
    rw [hoi] at h1;simp only at h1;rw [Array.all_eq_true'] at h1;have h2:=h1 e he;simp only [hb,Bool.not_true,Bool.false_or,decide_eq_true_eq] at h2;exact ih e.on h2 O_
   rw [h] at this;cases this
theorem OF {p q:Nat->Bool} {l:List Nat} (h:∀ i,p i=true->q i=true) {j:Nat} (hj:j∈l) (h1:q j=true) (h2:p j=false):l.countP p<l.countP q:=by
 induction l with
 | nil=>cases hj
 | cons x l ih =>
  have hle:l.countP p<=l.countP q:=List.countP_mono_left λi _=>h i;rcases List.mem_cons.1 hj with rfl | hj
  ·rw [List.countP_cons,List.countP_cons,h1,h2];simp;omega
  ·have:=ih hj;rw [List.countP_cons,List.countP_cons];cases hpx:p x with
   | false=>simp;split <;> omega
   | true=>rw [h x hpx];simp;omega
theorem Ui {yP:Array Bool} {j n:Nat} (hn:yP.size=n) (hj:j<n) (hS:tG yP j=false):left n (yP.setIfInBounds j true)<left n yP:=by
 unfold left;refine OF (j:=j) ?_ (List.mem_range.2 hj) ?_ ?_
 ·intro i hi;by_cases sT:i=j
  ·subst sT;unfold tG at hS;simp only [hS];rfl
  ·rw [getD_set_ne false (λh=>sT h.symm)] at hi;exact hi
 ·unfold tG at hS;simp only [hS];rfl
 ·have:j<yP.size:=O_;simp [this]
theorem Lc (K:Ok P) (hp:uH ops=true) (Rg:eG ops=true) (Zo:∀ j,j<ops.size->bW P N ops zG mem D e0 j) {Q:Exit->Act->World->Prop}
 (hQ:∀ S a w,(∀ i,i<ops.size->S i=true)->jG P B ι0 N D ops zG mem e0 S a w->Q .normal a w) :
 ∀ (fuel:Nat) (yP:Array Bool) (a:Act) (W:World),yP.size=ops.size->left ops.size yP<=fuel->xb ops (tG yP)->jG P B ι0 N D ops zG mem e0 (tG yP) a W->wpAny P .any ops Q fuel yP a W
 | 0,yP,a,W,hs,hf,hc,g=>by
  have dQ:Region.ready .any ops yP=[]:=by
   cases hr:Region.ready .any ops yP with
   | nil=>rfl
   | cons j l =>
    exfalso;obtain ⟨hj,hS,_⟩:=iQ hs (j:=j) (by rw [hr];simp);have h0:left ops.size yP=0:=O_;unfold left at h0;rw [List.countP_eq_zero] at h0;have:=h0 j (List.mem_range.2 hj);unfold tG at hS;simp [hS] at this
  exact ⟨dQ,hQ _ _ _ (nQ Rg hs dQ) g⟩
 | fuel+1,yP,a,W,hs,hf,hc,g=>by
  refine ⟨λdQ=>hQ _ _ _ (nQ Rg hs dQ) g,λj hj=>?_⟩;obtain ⟨mg,hr⟩:=iQ hs hj;refine wpOp_mono ?_ (gM K hp (Zo j mg) hc hr g Q);intro a' w' g';have qz:=Yg (yP:=yP) (j:=j) O_;refine Lc K hp Rg Zo hQ fuel _ a' w' (by simp [hs]) ?_ ?_ ?_
  ·have:=Ui (n:=ops.size) hs mg hr.1;omega
  ·rw [qz];exact hc.add hr
  ·rw [qz];exact g'
theorem cO (K:Ok P) (hm:P.follows .mixedOrders=true) (hp:uH ops=true) (Rg:eG ops=true) (Zo:∀ j,j<ops.size->bW P N ops zG mem D e0 j) {gc:AH}
 (hf:∀ S,(∀ i,i<ops.size->S i=true)->mem S=gc) {a:Act} {D0 D1:List AD} (hD0:D (λ_=>false)=D0) (hD1:∀ S,(∀ i,i<ops.size->S i=true)->D S=D1) (F:ye P B ι (mem λ_=>false) W) (r:wH P ι N D0 e0 a) {id:Nat} {e:zJ} (he:Below e (wK N ops zG e0 (λ_=>true) ops.size))
 {Q:yT->zJ->AH->Prop} (hQ:Q .normal e gc):(Code.region id ops true).wp P (uK P B ι N D1 Q) a W:=by
 have hS0:tG (Array.replicate ops.size false)=λ_=>false:=by
  funext i;unfold tG;by_cases hi:i<ops.size <;> simp [hi]
 have UV:∀ k,wK N ops zG e0 (λ_=>false) k=e0:=by
  intro k;induction k with
  | zero=>rfl
  | succ k ih=>simp only [wK,cond_false,ih]
 refine wp_region_any hm (Lc (B:=B) (ι0:=ι) (D:=D) (N:=N) (zG:=zG) (mem:=mem) (e0:=e0) K hp Rg Zo ?_ ops.size _ a _ S_ ?_ ?_ ?_)
 ·intro S a w hS g;obtain ⟨ι',B',h1,h2,h3,h4,h5⟩:=g.ex;refine ⟨ι',gc,e,.normal,h1,?_,?_,trivial,hQ⟩
  ·rw [hf S hS] at h3;exact h3.V5 h2
  ·rw [hD1 S hS] at h4;refine ow h4 λt=>?_;rw [rK (S:=S) (S':=λ_=>true) t ops.size λi hi _=>hS i hi];exact he t
 ·unfold left;refine Nat.le_trans List.countP_le_length ?_;simp
 ·rw [hS0];intro i o ho h;cases h
 ·rw [hS0];refine ⟨ι,B,zw.le_refl _,wP.refl _,F.drew _,?_,?_⟩
  ·rw [UV,hD0];exact r
  ·intro i d s dd _ h;cases h
end
section
open Go Go.RowKit
variable {P:Program} {ι:zw} {W:World} {B:wy} {h:AH} {D:List AD}
abbrev z1Y:=Option (TypeId × Nat × List (Nat × V))
def oB (P:Program) (t:TypeId) (n:Nat) (ps:List (Nat × V)) (s d:TypeId):Option V :=
 if (ps.all λp=>bC p.2)=true then match yp P xD t n ps with
  | some (v,h)=>match y9 P h s d v with
   | some (.str str)=>some (.str str)
   | _=>none
  | none=>none
 else none
def nH (P:Program) (N:Nat) (ops:Array Oper) (h:AH):Nat->List Oper->z1Y->(zJ->Prop)->zJ->Prop
 | _,[],none,k,e=>k e
 | _,[],some _,_,_=>False
 | j,o :: rest,some (t,n,ps),k,e=>match o.op with
  | .convert s d _=>zc (oB P t n ps s d) λv=>nH P N ops h (j+1) rest none k (e.put N o.dst v)
  | _=>False
 | j,o :: rest,none,k,e=>match wx N ops j with
  | some _=>match o.op with
   | .buildSlice t n ps=>nH P N ops h (j+1) rest (some (t,n,ps.toList.map λp=>(p.1,xl e p.2))) k (e.put N o.dst .xF)
   | _=>False
  | none=>H8 P o.op e h λv=>nH P N ops h (j+1) rest none k (e.put N o.dst v)
def tR (P:Program) (N:Nat) (ops:Array Oper) (h:AH):Nat->List (Option (Nat × Bool) × List Oper)->List (List Nat)->(yT->zJ->AH->Prop)->zJ->Prop
 | _,[],_,Q,e=>Q .normal e h
 | j,(none,l) :: rest,ks,Q,e=>nH P N ops h j l none (λe=>tR P N ops h (j+l.length) rest ks Q e) e
 | j,(some (i,w),l) :: rest,ks,Q,e =>
  match (ops[i]?).bind (·.dst) with
  | some d=>rp (l.all (λo=>o.dst != some d)) (
   vp (e.get d) w (nH P N ops h j l none (λe=>ju ks (tR P N ops h (j+l.length) rest ks.tail Q (ZQ ks e))) e) (ju ks (tR P N ops h (j+l.length) rest ks.tail Q (ZQ ks (nZ N l e))))) False
  | none=>False
def ui (zG:Nat->V) (vs:List V):Prop:=∀ k,k<vs.length->zG k=vs.getD k .xF
theorem yj {zG:Nat->V} {vs:List V} {v:V} (h:ui zG (vs++[v])):ui zG vs/\zG vs.length=v:=by
 constructor
 ·intro k hk;rw [h k (by simp;omega)];simp [List.getElem?_append_left hk]
 ·rw [h vs.length S_];simp
section
variable {N:Nat} {ops:Array Oper} {e0:zJ} {mem:(Nat->Bool)->AH}
def zab (P:Program) (N:Nat) (ops:Array Oper) (zG:Nat->V) (mem:(Nat->Bool)->AH) (e0:zJ) (i:Nat):Prop :=
 ∀ D:(Nat->Bool)->List AD,(∀ S,xb ops S->wR ops S i->D (ww S i)=D S)->bW P N ops zG mem D e0 i
structure jz (P:Program) (N:Nat) (ops:Array Oper) (mem:(Nat->Bool)->AH) (e0:zJ) (vs:List V) (m:Nat) (e:zJ):Prop where
 below:∀ zG,ui zG vs->Below e (wK N ops zG e0 (λ_=>true) vs.length)
 lex:∀ i,i<m->∀ zG,ui zG vs->zab P N ops zG mem e0 i
theorem rN {zG:Nat->V} {e:zJ} {j:Nat} {o:Oper} (ho:ops[j]?=some o) (hb:Below e (wK N ops zG e0 (λ_=>true) j)):Below (zJ.put N o.dst (zG j) e) (wK N ops zG e0 (λ_=>true) (j+1)):=by
 intro t;have hd:(ops[j]?).bind (·.dst)=o.dst:=by rw [ho];rfl
 rw [sO,qb,hd];by_cases hc:o.dst=some t/\t<N
 ·rw [if_pos hc,if_pos ⟨rfl,hc⟩];exact .inr rfl
 ·rw [if_neg hc,if_neg (by rintro ⟨_,h⟩;exact hc h)];exact hb t
theorem Nd {zG:Nat->V} {e:zJ} {j:Nat} {o:Oper} (ho:ops[j]?=some o) (hb:Below e (wK N ops zG e0 (λ_=>true) j)):Below (zJ.put N o.dst .xF e) (wK N ops zG e0 (λ_=>true) (j+1)):=by
 intro t;have hd:(ops[j]?).bind (·.dst)=o.dst:=by rw [ho];rfl
 rw [sO,qb,hd];by_cases hc:o.dst=some t/\t<N
 ·rw [if_pos hc];exact .inl rfl
 ·rw [if_neg hc,if_neg (by rintro ⟨_,h⟩;exact hc h)];exact hb t
theorem Sc {e e':zJ} (l:List Nat) (hb:Below e e'):Below (zJ.zA l e) e':=by
 intro t;rcases aw e l t with h | h
 ·rw [h];exact hb t
 ·exact .inl h
theorem z1a {e e':zJ} (ks:List (List Nat)) (hb:Below e e'):Below (ZQ ks e) e':=by
 cases ks with
 | nil=>exact hb
 | cons k ks=>exact Sc k hb
def bL (N:Nat) (ops:Array Oper) (j:Nat):Prop:=∀ i,j=i+1->wx N ops i=none
def z3u (P:Program) (N:Nat) (ops:Array Oper) (mem:(Nat->Bool)->AH) (e0:zJ) (vs:List V) (m:Nat):z1Y->Prop
 | none=>bL N ops vs.length/\m=vs.length
 | some (t,n,ps)=>∃ d s dd,vs.length=m+1/\wx N ops m=some (d,s,dd) /\
  ((ps.all λp=>bC p.2)=true->∀ v1 h1 str,yp P xD t n ps=some (v1,h1)->y9 P h1 s dd v1=some (.str str)->∀ zG,ui zG vs->zG (m+1)=.str str->zab P N ops zG mem e0 m)
theorem WL {t:TypeId} {n:Nat} {ps:List (Nat × V)} {s d:TypeId} {v:V} (hl:oB P t n ps s d=some v) :
 (ps.all λp=>bC p.2)=true/\∃ v1 h1 str,yp P xD t n ps=some (v1,h1)/\y9 P h1 s d v1=some (.str str)/\v=.str str:=by
 unfold oB at hl;split at hl
 ·rename_i hp;split at hl
  ·rename_i v1 h1 hb;split at hl
   ·rename_i str hc;cases hl;exact ⟨hp,v1,h1,str,hb,hc,rfl⟩
   ·cases hl
  ·cases hl
 ·cases hl
theorem i0 (vi:∀ S,mem S=h) {k:zJ->Prop} (g:Option (Nat × Bool)):∀ (l:List Oper) (vs:List V) (p:z1Y) (e:zJ) (m:Nat),
 (∀ i,i<l.length->ops[vs.length+i]?=l[i]?)->(∀ o∈l,o.guard=g)->(∀ i w,g=some (i,w)->∃ d,(ops[i]?).bind (·.dst)=some d/\zJ.get e d=.bool w/\∀ o∈l,o.dst≠some d) ->
 jz P N ops mem e0 vs m e->z3u P N ops mem e0 vs m p->nH P N ops h vs.length l p k e ->
 ∃ uz e',uz.length=vs.length+l.length/\jz P N ops mem e0 uz uz.length e'/\bL N ops uz.length/\k e'
 | [],vs,none,e,m,_,_,_,u,hp,hv=>by
  obtain ⟨h1,rfl⟩:=hp;exact ⟨vs,e,rfl,u,h1,hv⟩
 | [],vs,some p,e,m,_,_,_,_,_,hv=>by simp only [nH] at hv
 | o :: l,vs,some (t,n,ps),e,m,hi,hg,hgd,u,hp,hv=>by
  obtain ⟨d,s,dd,p1,p2,p3⟩:=hp;obtain ⟨o1,o2,t',n',ZG,k1,k2,k3,k4,k5,k6,k7,k8⟩:=uk p2;have ho:ops[vs.length]?=some o:=by have:=hi 0 S_;simpa using this
  rw [p1,k2] at ho;cases ho;have ho:ops[vs.length]?=some o:=by rw [p1];exact k2
  simp only [nH,k6] at hv;obtain ⟨v,hv1,hv2⟩:=aH hv;obtain ⟨q1,v1,h1,str,q2,q3,rfl⟩:=WL hv1;have hu:jz P N ops mem e0 (vs++[.str str]) (m+2) (zJ.put N o.dst (.str str) e):=by
   refine ⟨λzG ha=>?_,λi vK zG ha=>?_⟩
   ·obtain ⟨a1,a2⟩:=yj ha;rw [List.length_append,List.length_singleton,<- a2];exact rN ho (u.below zG a1)
   ·obtain ⟨a1,a2⟩:=yj ha;rcases Nat.lt_or_ge i m with hlt | Rb
    ·exact u.lex i hlt zG a1
    ·rcases Nat.lt_or_ge i (m+1) with h' | h'
     ·obtain rfl:i=m:=O_;exact p3 q1 v1 h1 str q2 q3 zG a1 (by rw [<- p1];exact a2)
     ·obtain rfl:i=m+1:=O_;exact λD hD=>.zcU m rfl (by rw [p2];simp) (λS _ _=>by rw [vi,vi]) hD
  have hnl:wx N ops (m+1)=none:=by
   cases hq:wx N ops (m+1) with
   | none=>rfl
   | some q =>
    obtain ⟨d3,s3,dd3⟩:=q;obtain ⟨o3,o4,t3,n3,ps3,m1,m2,m3,m4,_⟩:=uk hq;rw [k2] at m1;cases m1;rw [k6] at m4;cases m4
  have hlen:(vs++[V.str str]).length=vs.length+1:=S_;obtain ⟨uz,e',r1,r2,r3,r4⟩:=i0 vi g l (vs++[.str str]) none (zJ.put N o.dst (.str str) e) (m+2)
   (λi vK=>by rw [hlen];have:=hi (i+1) (by simp;omega);simpa [Nat.add_assoc,Nat.add_comm 1 i] using this)
   (λo rD=>hg o (by simp [rD])) (λi w hgi=>by
    obtain ⟨d',x1,x2,x3⟩:=hgd i w hgi;refine ⟨d',x1,?_,λo rD=>x3 o (by simp [rD])⟩;rw [qb,if_neg (λhc=>x3 o S_ hc.1)];exact x2) hu
   ⟨λi vK=> by
    rw [hlen,p1] at vK;obtain rfl:i=m+1:=O_;exact hnl,by rw [hlen,p1]⟩ (by rw [hlen];exact hv2)
  exact ⟨uz,e',by rw [r1,hlen];simp;omega,r2,r3,r4⟩
 | o :: l,vs,none,e,m,hi,hg,hgd,u,hp,hv=>by
  obtain ⟨hn,rfl⟩:=hp;have ho:ops[vs.length]?=some o:=by have:=hi 0 S_;simpa using this
  have next:∀ (v:V),(∀ i,i<l.length->ops[(vs++[v]).length+i]?=l[i]?):=by
   intro v i vK;rw [List.length_append,List.length_singleton];have:=hi (i+1) (by simp;omega);simpa [Nat.add_assoc,Nat.add_comm 1 i] using this
  have gd:∀ (v:V),(∀ i w,g=some (i,w)->∃ d,(ops[i]?).bind (·.dst)=some d/\zJ.get (zJ.put N o.dst v e) d=.bool w/\∀ o∈l,o.dst≠some d):=by
   intro v i w hgi;obtain ⟨d',x1,x2,x3⟩:=hgd i w hgi;refine ⟨d',x1,?_,λo rD=>x3 o (by simp [rD])⟩;rw [qb,if_neg (λhc=>x3 o S_ hc.1)];exact x2
  simp only [nH] at hv;cases Nz:wx N ops vs.length with
  | none =>
   rw [Nz] at hv;obtain ⟨v,hy,hv⟩:=up hv;have hu:jz P N ops mem e0 (vs++[v]) (vs.length+1) (zJ.put N o.dst v e):=by
    refine ⟨λzG ha=>?_,λi vK zG ha=>?_⟩
    ·obtain ⟨a1,a2⟩:=yj ha;rw [List.length_append,List.length_singleton,<- a2];exact rN ho (u.below zG a1)
    ·obtain ⟨a1,a2⟩:=yj ha;rcases Nat.lt_or_ge i vs.length with hlt | Rb
     ·exact u.lex i hlt zG a1
     ·obtain rfl:i=vs.length:=O_;refine λD hD=>.ord Nz hn e (u.below zG a1) o ho ?_ (λS _ _=>by rw [vi,vi,a2];exact hy) hD;unfold kO;rw [hg o S_];cases g with
      | none=>rfl
      | some q =>
       obtain ⟨i,w⟩:=q;obtain ⟨d',x1,x2,x3⟩:=hgd i w rfl;simp only [x1,x2,decide_true]
   obtain ⟨uz,e',r1,r2,r3,r4⟩:=i0 vi g l (vs++[v]) none (zJ.put N o.dst v e) (vs.length+1) (next v) (λo rD=>hg o (by simp [rD])) (gd v) hu
    ⟨λi vK=> by
     rw [List.length_append,List.length_singleton] at vK;obtain rfl:i=vs.length:=O_;exact Nz,S_⟩ (by rw [List.length_append,List.length_singleton];exact hv)
   exact ⟨uz,e',by rw [r1];simp;omega,r2,r3,r4⟩
  | some q =>
   obtain ⟨d,s,dd⟩:=q;rw [Nz] at hv;obtain ⟨o1,o2,t,n,ps,k1,k2,k3,k4,k5,k6,k7,k8⟩:=uk Nz;rw [ho] at k1;cases k1;simp only [k4] at hv;have hu:jz P N ops mem e0 (vs++[.xF]) vs.length (zJ.put N o.dst .xF e):=by
    refine ⟨λzG ha=>?_,λi vK zG ha=>u.lex i vK zG (yj ha).1⟩;obtain ⟨a1,a2⟩:=yj ha;rw [List.length_append,List.length_singleton];exact Nd ho (u.below zG a1)
   obtain ⟨uz,e',r1,r2,r3,r4⟩:=i0 vi g l (vs++[.xF]) (some (t,n,ps.toList.map λp=>(p.1,xl e p.2))) (zJ.put N o.dst .xF e) vs.length (next .xF) (λo rD=>hg o (by simp [rD])) (gd .xF) hu
    ⟨d,s,dd,S_,Nz,λhf v1 h1 str hb hc zG ha hv2=>by
     obtain ⟨a1,a2⟩:=yj ha;exact λD hD=>.zcT d s dd Nz e (u.below zG a1) o ho t n ps k4 hf v1 h1 hb str hc a2 hv2 (λS _ _=>by rw [vi,vi]) hD⟩
    (by rw [List.length_append,List.length_singleton];exact hv)
   exact ⟨uz,e',by rw [r1];simp;omega,r2,r3,r4⟩
theorem Ni {j:Nat} {o:Oper} (ho:ops[j]?=some o) (hg:o.guard≠none):wx N ops j=none/\bL N ops j:=by
 constructor
 ·cases hq:wx N ops j with
  | none=>rfl
  | some q =>
   obtain ⟨d,s,dd⟩:=q;obtain ⟨o1,o2,t,n,ps,k1,k2,k3,k4,k5,k6,k7,k8⟩:=uk hq;rw [ho] at k1;cases k1;exact absurd k5 hg
 ·rintro i rfl;cases hq:wx N ops i with
  | none=>rfl
  | some q =>
   obtain ⟨d,s,dd⟩:=q;obtain ⟨o1,o2,t,n,ps,k1,k2,k3,k4,k5,k6,k7,k8⟩:=uk hq;rw [ho] at k2;cases k2;exact absurd k7 hg
theorem UD (vi:∀ S,mem S=h) {i:Nat} {w:Bool} {d:Tmp} (hd:(ops[i]?).bind (·.dst)=some d):∀ (l:List Oper) (vs:List V) (e:zJ),
 (∀ i,i<l.length->ops[vs.length+i]?=l[i]?)->(∀ o∈l,o.guard=some (i,w))->(∀ o∈l,o.dst≠some d)->((∃ b,zJ.get e d=.bool b/\b≠w)\/zJ.get e d=.yX []) ->
 jz P N ops mem e0 vs vs.length e->bL N ops vs.length ->
 ∃ uz,uz.length=vs.length+l.length/\jz P N ops mem e0 uz uz.length (nZ N l e)/\bL N ops uz.length
 | [],vs,e,_,_,_,_,u,hn=>⟨vs,rfl,u,hn⟩
 | o :: l,vs,e,hi,hg,qH,he,u,hn=>by
  have ho:ops[vs.length]?=some o:=by have:=hi 0 S_;simpa using this
  obtain ⟨l1,l2⟩:=Ni (N:=N) ho (by rw [hg o S_];simp);have hu:jz P N ops mem e0 (vs++[yw]) (vs++[yw]).length (zJ.put N o.dst yw e):=by
   refine ⟨λzG ha=>?_,λi' vK zG ha=>?_⟩
   ·obtain ⟨a1,a2⟩:=yj ha;rw [List.length_append,List.length_singleton,<- a2];exact rN ho (u.below zG a1)
   ·obtain ⟨a1,a2⟩:=yj ha;rcases Nat.lt_or_ge i' vs.length with hlt | Rb
    ·exact u.lex i' hlt zG a1
    ·obtain rfl:i'=vs.length:=by simp at vK;omega
     refine λD hD=>.off l1 l2 e (u.below zG a1) o ho ?_ (λS _ _=>by rw [vi,vi]) a2 hD;unfold kO;rw [hg o S_];simp only [hd];rcases he with ⟨b,hb,BJ⟩ | hb
     ·rw [hb];simp [BJ]
     ·rw [hb]
  obtain ⟨uz,r1,r2,r3⟩:=UD vi hd l (vs++[yw]) (zJ.put N o.dst yw e)
   (λi vK=>by rw [List.length_append,List.length_singleton];have:=hi (i+1) (by simp;omega);simpa [Nat.add_assoc,Nat.add_comm 1 i] using this)
   (λo rD=>hg o (by simp [rD])) (λo rD=>qH o (by simp [rD])) (by rw [qb,if_neg (λhc=>qH o S_ hc.1)];exact he) hu
   (λi vK=> by
    rw [List.length_append,List.length_singleton] at vK;obtain rfl:i=vs.length:=O_;exact l1)
  exact ⟨uz,by rw [r1];simp;omega,r2,r3⟩
theorem aZ (vi:∀ S,mem S=h) {Q:yT->zJ->AH->Prop}:∀ (l:List (Option (Nat × Bool) × List Oper)) (ks:List (List Nat)) (vs:List V) (e:zJ),
 (∀ i,i<(rv l).length->ops[vs.length+i]?=(rv l)[i]?)->(∀ s∈l,∀ o∈s.2,o.guard=s.1) ->
 jz P N ops mem e0 vs vs.length e->bL N ops vs.length->tR P N ops h vs.length l ks Q e ->
 ∃ uz e',uz.length=vs.length+(rv l).length/\jz P N ops mem e0 uz uz.length e'/\Q .normal e' h
 | [],ks,vs,e,_,_,u,hn,hv=>⟨vs,e,rfl,u,hv⟩
 | (g,s) :: rest,ks,vs,e,hi,hg,u,hn,hv=>by
  have lH:rv ((g,s) :: rest)=s++rv rest:=by simp [rv]
  have hi1:∀ i,i<s.length->ops[vs.length+i]?=s[i]?:=by
   intro i vK;rw [hi i (by rw [lH];simp;omega),lH,List.getElem?_append_left vK]
  have jI:∀ uz:List V,uz.length=vs.length+s.length->∀ i,i<(rv rest).length->ops[uz.length+i]?=(rv rest)[i]?:=by
   intro uz hl i vK;rw [hl,Nat.add_assoc,hi (s.length+i) (by rw [lH];simp;omega),lH,List.getElem?_append_right O_];congr 1;omega
  have hgs:=hg (g,s) S_;have hgr:∀ s'∈rest,∀ o∈s'.2,o.guard=s'.1:=λs' dO=>hg s' (by simp [dO]);have fin:∀ (ks:List (List Nat)) (uz:List V) (e':zJ),uz.length=vs.length+s.length->jz P N ops mem e0 uz uz.length e'->bL N ops uz.length->tR P N ops h (vs.length+s.length) rest ks Q e' ->
   ∃ vs2 e2,vs2.length=vs.length+(rv ((g,s) :: rest)).length/\jz P N ops mem e0 vs2 vs2.length e2/\Q .normal e2 h:=by
   intro ks uz e' hl u' qA hv';rw [<- hl] at hv';obtain ⟨vs2,e2,r1,r2,r3⟩:=aZ vi rest ks uz e' (jI uz hl) hgr u' qA hv';exact ⟨vs2,e2,by rw [r1,hl,lH];simp;omega,r2,r3⟩
  cases g with
  | none =>
   simp only [tR] at hv;obtain ⟨uz,e',r1,r2,r3,r4⟩:=i0 vi none s vs none e vs.length hi1 hgs (by intro i w h;cases h) u ⟨hn,rfl⟩ hv;exact fin _ uz e' r1 r2 r3 r4
  | some q =>
   obtain ⟨i,w⟩:=q;simp only [tR] at hv;split at hv
   ·rename_i d hd;cases o8:s.all (λo=>o.dst != some d) with
    | false=>rw [o8] at hv;exact hv.elim
    | true =>
     rw [o8] at hv
     try simp only [wn] at hv
     have qH:∀ o∈s,o.dst≠some d:=by
      intro o ho;have:=List.all_eq_true.1 o8 o ho;simpa using this
     have cut:∀ {uz:List V} {e':zJ},jz P N ops mem e0 uz uz.length e'->jz P N ops mem e0 uz uz.length (ZQ ks e'):=λu'=>⟨λzG ha=>z1a ks (u'.below zG ha),u'.lex⟩
     have no:((∃ b,zJ.get e d=.bool b/\b≠w)\/zJ.get e d=.yX [])->tR P N ops h (vs.length+s.length) rest ks.tail Q (ZQ ks (nZ N s e)) ->
      ∃ vs2 e2,vs2.length=vs.length+(rv ((some (i,w),s) :: rest)).length/\jz P N ops mem e0 vs2 vs2.length e2/\Q .normal e2 h:=by
      intro he hv';obtain ⟨uz,r1,r2,r3⟩:=UD vi hd s vs e hi1 hgs qH he u hn;exact fin _ uz _ r1 (cut r2) r3 hv'
     unfold vp at hv;split at hv
     ·rename_i b hb;split at hv
      ·rename_i BJ;subst BJ;obtain ⟨uz,e',r1,r2,r3,r4⟩:=i0 vi (some (i,b)) s vs none e vs.length hi1 hgs (by intro i' w' h;cases h;exact ⟨d,hd,hb,qH⟩) u ⟨hn,rfl⟩ hv;exact fin _ uz _ r1 (cut r2) r3 (oS r4)
      ·rename_i BJ;exact no (.inl ⟨b,hb,BJ⟩) (oS hv)
     ·rename_i hb;exact no (.inr hb) (oS hv)
     ·exact hv.elim
   ·exact hv.elim
end
def rM (P:Program) (ops:Array Oper):Bool:=P.follows .mixedOrders&&uH ops&&eG ops
theorem Ot (K:Ok P) {N:Nat} {ops:Array Oper} {id:Nat} {Q:yT->zJ->AH->Prop} {ks:List (List Nat)} {e:zJ} {a:Act} (hd:rM P ops=true) (F:ye P B ι h W) (r:wH P ι N D e a)
 (hv:tR P N ops h 0 (mG ops.toList) ks Q e):(Code.region id ops true).wp P (uK P B ι N D Q) a W:=by
 unfold rM at hd;simp only [Bool.and_eq_true] at hd;obtain ⟨⟨h1,h2⟩,h3⟩:=hd;have lH:=kw ops.toList;obtain ⟨vs,e',r1,r2,r3⟩:=aZ (P:=P) (N:=N) (ops:=ops) (e0:=e) (mem:=λ_=>h) (h:=h) (λ_=>rfl) (mG ops.toList) ks [] e (by intro i hi;rw [lH];simp) (nS _)
  ⟨λzG _ t=>.inr rfl,λi hi=>by simp at hi⟩ (λi hi=>by simp at hi) hv
 rw [lH] at r1;simp only [List.length_nil,Nat.zero_add,Array.length_toList] at r1;have ha:ui (λi=>vs.getD i .xF) vs:=λk _=>rfl;refine cO (N:=N) (zG:=λi=>vs.getD i .xF) (mem:=λ_=>h) (e0:=e) (D:=λ_=>D) K h1 h2 h3 (λj hj=>r2.lex j (by rw [r1];exact hj) _ ha _ λ_ _ _=>rfl) (λ_ _=>rfl) rfl (λ_ _=>rfl) F r (e:=e') ?_ r3;have:=r2.below _ ha;rw [r1] at this;exact this
def sA (ops:Array Oper):List Oper:=ops.toList.dropLast
def oX (ops:Array Oper):Option Call :=
 match ops.back? with
 | some { dst:=none,op:=.defer c,guard:=none,.. }=>some c
 | _=>none
def aI (P:Program) (N:Nat) (ops:Array Oper) (c:Call) (h:AH) (ks:List (List Nat)) (Q:AD->zJ->AH->Prop) (e:zJ):Prop :=
 tR P N ops h 0 (mG (sA ops)) ks (λx e h=>match x with
  | .normal=>(match mZ e c with | some ad=>Q ad e h | none=>False)
  | _=>False) e
theorem Up (K:Ok P) {N:Nat} {ops:Array Oper} {id:Nat} {c:Call} {Q:AD->zJ->AH->Prop} {ks:List (List Nat)} {e:zJ} {a:Act} (hd:rM P ops=true) (X8:oX ops=some c) (F:ye P B ι h W) (r:wH P ι N D e a)
 (hv:aI P N ops c h ks Q e):∃ ad,(Code.region id ops true).wp P (uK P B ι N (ad :: D) λx e h=>x=.normal/\Q ad e h) a W:=by
 unfold rM at hd;simp only [Bool.and_eq_true] at hd;obtain ⟨⟨h1,h2⟩,h3⟩:=hd;obtain ⟨o,ho,qU,hg,qH⟩:∃ o,ops.back?=some o/\o.op=.defer c/\o.guard=none/\o.dst=none:=by
  unfold oX at X8;split at X8
  ·rename_i c' _ _ _ _ hb;cases X8;exact ⟨_,hb,rfl,rfl,rfl⟩
  ·cases X8
 have hn:0<ops.size:=by
  rcases Nat.eq_zero_or_pos ops.size with h | h
  ·have:ops=#[]:=Array.eq_empty_of_size_eq_zero h;subst this;simp at ho
  ·exact h
 have hl:ops[ops.size-1]?=some o:=by rw [<- ho,Array.back?]
 have hlen:(sA ops).length=ops.size-1:=by simp [sA]
 have lH:=kw (sA ops);unfold aI at hv;obtain ⟨vs,e',r1,r2,r3⟩:=aZ (P:=P) (N:=N) (ops:=ops) (e0:=e) (mem:=λ_=>h) (h:=h) (λ_=>rfl) (mG (sA ops)) ks [] e
  (by intro i hi;rw [lH] at hi ⊢;simp only [List.length_nil,Nat.zero_add,sA];rw [List.getElem?_dropLast,if_pos (by rw [hlen] at hi;simpa using hi)];simp) (nS _)
  ⟨λzG _ t=>.inr rfl,λi hi=>by simp at hi⟩ (λi hi=>by simp at hi) hv
 rw [lH,hlen] at r1;simp only [List.length_nil,Nat.zero_add] at r1;simp only at r3;split at r3
 ·rename_i ad had;refine ⟨ad,?_⟩;have hu:∀ zG,ui zG (vs++[yw])->ui zG vs/\zG vs.length=yw:=λzG ha=>yj ha;have ha:ui (λi=>(vs++[yw]).getD i .xF) (vs++[yw]):=λk _=>rfl;obtain ⟨a1,a2⟩:=hu _ ha;rw [r1] at a2;have hnl:∀ i,wx N ops i≠none->i+2<=ops.size-1\/i+1<ops.size-1:=by
   intro i hi;cases hq:wx N ops i with
   | none=>exact absurd hq hi
   | some q =>
    obtain ⟨d,s,dd⟩:=q;obtain ⟨o1,o2,t,n,ps,k1,k2,k3,k4,k5,k6,k7,k8⟩:=uk hq;have:i+1<ops.size:=(Array.getElem?_eq_some_iff.1 k2).1;by_cases he:i+1=ops.size-1
    ·rw [he,hl] at k2;cases k2;rw [qU] at k6;cases k6
    ·right;omega
  have z4B:wx N ops (ops.size-1)=none:=by
   unfold wx;rw [show ops[ops.size-1+1]?=none from Array.getElem?_eq_none O_];split <;> first | rfl | (rename_i h2;cases h2)
  have z4C:∀ i,ops.size-1=i+1->wx N ops i=none:=by
   intro i hi;cases hq:wx N ops i with
   | none=>rfl
   | some q=>have:=hnl i (by rw [hq];simp);omega
  refine cO (N:=N) (zG:=λi=>(vs++[yw]).getD i .xF) (mem:=λ_=>h) (e0:=e) (D:=λS=>if S (ops.size-1)=true then ad :: D else D) K h1 h2 h3 (λj hj=>?_) (λ_ _=>rfl)
   S_ (λS hS=>by rw [if_pos (hS _ O_)]) F r (e:=zJ.put N o.dst yw e') ?_ ⟨rfl,?_⟩
  ·by_cases hj1:j=ops.size-1
   ·subst hj1;have hb:=r2.below _ a1;rw [r1] at hb;refine .dfr z4B z4C e' hb o hl (by unfold kO;rw [hg]) c qU ad had (λ_ _ _=>rfl) a2 λS _ hr=>?_;rw [if_pos (uG S _),if_neg (by rw [hr.1];decide)]
   ·refine r2.lex j (by rw [r1];omega) _ a1 _ λS _ _=>?_;rw [xO S (λe=>hj1 e.symm)]
  ·have hb:=r2.below _ a1;rw [r1] at hb;have:=rN (N:=N) (ops:=ops) (e0:=e) (zG:=λi=>(vs++[yw]).getD i .xF) (j:=ops.size-1) hl hb;rw [a2,show ops.size-1+1=ops.size by omega] at this;exact this
  ·rw [qH];exact r3
 ·exact r3.elim
end
section
open Go Go.RowKit
variable {P:Program} {ι:zw} {W:World} {B:wy} {h:AH} {D:List AD}
def aE (acc:List (List Nat)) (o:Oper):List Nat:=((o.after.toList.filter (Region.binds .any)).flatMap λe=>e.on :: acc.getD e.on []).eraseDups
def Pj:List Oper->List (List Nat)->List (List Nat)
 | [],acc=>acc
 | o :: rest,acc=>Pj rest (acc++[aE acc o])
def vH (ops:Array Oper):List (List Nat):=Pj ops.toList []
def uW (b:List (List Nat)) (i j:Nat):Bool:=(b.getD j []).contains i
section
variable {N:Nat} {ops:Array Oper} {S:Nat->Bool}
def KA (ops:Array Oper) (acc:List (List Nat)):Prop:=∀ j i,i∈acc.getD j []->∀ S,xb ops S->(∀ o,ops[j]?=some o->∀ e∈o.after,Region.binds .any e=true->S e.on=true)->S i=true
theorem Ub:∀ (l:List Oper) (acc:List (List Nat)),(∀ i,l[i]?=ops[acc.length+i]?)->KA ops acc->KA ops (Pj l acc)
 | [],acc,_,h=>h
 | o :: rest,acc,hl,h=>by
  simp only [Pj];have ho:ops[acc.length]?=some o:=by have:=(hl 0).symm;simpa using this
  refine Ub rest (acc++[aE acc o]) (λi=>by have:=hl (i+1);simpa [Nat.add_assoc,Nat.add_comm 1 i] using this) ?_;intro j i hi S hc hr;rcases Nat.lt_or_ge j acc.length with hj | hj
  ·have:(acc++[aE acc o]).getD j []=acc.getD j []:=by simp [List.getElem?_append_left hj]
   rw [this] at hi;exact h j i hi S hc hr
  ·by_cases qV:j=acc.length
   ·subst qV;have:(acc++[aE acc o]).getD acc.length []=aE acc o:=S_;rw [this] at hi;unfold aE at hi;rw [List.mem_eraseDups,List.mem_flatMap] at hi;obtain ⟨e,he,hi⟩:=hi;rw [List.mem_filter] at he;have hS:=hr o ho e (Array.mem_toList_iff.1 he.1) he.2;rcases List.mem_cons.1 hi with rfl | hi
    ·exact hS
    ·exact h e.on i hi S hc λo' rD e' J6 dN=>hc e.on o' rD hS e' J6 dN
   ·have:(acc++[aE acc o]).getD j []=[]:=by
     rw [List.getD_eq_getElem?_getD,List.getElem?_eq_none (by simp;omega)];rfl
    rw [this] at hi;cases hi
theorem lT:KA ops (vH ops):=Ub _ _ (λi=>by simp) (λj i hi=>by simp at hi)
theorem cZ {i j:Nat} (hb:uW (vH ops) i j=true) (hc:xb ops S) (hr:wR ops S j):S i=true :=
 lT j i (by simpa [uW] using hb) S hc hr.2
theorem RH {i j:Nat} (hb:uW (vH ops) j i=true) (hc:xb ops S) (hr:S j=false):S i=false:=by
 cases hS:S i with
 | false=>rfl
 | true =>
  have:=lT i j (by simpa [uW] using hb) S hc λo ho e he dN=>hc i o ho hS e he dN;rw [hr] at this;cases this
def Wk (b:List (List Nat)):List Nat->Bool
 | []=>true
 | e :: rest=>(rest.all λf=>decide (e<f)&&uW b e f)&&Wk b rest
theorem ma {b:List (List Nat)}:∀ {es:List Nat},Wk b es=true->es.Pairwise λe f=>e<f/\uW b e f=true
 | [],_=>.nil
 | e :: rest,h=>by
  simp only [Wk,Bool.and_eq_true] at h;refine .cons (λf hf=>?_) (ma h.2);have:=List.all_eq_true.1 h.1 f hf;simpa using this
def sC (es:List Nat) (S:Nat->Bool):Nat:=es.countP S
def wh (es:List Nat) (j:Nat):Nat:=es.countP λe=>decide (e<j)
theorem aP {es:List Nat} {b:List (List Nat)} (h:es.Pairwise λe f=>e<f/\uW b e f=true) {e f:Nat} (he:e∈es) (hf:f∈es) (hlt:e<f):uW b e f=true:=by
 induction h with
 | nil=>cases he
 | cons h1 _ ih =>
  rcases List.mem_cons.1 he with rfl | J6
  ·rcases List.mem_cons.1 hf with rfl | hf'
   ·omega
   ·exact (h1 f hf').2
  ·rcases List.mem_cons.1 hf with rfl | hf'
   ·have:=(h1 e J6).1;omega
   ·exact ih J6 hf'
theorem qa {es:List Nat} (hp:es.Pairwise λe f=>e<f/\uW (vH ops) e f=true) {j:Nat} (hj:j∈es) (hc:xb ops S) (hr:wR ops S j):sC es S=wh es j:=by
 unfold sC wh;apply List.countP_congr;intro e he;rcases Nat.lt_trichotomy e j with h | h | h
 ·simp [cZ (aP hp he hj h) hc hr,h]
 ·subst h;simp [hr.1]
 ·simp [RH (aP hp hj he h) hc hr.1];omega
theorem vX {es:List Nat} (hp:es.Pairwise λe f=>e<f/\uW (vH ops) e f=true) {j:Nat} (hj:j∈es) (hS:S j=false):sC es (ww S j)=sC es S+1:=by
 unfold sC;induction hp with
 | nil=>cases hj
 | @cons e l h1 h2 ih =>
  rw [List.countP_cons,List.countP_cons];rcases List.mem_cons.1 hj with rfl | hj'
  ·rw [uG,hS];have:l.countP (ww S j)=l.countP S:=List.countP_congr λf hf=>by rw [xO S (by have:=(h1 f hf).1;omega)]
   simp [this]
  ·have wO:e≠j:=by have:=(h1 j hj').1;omega
   rw [xO S wO,ih hj'];split <;> omega
theorem oc {es:List Nat} {j:Nat} (hj:j ∉ es):sC es (ww S j)=sC es S:=by
 unfold sC;exact List.countP_congr λf hf=>by rw [xO S (by rintro rfl;exact hj hf)]
def jv (b:List (List Nat)) (es:List Nat) (j:Nat):Nat:=es.countP λe=>uW b e j
def ZS (b:List (List Nat)) (es:List Nat) (j:Nat):Nat:=es.countP λe=>!uW b j e
theorem XZ {es:List Nat} {j:Nat} (hc:xb ops S) (hr:wR ops S j):jv (vH ops) es j<=sC es S :=
 List.countP_mono_left λe _ h=>cZ h hc hr
theorem Xg {es:List Nat} {j:Nat} (hc:xb ops S) (hr:wR ops S j):sC es S<=ZS (vH ops) es j :=
 List.countP_mono_left λe _ h=>by
  cases hb:uW (vH ops) j e with
  | false=>rfl
  | true=>rw [RH hb hc hr.1] at h;cases h
theorem Sr {es:List Nat}:sC es S<=es.length:=List.countP_le_length
end
def rX:Op->Bool
 | .move _ | .assign _ | .pick .. | .build .. | .nilCheck _ | .binOp .. | .unOp .. | .makeInterface .. | .makeFunc .. | .fieldAddr .. | .field .. | .indexAddr .. | .index .. | .extract ..=>true
 | _=>false
theorem nU {o:Op} {e:zJ} {h h':AH} {v:V} (hm:rX o=true) (y:xw P o e h h v):xw P o e h' h' v:=by
 unfold rX at hm;split at hm <;> first | (cases hm;done) | skip
 all_goals (simp only [xw,ZL] at y ⊢)
 all_goals (first
  | (cases y;rfl)
  | (obtain ⟨k1,_⟩:=zK y;rw [k1];rfl)
  | skip)
 ·unfold yc at *;split at y <;> cases y;rfl
 ·unfold y7 at *;split at y <;> cases y <;> rfl
def vcE (P:Program) (o:Op) (e:zJ) (h:AH) (K:V->AH->Prop):Prop :=
 match o with
 | .call { callee:=.value f,args:=args,.. }=>∃ v h',qc P (xl e f) (args.toList.map (xl e)) h (zO v h')/\K v h'
 | .call { callee:=.invoke r name,args:=args,.. }=>∃ v h',tD P (xl e r) name (args.toList.map (xl e)) h (zO v h')/\K v h'
 | .panic _=>False
 | op=>z0 (ZL P (xl e) h op) K
theorem oE {o:Op} {e:zJ} {h:AH} {K:V->AH->Prop} (hv:vcE P o e h K):∃ v h',xw P o e h h' v/\K v h':=by
 unfold vcE at hv;unfold xw;split at hv
 ·exact hv
 ·exact hv
 ·exact hv.elim
 ·rename_i h1 h2 h3;unfold z0 at hv;split at hv
  ·rename_i v h' hl;refine ⟨v,h',?_,hv⟩;cases o <;> (try simp only) <;> first | exact hl | skip
   all_goals (first
    | exact absurd rfl (h3 _)
    | (rename_i c;obtain ⟨callee,args,ts⟩:=c;cases callee <;> first | exact absurd rfl (h1 _ _ _) | exact absurd rfl (h2 _ _ _ _) | exact hl))
  ·exact hv.elim
def dM:List Prop->Prop->Prop
 | [],p=>p
 | q :: l,p=>q/\dM l p
theorem sg:∀ {l:List Prop} {p:Prop},dM l p->(∀ q∈l,q)/\p
 | [],_,h=>⟨(λ_ h=>by cases h),h⟩
 | q :: l,p,h=>by
  obtain ⟨h1,h2⟩:=sg h.2;exact ⟨λq' hq=>by rcases List.mem_cons.1 hq with rfl | hq;exact h.1;exact h1 q' hq,h2⟩
def fg (lo:Nat) (gs:List AH) (f:AH->Prop):List Prop:=(gs.dropLast.drop lo).map f
def qB (n:Nat) (h:AH) (zT:List (Nat × (AH->Prop))):List Prop:=(zT.filter λp=>decide (n<=p.1)).map λp=>p.2 h
def vc2 (P:Program) (N:Nat) (b:List (List Nat)) (es:List Nat):Nat->List Oper->List AH->AH->List (Nat × (AH->Prop))->(zJ->AH->Prop)->zJ->Prop
 | _,[],_,h,_,k,e=>k e h
 | j,o :: rest,gs,h,zT,k,e =>
  rp (es.contains j) (vcE P o.op e h λv h'=>dM (qB gs.length h' zT) (vc2 P N b es (j+1) rest (gs++[h']) h' zT k (e.put N o.dst v)))
  (rp (rX o.op) (H8 P o.op e h λv=>vc2 P N b es (j+1) rest gs h zT k (e.put N o.dst v))
  (H8 P o.op e h λv=>dM (fg (jv b es j) gs λg=>xw P o.op e g g v)
   (vc2 P N b es (j+1) rest gs h ((ZS b es j,λg=>xw P o.op e g g v) :: zT) k (e.put N o.dst v))))
section
variable {N:Nat} {ops:Array Oper} {e0:zJ} {es:List Nat}
def Op2 (P:Program) (N:Nat) (ops:Array Oper) (es:List Nat) (e0:zJ) (vs:List V) (gs:List AH) (zT:List (Nat × (AH->Prop))) (i:Nat):Prop :=
 ∃ o e,ops[i]?=some o/\(∀ zG,ui zG vs->Below e (wK N ops zG e0 (λ_=>true) i)) /\
  if i∈es then wh es i+1<gs.length/\xw P o.op e (gs.getD (wh es i) xD) (gs.getD (wh es i+1) xD) (vs.getD i .xF)
  else (rX o.op=true/\∃ g,xw P o.op e g g (vs.getD i .xF)) \/
   ((∀ k,jv (vH ops) es i<=k->k<=ZS (vH ops) es i->k<gs.length->xw P o.op e (gs.getD k xD) (gs.getD k xD) (vs.getD i .xF)) /\
    (ZS (vH ops) es i,λg=>xw P o.op e g g (vs.getD i .xF))∈zT)
structure Vt (P:Program) (N:Nat) (ops:Array Oper) (es:List Nat) (e0:zJ) (vs:List V) (gs:List AH) (h:AH) (zT:List (Nat × (AH->Prop))) (e:zJ):Prop where
 below:∀ zG,ui zG vs->Below e (wK N ops zG e0 (λ_=>true) vs.length)
 lex:∀ i,i<vs.length->Op2 P N ops es e0 vs gs zT i
 len:gs.length=wh es vs.length+1
 cur:gs.getD (wh es vs.length) xD=h
theorem yH {α:Type} (l:List α) (x d:α) {k:Nat} (hk:k<l.length):(l++[x]).getD k d=l.getD k d:=by
 simp [List.getElem?_append_left hk]
theorem xp {α:Type} (l:List α) (x d:α):(l++[x]).getD l.length d=x:=S_
theorem pn (hp:es.Pairwise λe f=>e<f/\uW (vH ops) e f=true) (j:Nat):wh es (j+1)=wh es j+if j∈es then 1 else 0:=by
 unfold wh;induction hp with
 | nil=>simp
 | @cons e l h1 h2 ih =>
  rw [List.countP_cons,List.countP_cons,ih];by_cases hje:j=e
  ·subst hje;have hn:j ∉ l:=λh=>by have:=(h1 j h).1;omega
   have h0:l.countP (λe=>decide (e<j))=0:=by
    rw [List.countP_eq_zero];intro f hf;have:=(h1 f hf).1;simp;omega
   simp [hn,h0]
  ·by_cases hl:j∈l
   ·have:=(h1 j hl).1;simp [hl,show e<j+1 by omega,show e<j by omega]
   ·by_cases he:e<j
    ·simp [hl,hje,he,show e<j+1 by omega]
    ·simp [hl,hje,he,show ¬ e<j+1 by omega]
theorem cu (hp:es.Pairwise λe f=>e<f/\uW (vH ops) e f=true) {k:zJ->AH->Prop}:∀ (l:List Oper) (vs:List V) (gs:List AH) (h:AH) (zT:List (Nat × (AH->Prop))) (e:zJ),
 (∀ i,i<l.length->ops[vs.length+i]?=l[i]?)->Vt P N ops es e0 vs gs h zT e->vc2 P N (vH ops) es vs.length l gs h zT k e ->
 ∃ uz gA h' vj e',uz.length=vs.length+l.length/\gA.getD 0 xD=gs.getD 0 xD/\Vt P N ops es e0 uz gA h' vj e'/\k e' h'
 | [],vs,gs,h,zT,e,_,u,hv=>⟨vs,gs,h,zT,e,rfl,rfl,u,hv⟩
 | o :: l,vs,gs,h,zT,e,hi,u,hv=>by
  have ho:ops[vs.length]?=some o:=by have:=hi 0 S_;simpa using this
  have next:∀ (v:V),(∀ i,i<l.length->ops[(vs++[v]).length+i]?=l[i]?):=by
   intro v i vK;rw [List.length_append,List.length_singleton];have:=hi (i+1) (by simp;omega);simpa [Nat.add_assoc,Nat.add_comm 1 i] using this
  have qW:∀ v:V,(vs++[v]).length=vs.length+1:=λv=>by simp
  have bel:∀ v:V,∀ zG,ui zG (vs++[v])->Below (zJ.put N o.dst v e) (wK N ops zG e0 (λ_=>true) (vs++[v]).length):=by
   intro v zG ha;obtain ⟨a1,a2⟩:=yj ha;rw [List.length_append,List.length_singleton,<- a2];exact rN ho (u.below zG a1)
  have BL:0<gs.length:=by have:=u.len;omega
  -- Ja was shown of the earlier ones stays
  have kJ:∀ (v:V) (vj:List (Nat × (AH->Prop))),(∀ p∈zT,p∈vj)->∀ i,i<vs.length->Op2 P N ops es e0 (vs++[v]) gs vj i:=by
   intro v vj UW i vK;obtain ⟨oi,ei,q1,q2,q3⟩:=u.lex i vK;refine ⟨oi,ei,q1,λzG ha=>q2 zG (yj ha).1,?_⟩;rw [yH vs v V.xF vK];split
   ·rename_i hm;rw [if_pos hm] at q3;exact q3
   ·rename_i hm;rw [if_neg hm] at q3;rcases q3 with q3 | ⟨q3,q4⟩
    ·exact .inl q3
    ·exact .inr ⟨q3,UW _ q4⟩
  have more:∀ (v:V) (h':AH),(∀ q∈qB gs.length h' zT,q)->∀ i,i<vs.length->Op2 P N ops es e0 (vs++[v]) (gs++[h']) zT i:=by
   intro v h' hq i vK;obtain ⟨oi,ei,q1,q2,q3⟩:=u.lex i vK;refine ⟨oi,ei,q1,λzG ha=>q2 zG (yj ha).1,?_⟩;rw [yH vs v V.xF vK];split
   ·rename_i hm;rw [if_pos hm] at q3;refine ⟨by simp;omega,?_⟩;rw [yH gs h' xD O_,yH gs h' xD q3.1];exact q3.2
   ·rename_i hm;rw [if_neg hm] at q3;rcases q3 with q3 | ⟨q3,q4⟩
    ·exact .inl q3
    ·refine .inr ⟨λk k1 k2 k3=>?_,q4⟩;rcases Nat.lt_or_ge k gs.length with hk | hk
     ·rw [yH gs h' xD hk];exact q3 k k1 k2 hk
     ·have:k=gs.length:=by simp at k3;omega
      subst this;rw [xp gs h' xD];refine hq (xw P oi.op ei h' h' (vs.getD i .xF)) ?_;exact List.mem_map.2 ⟨_,List.mem_filter.2 ⟨q4,by simpa using k2⟩,rfl⟩
  simp only [vc2] at hv;cases dP:es.contains vs.length with
  | true =>
   rw [dP] at hv
   try simp only [wn] at hv
   have vi:vs.length∈es:=by simpa using dP
   obtain ⟨v,h',hy,hv⟩:=oE hv;obtain ⟨hl,hv⟩:=sg hv;have cJ:wh es (vs.length+1)=wh es vs.length+1:=by rw [pn hp,if_pos vi]
   have hu:Vt P N ops es e0 (vs++[v]) (gs++[h']) h' zT (zJ.put N o.dst v e):=by
    refine ⟨bel v,λi vK=>?_,?_,?_⟩
    ·rcases Nat.lt_or_ge i vs.length with hlt | Rb
     ·exact more v h' hl i hlt
     ·obtain rfl:i=vs.length:=by rw [qW] at vK;omega
      refine ⟨o,e,ho,λzG ha=>u.below zG (yj ha).1,?_⟩;rw [if_pos vi,xp vs v V.xF];have:=u.len;refine ⟨by simp;omega,?_⟩;rw [yH gs h' xD O_,u.cur,show wh es vs.length+1=gs.length from u.len.symm,xp gs h' xD];exact hy
    ·rw [qW,cJ];simp [u.len]
    ·rw [qW,cJ,<- u.len,xp]
   obtain ⟨uz,gA,h2,vj,e',r1,r2,r3,r4⟩:=cu hp l (vs++[v]) (gs++[h']) h' zT _ (next v) hu (by rw [qW];exact hv);exact ⟨uz,gA,h2,vj,e',by rw [r1,qW];simp;omega,by rw [r2,yH gs h' xD BL],r3,r4⟩
  | false =>
   rw [dP] at hv
   try simp only [uj] at hv
   have vi:vs.length ∉ es:=by simpa using dP
   have cJ:wh es (vs.length+1)=wh es vs.length:=by rw [pn hp,if_neg vi];rfl
   cases Jb:rX o.op with
   | true =>
    rw [Jb] at hv
    try simp only [wn] at hv
    obtain ⟨v,hy,hv⟩:=up hv;have hu:Vt P N ops es e0 (vs++[v]) gs h zT (zJ.put N o.dst v e):=by
     refine ⟨bel v,λi vK=>?_,by rw [qW,cJ];exact u.len,by rw [qW,cJ];exact u.cur⟩;rcases Nat.lt_or_ge i vs.length with hlt | Rb
     ·exact kJ v zT (λ_ h=>h) i hlt
     ·obtain rfl:i=vs.length:=by rw [qW] at vK;omega
      refine ⟨o,e,ho,λzG ha=>u.below zG (yj ha).1,?_⟩;rw [if_neg vi,xp vs v V.xF];exact .inl ⟨Jb,h,hy⟩
    obtain ⟨uz,gA,h2,vj,e',r1,r2,r3,r4⟩:=cu hp l (vs++[v]) gs h zT _ (next v) hu (by rw [qW];exact hv);exact ⟨uz,gA,h2,vj,e',by rw [r1,qW];simp;omega,r2,r3,r4⟩
   | false =>
    rw [Jb] at hv
    try simp only [uj] at hv
    obtain ⟨v,hy,hv⟩:=up hv;obtain ⟨pN,hv⟩:=sg hv;have hu:Vt P N ops es e0 (vs++[v]) gs h ((ZS (vH ops) es vs.length,λg=>xw P o.op e g g v) :: zT) (zJ.put N o.dst v e):=by
     refine ⟨bel v,λi vK=>?_,by rw [qW,cJ];exact u.len,by rw [qW,cJ];exact u.cur⟩;rcases Nat.lt_or_ge i vs.length with hlt | Rb
     ·exact kJ v _ (λ_ h=>List.mem_cons_of_mem _ h) i hlt
     ·obtain rfl:i=vs.length:=by rw [qW] at vK;omega
      refine ⟨o,e,ho,λzG ha=>u.below zG (yj ha).1,?_⟩;rw [if_neg vi,xp vs v V.xF];refine .inr ⟨λk k1 k2 k3=>?_,List.mem_cons_self⟩;have hlen:=u.len;by_cases hk:k=wh es vs.length
      ·subst hk;rw [u.cur];exact hy
      ·have JH:k<gs.length-1:=O_;refine pN (xw P o.op e (gs.getD k xD) (gs.getD k xD) v) ?_;unfold fg;refine List.mem_map.2 ⟨gs.getD k xD,?_,rfl⟩;rw [List.mem_iff_getElem?];refine ⟨k-jv (vH ops) es vs.length,?_⟩;rw [List.getElem?_drop,show jv (vH ops) es vs.length+(k-jv (vH ops) es vs.length)=k by omega,List.getElem?_dropLast,if_pos JH];rw [List.getD_eq_getElem?_getD,List.getElem?_eq_getElem O_];rfl
    obtain ⟨uz,gA,h2,vj,e',r1,r2,r3,r4⟩:=cu hp l (vs++[v]) gs h _ _ (next v) hu (by rw [qW];exact hv);exact ⟨uz,gA,h2,vj,e',by rw [r1,qW];simp;omega,r2,r3,r4⟩
end
def qT (P:Program) (N:Nat) (ops:Array Oper) (es:List Nat):Bool :=
 rM P ops&&Wk (vH ops) es&&(es.all λj=>decide (j<ops.size))&&(ops.all λo=>o.guard.isNone)&&((List.range ops.size).all λj=>(wx N ops j).isNone)
theorem SF (K:Ok P) {N:Nat} {ops:Array Oper} {es:List Nat} {id:Nat} {Q:yT->zJ->AH->Prop} {e:zJ} {a:Act} (hd:qT P N ops es=true) (F:ye P B ι h W) (r:wH P ι N D e a)
 (hv:vc2 P N (vH ops) es 0 ops.toList [h] h [] (Q .normal) e):(Code.region id ops true).wp P (uK P B ι N D Q) a W:=by
 unfold qT rM at hd;simp only [Bool.and_eq_true] at hd;obtain ⟨⟨⟨⟨⟨⟨h1,h2⟩,h3⟩,h4⟩,h5⟩,h6⟩,h7⟩:=hd;have hp:=ma h4;have hr0:wh es 0=0:=by unfold wh;rw [List.countP_eq_zero];intro e _;simp
 obtain ⟨vs,gs,h',zT,e',r1,r2,r3,r4⟩:=cu (P:=P) (N:=N) (ops:=ops) (es:=es) (e0:=e) hp ops.toList [] [h] h [] e (by intro i hi;simp)
  ⟨λzG _ t=>.inr rfl,λi hi=>by simp at hi,by simp [hr0],by simp [hr0]⟩ hv
 simp only [List.length_nil,Nat.zero_add,Array.length_toList] at r1;have ha:ui (λi=>vs.getD i .xF) vs:=λk _=>rfl;have qC:∀ j,wx N ops j=none:=by
  intro j;rcases Nat.lt_or_ge j ops.size with hj | hj
  ·have:=List.all_eq_true.1 h7 j (List.mem_range.2 hj);simpa using this
  ·unfold wx;rw [Array.getElem?_eq_none hj]
 have hrn:wh es ops.size=es.length:=by
  unfold wh;rw [List.countP_eq_length];intro j hj;exact List.all_eq_true.1 h5 j hj
 have hlen:gs.length=es.length+1:=by rw [r3.len,r1,hrn]
 refine cO (N:=N) (zG:=λi=>vs.getD i .xF) (mem:=λS=>gs.getD (sC es S) xD) (e0:=e) (D:=λ_=>D) K h1 h2 h3 (λj hj=>?_) (gc:=h') (λS hS=>?_) rfl (λ_ _=>rfl) ?_ r (e:=e') ?_ r4
 ·obtain ⟨o,ej,q1,q2,q3⟩:=r3.lex j (by rw [r1];exact hj);have hgd:o.guard=none:=by
   rw [Array.all_eq_true'] at h6;have:=h6 o (Array.mem_of_getElem? q1);simpa using this
  refine .ord (qC j) (λi _=>qC i) ej (q2 _ ha) o q1 (by unfold kO;rw [hgd]) (λS hc hr=>?_) λ_ _ _=>rfl;by_cases hm:j∈es
  ·rw [if_pos hm] at q3;rw [vX hp hm hr.1,qa hp hm hc hr];exact q3.2
  ·rw [if_neg hm] at q3;rw [oc hm];rcases q3 with ⟨q3,g,q4⟩ | ⟨q3,_⟩
   ·exact nU q3 q4
   ·exact q3 _ (XZ hc hr) (Xg hc hr) (by rw [hlen];have:=Sr (es:=es) (S:=S);omega)
 ·have:sC es S=es.length:=by
   unfold sC;rw [List.countP_eq_length];intro j hj;exact hS j (by have:=List.all_eq_true.1 h5 j hj;simpa using this)
  rw [this,<- hrn,<- r1];exact r3.cur
 ·have:sC es (λ_=>false)=0:=by unfold sC;rw [List.countP_eq_zero];intro _ _;simp
  rw [this,r2];exact F
 ·have:=r3.below _ ha;rw [r1] at this;exact this
end
end Go.Ab
end
