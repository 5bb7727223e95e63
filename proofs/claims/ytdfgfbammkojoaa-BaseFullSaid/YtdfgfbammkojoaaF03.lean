import Derived.Test.YtdfgfbammkojoaaF02
import Derived.LoopN
import Derived.Tactics
import Derived.Orders
set_option linter.unusedVariables false
set_option linter.unusedSimpArgs false
namespace Go.Ab
open Go Go.RowKit
abbrev AD:=FuncId × List V
variable {P:Program} {ι:Names} {W:World} {B:Base} {h:AH} {D:List AD}
inductive AExit where
 | normal
 | exit (id:Nat)
 | goto (l:Nat)
 | ret
 | panic (v:V)
inductive AEnd where
 | ret (v:V)
 | panic (v:V)
def relX (P:Program) (ι:Names):AExit→Exit→Prop
 | .normal,.normal=>True
 | .exit i,.exit j=>i=j
 | .goto i,.goto j=>i=j
 | .ret,.ret=>True
 | .panic v,.panic c=>∃ x,rel P ι v x∧c=[{ v:=x,recovered:=false }]
 | _,_=>False
def relEnd (P:Program) (ι:Names):AEnd→Ending→Prop
 | .ret v,.returned x=>rel P ι v x
 | .panic v,.panicked c=>∃ x,rel P ι v x∧c=[{ v:=x,recovered:=false }]
 | _,_=>False
def ACalls (P:Program) (f:FuncId) (args:List V) (h:AH) (Q:AEnd→AH→Prop):Prop :=
 ∀ (B:Base) (ι:Names) (W:World) (vs:List Value),Fits P B ι h W→relL P ι args vs →
   Calls P f vs.toArray W fun e w'=>∃ ι' h' ae,Names.le ι ι'∧Fits P B ι' h' w'∧relEnd P ι' ae e∧Q ae h'
theorem ACalls.mono {f:FuncId} {args:List V} {Q Q':AEnd→AH→Prop} (c:ACalls P f args h Q) (m:∀ e h',Q e h'→Q' e h'):ACalls P f args h Q' :=
 fun B ι W vs F r=>(c B ι W vs F r).mono fun _ _ ⟨ι',h',ae,a1,a2,a3,a4⟩=>⟨ι',h',ae,a1,a2,a3,m _ _ a4⟩
abbrev bsel (b:Bool) (x y:Prop):Prop :=
 match b with
 | true=>x
 | false=>y
theorem bsel_true {x y:Prop}:bsel true x y=x:=rfl
theorem bsel_false {x y:Prop}:bsel false x y=y:=rfl
def entersOk (P:Program) (k:FuncId):Bool :=
 match P.funcs[k]? with
 | some fn=>fn.body.isSome && !(fn.name == "runtime.NumGoroutine")
 | none=>false
def aMethod (P:Program) (t:TypeId) (name:String):Option FuncId :=
 match P.info? t with
 | some i=>match i.methods.find? (·.name == name) with
   | some m=>match m.path.toList,m.func,P.underlying t with
     | [],some (f,true),some (.pointer _)=>some f
     | _,_,_=>none
   | none=>none
 | none=>none
def Env.put (N:Nat) (d:Option Tmp) (v:V) (e:Env):Env :=
 match d with
 | some t=>if t < N then (t,v) :: e else e
 | none=>e
def Env.keep (l:List Nat) (e:Env):Env:=l.map fun t=>(t,Env.get e t)
def opnd (e:Env):Operand→V
 | .tmp t=>e.get t
 | .const v=>cst v
 | .global _=>.und
 | .func f=>.fn (.func f) [] []
def bindV (r:Option (V × AH)) (k:V→AH→Prop):Prop :=
 match r with
 | some (v,h)=>k v h
 | none=>False
def aEnd (K:V→AH→Prop) (X:V→AH→Prop):AEnd→AH→Prop
 | .ret v,h=>K v h
 | .panic v,h=>X v h
def vcEnter (P:Program) (k:FuncId) (args:List V) (h:AH) (E:AEnd→AH→Prop):Prop :=
 bsel (entersOk P k) (ACalls P k args h E) False
def vcCallV (P:Program) (f:V) (args:List V) (h:AH) (E:AEnd→AH→Prop):Prop :=
 match f with
 | .fn (.func k) first cap=>vcEnter P k (first++(args++cap)) h E
 | _=>False
def vcInvoke (P:Program) (r:V) (name:String) (args:List V) (h:AH) (E:AEnd→AH→Prop):Prop :=
 match r with
 | .ifc t v=>match aMethod P t name with
   | some k=>vcEnter P k (v :: args) h E
   | none=>False
 | _=>False
def vcPanic (x:V) (X:V→Prop):Prop :=
 match x with
 | .ifc t v=>X (.ifc t v)
 | _=>False
def vcOp (P:Program) (op:Op) (e:Env) (h:AH) (K:V→AH→Prop) (Q:AExit→Env→AH→Prop):Prop :=
 match op with
 | .call { callee:=.value f,args:=args,.. }=>vcCallV P (opnd e f) (args.toList.map (opnd e)) h (aEnd K fun v h=>Q (.panic v) e h)
 | .call { callee:=.invoke r name,args:=args,.. }=>vcInvoke P (opnd e r) name (args.toList.map (opnd e)) h (aEnd K fun v h=>Q (.panic v) e h)
 | .panic x=>vcPanic (opnd e x) fun v=>Q (.panic v) e h
 | .move x=>K (opnd e x) h
 | .assign x=>K (opnd e x) h
 | .makeFunc fn a b=>K (.fn fn (a.toList.map (opnd e)) (b.toList.map (opnd e))) h
 | .range t x=>vcRange P t (opnd e x) h K
 | .next x true=>vcNextS (opnd e x) h K
 | .next x false=>vcNextM (opnd e x) h K
 | .entry x=>vcEntry (opnd e x) h K
 | op=>bindV (aop P (opnd e) h op) K
def vcRun (P:Program) (N:Nat):List Oper→(Env→AH→Prop)→(AExit→Env→AH→Prop)→Env→AH→Prop
 | [],k,_,e,h=>k e h
 | o :: rest,k,Q,e,h=>vcOp P o.op e h (fun v h'=>vcRun P N rest k Q (e.put N o.dst v) h') Q
def skipAll (N:Nat):List Oper→Env→Env
 | [],e=>e
 | o :: rest,e=>skipAll N rest (e.put N o.dst hole)
def segs:List Oper→List (Option (Nat × Bool) × List Oper)
 | []=>[]
 | o :: rest=>match segs rest with
   | (g,l) :: more=>if g=o.guard then (g,o :: l) :: more else (o.guard,[o]) :: (g,l) :: more
   | []=>[(o.guard,[o])]
def vcG (x:V) (want:Bool) (yes no:Prop):Prop :=
 match x with
 | .bool b=>if b=want then yes else no
 | .tup []=>no
 | _=>False
def cutL (ks:List (List Nat)) (e:Env):Env :=
 match ks with
 | k :: _=>Env.keep k e
 | []=>e
structure Meet (p:Prop):Prop where
 of ::
 h:p
abbrev meetAt (ks:List (List Nat)) (p:Prop):Prop :=
 match ks with
 | []=>p
 | _=>Meet p
theorem meetAt_of {ks:List (List Nat)} {p:Prop} (h:meetAt ks p):p:=by cases ks <;> first | exact h | exact Meet.h h
def vcSegs (P:Program) (N:Nat) (ops:Array Oper):List (Option (Nat × Bool) × List Oper)→List (List Nat)→(AExit→Env→AH→Prop)→Env→AH→Prop
 | [],_,Q,e,h=>Q .normal e h
 | (none,l) :: rest,ks,Q,e,h=>vcRun P N l (fun e h=>vcSegs P N ops rest ks Q e h) Q e h
 | (some (j,w),l) :: rest,ks,Q,e,h =>
   match (ops[j]?).bind (·.dst) with
   | some d=>bsel (l.all (fun o=>o.dst != some d)) (
       vcG (e.get d) w (vcRun P N l (fun e h=>meetAt ks (vcSegs P N ops rest ks.tail Q (cutL ks e) h)) Q e h) (meetAt ks (vcSegs P N ops rest ks.tail Q (cutL ks (skipAll N l e)) h))) False
   | none=>False
def relDs (P:Program) (ι:Names):List AD→List Deferred→Prop
 | [],ds=>ds=[]
 | (k,l) :: as,ds=>∃ d rest,ds=d :: rest∧((∃ cap,d.target=.fn (.func k) cap∧relL P ι l (d.args++cap).toList)∨(P.funcs.size≤k∧∃ r:Nat,l=[.agg [.und,.int .u64 (r:Int)]]∧d={ target:=.collected r,args:=#[] }))∧relDs P ι as rest
theorem relDs_le {ι':Names} (hl:Names.le ι ι'):∀ {as:List AD} {ds:List Deferred},relDs P ι as ds→relDs P ι' as ds
 | [],_,r=>r
 | (_,_) :: _,_,r=>by
   obtain ⟨d,rest,h1,h2,h4⟩:=r
   refine ⟨d,rest,h1,?_,relDs_le hl h4⟩
   rcases h2 with ⟨cap,h2,h3⟩ | h2
   · exact .inl ⟨cap,h2,relL_le hl _ _ h3⟩
   · exact .inr h2
def relE (P:Program) (ι:Names) (N:Nat) (D:List AD) (e:Env) (a:Act):Prop:=a.tmps.size=N∧relDs P ι D a.defers∧∀ t,rel P ι (Env.get e t) (a.tmps.getD t undef)
theorem relE_le {ι':Names} {N:Nat} {e:Env} {a:Act} (hl:Names.le ι ι') (r:relE P ι N D e a):relE P ι' N D e a:=⟨r.1,relDs_le hl r.2.1,fun t=>rel_le hl (r.2.2 t)⟩
theorem relE_put {N:Nat} {e:Env} {a:Act} (r:relE P ι N D e a) {d:Option Tmp} {v:V} {x:Value} (hv:rel P ι v x):relE P ι N D (Env.put N d v e) (a.put d x):=by
 cases d with
 | none=>exact r
 | some t =>
   refine ⟨by simp [Act.put,r.1],r.2.1,fun u=>?_⟩
   simp only [Env.put,Act.put]
   by_cases ht:t < N
   · rw [if_pos ht]
     simp only [Env.get]
     by_cases hu:u=t
     · subst hu
       rw [if_pos rfl]
       have:(a.tmps.setIfInBounds u x).getD u undef=x:=by
         have:=r.1
         simp [Array.getD,this,ht]
       rw [this];exact hv
     · rw [if_neg hu]
       have:(a.tmps.setIfInBounds t x).getD u undef=a.tmps.getD u undef:=by
         rw [Array.getD_eq_getD_getElem?,Array.getD_eq_getD_getElem?,Array.getElem?_setIfInBounds_ne (by omega)]
       rw [this];exact r.2.2 u
   · rw [if_neg ht]
     have:a.tmps.setIfInBounds t x=a.tmps:=by
       apply Array.ext_getElem?
       intro i
       rw [Array.getElem?_setIfInBounds]
       split
       · rename_i e;subst e
         rw [if_neg (by rw [r.1];exact ht),Array.getElem?_eq_none (by rw [r.1];exact Nat.le_of_not_lt ht)]
       · rfl
     rw [this];exact r.2.2 u
theorem get_keep (e:Env):∀ (l:List Nat) (t:Nat),Env.get (Env.keep l e) t=Env.get e t∨Env.get (Env.keep l e) t=.und
 | [],t=>.inr rfl
 | u :: l,t=>by
   simp only [Env.keep,List.map_cons,Env.get]
   by_cases h:t=u
   · rw [if_pos h,h];exact .inl rfl
   · rw [if_neg h];exact get_keep e l t
theorem relE_keep {N:Nat} {e:Env} {a:Act} (l:List Nat) (r:relE P ι N D e a):relE P ι N D (Env.keep l e) a :=
 ⟨r.1,r.2.1,fun t=>by
   rcases get_keep e l t with h | h
   · rw [h];exact r.2.2 t
   · rw [h];exact .inl rfl⟩
theorem rel_opnd {N:Nat} {e:Env} {a:Act} (r:relE P ι N D e a) (x:Operand):rel P ι (opnd e x) (a.eval x):=by
 cases x with
 | tmp t=>exact r.2.2 t
 | const v=>exact rel_cst v
 | global g=>exact .inl rfl
 | func f =>
   refine .inr ⟨rfl,?_⟩
   simp only [opnd,relC,Value.cells,Act.eval]
   exact ⟨[],[],relL_nil,relL_nil,rfl⟩
def Post (P:Program) (B:Base) (ι:Names) (N:Nat) (D:List AD) (Q:AExit→Env→AH→Prop) (x:Exit) (a:Act) (w:World):Prop :=
 ∃ ι' h' e' ax,Names.le ι ι'∧Fits P B ι' h' w∧relE P ι' N D e' a∧relX P ι' ax x∧Q ax e' h'
theorem Post.le {ι':Names} {N:Nat} {Q:AExit→Env→AH→Prop} {x:Exit} {a:Act} {w:World} (hl:Names.le ι ι') (p:Post P B ι' N D Q x a w):Post P B ι N D Q x a w:=by
 obtain ⟨ι2,h',e',ax,h1,h2⟩:=p;exact ⟨ι2,h',e',ax,Names.le_trans hl h1,h2⟩
theorem get_tmp {a:Act} {d:Nat} {x:Value} (hx:a.tmps.getD d undef=x) (hne:x≠undef):a.tmps[d]?=some x:=by
 rw [Array.getD_eq_getD_getElem?] at hx
 cases hq:a.tmps[d]? with
 | none=>rw [hq] at hx;exact absurd hx.symm hne
 | some q=>rw [hq] at hx;simp at hx;rw [hx]
theorem yielded_bool {a:Act} {ops:Array Oper} {j d:Nat} {b:Bool} (hj:(ops[j]?).bind (·.dst)=some d) (hr:rel P ι (.bool b) (a.tmps.getD d undef)):yielded ops a.tmps j=some b:=by
 simp only [yielded,hj,Option.bind_some,get_tmp (rel_bool hr) (by simp [undef])]
theorem yielded_hole {a:Act} {ops:Array Oper} {j d:Nat} (hj:(ops[j]?).bind (·.dst)=some d) (hr:rel P ι (.tup []) (a.tmps.getD d undef)):yielded ops a.tmps j=none:=by
 obtain ⟨vs,h1,h2⟩:=rel_tup hr
 simp only [relL] at h2;subst h2
 simp only [yielded,hj,Option.bind_some]
 cases hq:a.tmps[d]? with
 | none=>rfl
 | some q =>
   rw [Array.getD_eq_getD_getElem?,hq] at h1
   simp at h1;subst h1;rfl
theorem run_callFunc {k:FuncId} (he:entersOk P k=true) (args:Array Value) (W:World):(callFunc k args).run P W=.ok (.enter k args) W:=by
 unfold entersOk at he
 cases hf:P.funcs[k]? with
 | none=>rw [hf] at he;cases he
 | some fn =>
   rw [hf] at he
   simp only [Bool.and_eq_true,Bool.not_eq_true'] at he
   have hb:fn.body.isNone=false:=by cases hq:fn.body <;> simp_all
   simp only [callFunc,Sem.run_bind,run_program,Result.andThen_ok,hf,he.2,Bool.false_eq_true,if_false,hb,Sem.run_pure]
theorem run_method {t:TypeId} {name:String} {k:FuncId} (hm:aMethod P t name=some k) (n:Nat) (x:Value) (W:World):(method (n + 1) t x name).run P W=.ok (k,x) W:=by
 unfold aMethod at hm
 cases hi:P.info? t with
 | none=>rw [hi] at hm;cases hm
 | some i =>
   rw [hi] at hm
   simp only at hm
   cases hf:i.methods.find? (·.name == name) with
   | none=>rw [hf] at hm;cases hm
   | some m =>
     rw [hf] at hm
     simp only at hm
     split at hm
     · rename_i f e hp hfn hu
       cases hm
       have hti:(typeInfo t).run P W=.ok i W:=by simp [typeInfo,hi]
       have hul:(underlying t).run P W=.ok (.pointer e) W:=by simp [underlying,hu]
       simp only [method,Sem.run_bind,hti,Result.andThen_ok,hf,hp,follow,Sem.run_pure,hfn,receiverAt,hul,Place.get]
     · cases hm
theorem upon_enter {N:Nat} {o:Oper} {a:Act} {k:FuncId} {args:List V} {vs:List Value} {next:Act→World→Prop} {Q:AExit→Env→AH→Prop} {Kv:V→AH→Prop} {e:Env} (F:Fits P B ι h W) (r:relE P ι N D e a) (ra:relL P ι args vs)
   (hc:ACalls P k args h (aEnd Kv fun v h=>Q (.panic v) e h)) (hn:∀ ι' h' v x w',Names.le ι ι'→Fits P B ι' h' w'→rel P ι' v x→Kv v h'→next (a.put o.dst x) w') :
   o.upon P a next (Post P B ι N D Q) (.ok (.enter k vs.toArray) W):=by
 rw [Oper.upon_enter]
 refine (hc B ι W vs F ra).mono ?_
 rintro en w' ⟨ι',h',ae,k1,k2,k3,k4⟩
 cases en with
 | returned x =>
   cases ae with
   | ret v=>exact hn ι' h' v x w' k1 k2 k3 k4
   | panic v=>exact k3.elim
 | panicked c =>
   cases ae with
   | ret v=>exact k3.elim
   | panic v=>exact ⟨ι',h',e,.panic v,k1,k2,relE_le k1 r,k3,k4⟩
 | outgrown=>cases ae <;> exact k3.elim
theorem vcOp_ok (K:Ok P) {N:Nat} {o:Oper} {a:Act} {next:Act→World→Prop} {Q:AExit→Env→AH→Prop} {Kv:V→AH→Prop} {e:Env} (F:Fits P B ι h W) (r:relE P ι N D e a) (hv:vcOp P o.op e h Kv Q)
   (hn:∀ ι' h' v x w',Names.le ι ι'→Fits P B ι' h' w'→rel P ι' v x→Kv v h'→next (a.put o.dst x) w') :
   o.wp P a W next (Post P B ι N D Q):=by
 unfold vcOp at hv
 obtain ⟨dst,op,type,pos,after,guard⟩:=o
 simp only at hv
 have fin:∀ v h',aop P (opnd e) h op=some (v,h')→Kv v h'→(Oper.mk dst op type pos after guard).wp P a W next (Post P B ι N D Q):=by
   intro v h' hop hv
   obtain ⟨ι',W',nx,g1,g2,g3,g4⟩:=aop_ok (o:=⟨dst,op,type,pos,after,guard⟩) K F (rel_opnd r) hop
   unfold Oper.wp
   rw [g1]
   rcases g4 with ⟨y,rfl,hy⟩ | ⟨rfl,rfl⟩
   · exact hn ι' h' v y W' g2 g3 hy hv
   · exact hn ι' h' hole undef W' g2 g3 rel_hole hv
 split at hv
 · rename_i f args ts
   unfold vcCallV at hv
   split at hv
   · rename_i k first cap hf
     have hρ:=rel_opnd r f
     rw [hf] at hρ
     obtain ⟨fa,fb,hf1,hf2,hf3⟩:=rel_fn hρ
     unfold vcEnter at hv
     cases hen:entersOk P k with
     | false=>rw [hen] at hv;exact hv.elim
     | true =>
       rw [hen] at hv
       try simp only [bsel_true] at hv
       have hargs:=relL_map (rel_opnd r) args.toList
       have hall:=relL_append hf2 (relL_append hargs hf3)
       have:=upon_enter (o:=⟨dst,.call { callee:=.value f,args:=args,argTypes:=ts },type,pos,after,guard⟩) F r hall hv hn
       unfold Oper.wp
       have hrun:(execOp a.eval ⟨dst,.call { callee:=.value f,args:=args,argTypes:=ts },type,pos,after,guard⟩).run P W=.ok (.enter k (fa++(args.toList.map a.eval++fb)).toArray) W:=by
         simp only [execOp,resolve,hf1,Deferred.ofValue,Sem.run_bind,Sem.run_pure,Result.andThen_ok,invoke]
         rw [run_callFunc hen]
         congr 2
         apply Array.ext';simp
       rw [hrun]
       exact this
   · exact hv.elim
 · rename_i rcv name args ts
   unfold vcInvoke at hv
   split at hv
   · rename_i t v hf
     split at hv
     · rename_i k hm
       have hρ:=rel_opnd r rcv
       rw [hf] at hρ
       obtain ⟨y,hf1,hf2,_⟩:=rel_ifc hρ
       unfold vcEnter at hv
       cases hen:entersOk P k with
       | false=>rw [hen] at hv;exact hv.elim
       | true =>
         rw [hen] at hv
         try simp only [bsel_true] at hv
         have hargs:=relL_map (rel_opnd r) args.toList
         have:=upon_enter (o:=⟨dst,.call { callee:=.invoke rcv name,args:=args,argTypes:=ts },type,pos,after,guard⟩) F r (relL_cons hf2 hargs) hv hn
         unfold Oper.wp
         have hrun:(execOp a.eval ⟨dst,.call { callee:=.invoke rcv name,args:=args,argTypes:=ts },type,pos,after,guard⟩).run P W=.ok (.enter k (y :: args.toList.map a.eval).toArray) W:=by
           simp only [execOp,resolve,hf1,Sem.run_bind,Sem.run_pure,Result.andThen_ok,invoke]
           have h0:(#[Value.iface t y]++args.map a.eval)[0]?=some (.iface t y):=by rw [Array.getElem?_append_left (by simp)];rfl
           simp only [h0,callMethod,Sem.run_bind,run_program,Result.andThen_ok]
           have hx:(#[Value.iface t y]++args.map a.eval).extract 1 (#[Value.iface t y]++args.map a.eval).size=args.map a.eval:=by
             have h1:=Array.extract_append_right (as:=#[Value.iface t y]) (bs:=args.map a.eval) (i:=(args.map a.eval).size)
             have e:(#[Value.iface t y]++args.map a.eval).size=(#[Value.iface t y]).size + (args.map a.eval).size:=Array.size_append
             rw [e]
             refine Eq.trans h1 ?_
             simp
           have hfu:P.types.size + Made.depth=(P.types.size + 99) + 1:=rfl
           rw [hfu,run_method hm,hx]
           simp only [Result.andThen_ok]
           rw [run_callFunc hen]
           congr 2
           apply Array.ext';simp
         rw [hrun]
         exact this
     · exact hv.elim
   · exact hv.elim
 · rename_i x
   unfold vcPanic at hv
   split at hv
   · rename_i t v hf
     have hρ:=rel_opnd r x
     rw [hf] at hρ
     obtain ⟨y,hf1,hf2,hf3⟩:=rel_ifc hρ
     unfold Oper.wp
     have hrun:(execOp a.eval ⟨dst,.panic x,type,pos,after,guard⟩).run P W=.halt (.panic (.iface t y)) W:=by
       simp [execOp,Instr.panic,hf1]
     rw [hrun,Oper.upon_panic]
     exact ⟨ι,h,e,.panic (.ifc t v),Names.le_refl _,F,r,⟨_,hf1▸hρ,rfl⟩,hv⟩
   · exact hv.elim
 · exact fin _ _ rfl hv
 · exact fin _ _ rfl hv
 · exact fin _ _ rfl hv
 · rename_i t x
   obtain ⟨v,h',hk,ι',W',z,g1,g2,g3,g4⟩:=vcRange_ok F hv (rel_opnd r x)
   have hrun:(execOp a.eval ⟨dst,.range t x,type,pos,after,guard⟩).run P W=.ok (.value z) W':=by simp only [execOp,Sem.run_bind,g1,Result.andThen_ok,Sem.run_pure]
   unfold Oper.wp
   rw [hrun]
   exact hn ι' h' v z W' g2 g3 g4 hk
 · rename_i x
   obtain ⟨v,h',hk,ι',W',z,g1,g2,g3,g4⟩:=vcNextS_ok (ty:=type) F hv (rel_opnd r x)
   have hrun:(execOp a.eval ⟨dst,.next x true,type,pos,after,guard⟩).run P W=.ok (.value z) W':=by simp only [execOp,Sem.run_bind,g1,Result.andThen_ok,Sem.run_pure]
   unfold Oper.wp
   rw [hrun]
   exact hn ι' h' v z W' g2 g3 g4 hk
 · rename_i x
   obtain ⟨v,h',hk,ι',W',z,g1,g2,g3,g4⟩:=vcNextM_ok (ty:=type) F hv (rel_opnd r x)
   have hrun:(execOp a.eval ⟨dst,.next x false,type,pos,after,guard⟩).run P W=.ok (.value z) W':=by simp only [execOp,Sem.run_bind,g1,Result.andThen_ok,Sem.run_pure]
   unfold Oper.wp
   rw [hrun]
   exact hn ι' h' v z W' g2 g3 g4 hk
 · rename_i x
   obtain ⟨v,h',hk,ι',W',z,g1,g2,g3,g4⟩:=vcEntry_ok F hv (rel_opnd r x)
   have hrun:(execOp a.eval ⟨dst,.entry x,type,pos,after,guard⟩).run P W=.ok (.value z) W':=by simp only [execOp,Sem.run_bind,g1,Result.andThen_ok,Sem.run_pure]
   unfold Oper.wp
   rw [hrun]
   exact hn ι' h' v z W' g2 g3 g4 hk
 · unfold bindV at hv
   split at hv
   · rename_i v h' hop
     exact fin _ _ hop hv
   · exact hv.elim
theorem upon_mono {o:Oper} {a:Act} {next next':Act→World→Prop} {Q Q':Exit→Act→World→Prop} (hn:∀ a w,next a w→next' a w) (hq:∀ x a w,Q x a w→Q' x a w) (r:Result Next) (hh:o.upon P a next Q r):o.upon P a next' Q' r:=by
 cases r with
 | ok n w' =>
   cases n <;> simp only [Oper.upon] at hh ⊢ <;>
     first
       | exact hn _ _ hh
       | exact Calls.mono hh (fun e w'' he=>by
           cases e
           · exact hn _ _ he
           · exact hq _ _ _ he
           · obtain ⟨a,w,h⟩:=he;exact ⟨a,w,hq _ _ _ h⟩)
       | exact Rows.mono hh (fun _ _ he=>hn _ _ he)
 | halt x w'=>cases x <;> simp only [Oper.upon] at hh ⊢ <;> exact hq _ _ _ hh
theorem yielded_put {a:Act} {ops:Array Oper} {j d:Nat} (hj:(ops[j]?).bind (·.dst)=some d) {o:Oper} (hd:o.dst≠some d) (x:Value):yielded ops (a.put o.dst x).tmps j=yielded ops a.tmps j:=by
 simp only [yielded,hj,Option.bind_some]
 cases ho:o.dst with
 | none=>rfl
 | some t =>
   have:t≠d:=fun e=>hd (by rw [ho,e])
   simp only [Act.put]
   rw [Array.getElem?_setIfInBounds_ne this]
theorem wp_upto {o:Oper} {a:Act} {next:Act→World→Prop} {Q Q':Exit→Act→World→Prop} (hq:∀ x a w,Q x a w→Q' x a w) (hh:o.wp P a W next Q):o.wp P a W next Q' :=
 upon_mono (fun _ _ h=>h) hq _ hh
theorem vcRun_ok (K:Ok P) {N:Nat} {ops:Array Oper} {Q:AExit→Env→AH→Prop} {k:Env→AH→Prop} {rest:List Oper} {ι0:Names} (g:Option (Nat × Bool)) (d:Nat)
   (hd:∀ j w,g=some (j,w)→(ops[j]?).bind (·.dst)=some d)
   (hk:∀ (ι':Names) (h':AH) (e':Env) (a':Act) (w':World),Names.le ι0 ι'→Fits P B ι' h' w'→relE P ι' N D e' a'→k e' h'→wpList P ops (Post P B ι0 N D Q) rest a' w') :
   ∀ (l:List Oper) {ι:Names} {h:AH} {W:World} {e:Env} {a:Act},(∀ o∈l,o.guard=g)→(g≠none→∀ o∈l,o.dst≠some d)→Names.le ι0 ι →
   Fits P B ι h W→relE P ι N D e a→(∀ j w,g=some (j,w)→yielded ops a.tmps j=some w)→vcRun P N l k Q e h →
   wpList P ops (Post P B ι0 N D Q) (l++rest) a W
 | [],ι,h,W,e,a,_,_,h0,F,r,_,hv=>hk ι h e a W h0 F r hv
 | o :: l,ι,h,W,e,a,hg,hdst,h0,F,r,hy,hv=>by
   simp only [vcRun] at hv
   simp only [List.cons_append,wpList]
   have hw:Region.wanted o (yielded ops a.tmps)=true:=by
     unfold Region.wanted
     rw [hg o (by simp)]
     cases g with
     | none=>rfl
     | some p=>obtain ⟨j,w⟩:=p;simp [hy j w rfl]
   rw [if_pos hw]
   left
   refine wp_upto (fun _ _ _ p=>Post.le h0 p) (vcOp_ok K F r hv ?_)
   intro ι' h' v x w' hl F' hr hv'
   exact vcRun_ok K (rest:=rest) g d hd hk l (fun o ho=>hg o (by simp [ho])) (fun hn o ho=>hdst hn o (by simp [ho])) (Names.le_trans h0 hl) F' (relE_put (relE_le hl r) hr)
     (fun j w e=>by
       rw [yielded_put (hd j w e) (hdst (by rw [e];simp) o (by simp))]
       exact hy j w e) hv'
theorem skipAll_ok {N:Nat} {ops:Array Oper} {Q:Exit→Act→World→Prop} {rest:List Oper} {j d:Nat} {w:Bool} (hd:(ops[j]?).bind (·.dst)=some d) {ι:Names} {W:World} :
   ∀ (l:List Oper) {e:Env} {a:Act},(∀ o∈l,o.guard=some (j,w))→(∀ o∈l,o.dst≠some d)→relE P ι N D e a→yielded ops a.tmps j≠some w →
   (∀ a',relE P ι N D (skipAll N l e) a'→wpList P ops Q rest a' W)→wpList P ops Q (l++rest) a W
 | [],e,a,_,_,r,_,hk=>hk a r
 | o :: l,e,a,hg,hdst,r,hy,hk=>by
   simp only [List.cons_append,wpList]
   have hw:Region.wanted o (yielded ops a.tmps)=false:=by
     unfold Region.wanted
     rw [hg o (by simp)]
     simpa using hy
   rw [if_neg (by simp [hw])]
   exact skipAll_ok hd l (fun o ho=>hg o (by simp [ho])) (fun o ho=>hdst o (by simp [ho])) (relE_put r rel_hole) (by rw [yielded_put hd (hdst o (by simp))];exact hy) hk
def flatS (l:List (Option (Nat × Bool) × List Oper)):List Oper:=l.flatMap (·.2)
theorem segs_flat:∀ l:List Oper,flatS (segs l)=l
 | []=>rfl
 | o :: rest=>by
   have ih:=segs_flat rest
   simp only [segs]
   split
   · rename_i g l more hs
     rw [hs] at ih
     split
     · simp only [flatS,List.flatMap_cons] at ih ⊢
       rw [List.cons_append,ih]
     · simp only [flatS,List.flatMap_cons] at ih ⊢
       rw [ih];rfl
   · rename_i hs
     rw [hs] at ih
     simp only [flatS,List.flatMap_nil] at ih
     simp [flatS,← ih]
theorem segs_guard:∀ l:List Oper,∀ s∈segs l,∀ o∈s.2,o.guard=s.1
 | [],s,hs=>by simp [segs] at hs
 | o :: rest,s,hs=>by
   have ih:=segs_guard rest
   simp only [segs] at hs
   split at hs
   · rename_i g l more he
     rw [he] at ih
     split at hs
     · rename_i hg
       rcases List.mem_cons.1 hs with rfl | hs
       · intro o' ho'
         rcases List.mem_cons.1 ho' with rfl | ho'
         · exact hg.symm
         · exact ih (g,l) (by simp) o' ho'
       · exact ih s (by simp [hs])
     · rcases List.mem_cons.1 hs with rfl | hs
       · intro o' ho';simp at ho';subst ho';rfl
       · exact ih s hs
   · simp at hs;subst hs
     intro o' ho';simp at ho';subst ho';rfl
theorem vcSegs_ok (K:Ok P) {N:Nat} {ops:Array Oper} {Q:AExit→Env→AH→Prop} {ι0:Names}:∀ (l:List (Option (Nat × Bool) × List Oper)) (ks:List (List Nat)) {ι:Names} {h:AH} {W:World} {e:Env} {a:Act},(∀ s∈l,∀ o∈s.2,o.guard=s.1)→Names.le ι0 ι →
   Fits P B ι h W→relE P ι N D e a→vcSegs P N ops l ks Q e h→wpList P ops (Post P B ι0 N D Q) (flatS l) a W
 | [],ks,ι,h,W,e,a,_,h0,F,r,hv=>⟨ι,h,e,.normal,h0,F,r,trivial,hv⟩
 | (none,s) :: rest,ks,ι,h,W,e,a,hg,h0,F,r,hv=>by
   simp only [vcSegs] at hv
   simp only [flatS,List.flatMap_cons]
   exact vcRun_ok K none 0 (by intro j w e;cases e) (fun ι' h' e' a' w' hl F' r' hk=>vcSegs_ok K rest ks (fun s hs=>hg s (by simp [hs])) hl F' r' hk) s (hg (none,s) (by simp)) (fun hn=>absurd rfl hn) h0 F r (by intro j w e;cases e) hv
 | (some (j,w),s) :: rest,ks,ι,h,W,e,a,hg,h0,F,r,hv=>by
   simp only [vcSegs] at hv
   simp only [flatS,List.flatMap_cons]
   split at hv
   · rename_i d hd
     cases hall:s.all (fun o=>o.dst != some d) with
     | false=>rw [hall] at hv;exact hv.elim
     | true =>
       rw [hall] at hv
       try simp only [bsel_true] at hv
       have hdst:∀ o∈s,o.dst≠some d:=by
         intro o ho
         have:=List.all_eq_true.1 hall o ho
         simpa using this
       have hgs:=hg (some (j,w),s) (by simp)
       have hrest:∀ (s':Option (Nat × Bool) × List Oper),s'∈rest→∀ o∈s'.2,o.guard=s'.1:=fun s' hs'=>hg s' (by simp [hs'])
       have cutOk:∀ {ι:Names} {e:Env} {a:Act},relE P ι N D e a→relE P ι N D (cutL ks e) a:=by
         intro ι e a r
         cases ks with
         | nil=>exact r
         | cons k ks=>exact relE_keep k r
       have yes:vcRun P N s (fun e h=>meetAt ks (vcSegs P N ops rest ks.tail Q (cutL ks e) h)) Q e h→yielded ops a.tmps j=some w→wpList P ops (Post P B ι0 N D Q) (s++rest.flatMap (·.2)) a W:=by
         intro hv hy
         exact vcRun_ok K (some (j,w)) d (by intro j' w' e';cases e';exact hd)
           (fun ι' h' e' a' w' hl F' r' hk=>vcSegs_ok K rest ks.tail hrest hl F' (cutOk r') (meetAt_of hk)) s hgs (fun _=>hdst) h0 F r (by intro j' w' e';cases e';exact hy) hv
       have no:meetAt ks (vcSegs P N ops rest ks.tail Q (cutL ks (skipAll N s e)) h)→yielded ops a.tmps j≠some w→wpList P ops (Post P B ι0 N D Q) (s++rest.flatMap (·.2)) a W:=by
         intro hv hy
         exact skipAll_ok hd s hgs hdst r hy (fun a' r'=>vcSegs_ok K rest ks.tail hrest h0 F (cutOk r') (meetAt_of hv))
       have hr:=r.2.2 d
       unfold vcG at hv
       split at hv
       · rename_i b hb
         rw [hb] at hr
         have hy:=yielded_bool hd hr
         split at hv
         · rename_i hbw;exact yes hv (by rw [hy,hbw])
         · rename_i hbw;exact no hv (by rw [hy];simpa using hbw)
       · rename_i hb
         rw [hb] at hr
         exact no hv (by rw [yielded_hole hd hr];simp)
       · exact hv.elim
   · exact hv.elim
end Go.Ab
namespace Go.Ab
open Go Go.RowKit
variable {P:Program} {ι:Names} {W:World} {B:Base} {h:AH} {D:List AD}
theorem aop_congr {ρ ρ':Operand→V} (h:AH) (o:Op) (hx:∀ x∈o.operands,ρ x=ρ' x):aop P ρ h o=aop P ρ' h o:=by
 have pairs:∀ ps:Array (Nat × Operand),(∀ x∈ps.map (·.2),ρ x=ρ' x)→(ps.toList.map fun p=>(p.1,ρ p.2))=(ps.toList.map fun p=>(p.1,ρ' p.2)):=fun ps hp =>
   List.map_congr_left fun p hm=>by rw [hp p.2 (Array.mem_map.2 ⟨p,Array.mem_toList_iff.1 hm,rfl⟩)]
 unfold aop
 cases o <;> simp only [Op.operands] at hx <;> (try simp only)
 case build t ps=>rw [pairs ps fun x h=>hx x (by simpa using h)]
 case buildSlice t n ps=>rw [pairs ps fun x h=>hx x (by simpa using h)]
 case makeFunc fn first captured =>
   rw [List.map_congr_left (l:=first.toList) fun x h=>hx x (by simp [Array.mem_toList_iff.1 h]),List.map_congr_left (l:=captured.toList) fun x h=>hx x (by simp [Array.mem_toList_iff.1 h])]
 case makeMap t r=>cases r <;> simp_all
 case slice t x lo hi mx=>cases lo <;> cases hi <;> cases mx <;> simp_all
 case typeAssert x a b c=>cases c <;> simp_all
 case call c =>
   obtain ⟨callee,args,ts⟩:=c
   cases callee <;> (try simp only)
   all_goals (try rfl)
   rw [List.map_congr_left (l:=args.toList) fun x h=>hx x (by simp [Call.operands,Array.mem_toList_iff.1 h])]
 all_goals (first | rfl | (simp_all;done))
def pureE (v:V) (h:AH):AEnd→AH→Prop
 | .ret u,h'=>u=v∧h'=h
 | .panic _,_=>False
def bindO (r:Option V) (k:V→Prop):Prop :=
 match r with
 | some v=>k v
 | none=>False
theorem bindO_some {r:Option V} {k:V→Prop} (h:bindO r k):∃ v,r=some v∧k v:=by
 unfold bindO at h;split at h
 · exact ⟨_,rfl,h⟩
 · exact h.elim
def fstV (r:Option (V × AH)):Option V :=
 match r with
 | some (v,_)=>some v
 | none=>none
def quietOp:Op→Bool
 | .move _ | .assign _ | .pick .. | .build .. | .load .. | .nilCheck _ | .binOp .. | .unOp .. | .convert .. | .makeInterface .. | .makeFunc .. | .slice .. | .fieldAddr .. | .field ..
 | .indexAddr .. | .index .. | .lookup .. | .extract ..=>true
 | .call { callee:=.builtin .len,.. } | .call { callee:=.builtin .min,.. } | .call { callee:=.builtin .max,.. }=>true
 | _=>false
theorem quiet_ok {ρ:Operand→V} {h h':AH} {o:Op} {v:V} (hq:quietOp o=true) (hl:aop P ρ h o=some (v,h')):h'=h:=by
 unfold quietOp at hq
 split at hq <;> first | (cases hq;done) | skip
 all_goals (simp only [aop] at hl)
 all_goals (first
   | (cases hl;rfl)
   | exact (still_some hl).2
   | skip)
 · unfold aPick at hl;split at hl <;> cases hl;rfl
 · unfold aLoadV at hl;split at hl
   · exact (still_some hl).2
   · cases hl
 · unfold aNil at hl;split at hl <;> cases hl <;> rfl
 · rename_i t x lo hi mx
   cases mx with
   | none=>exact (still_some hl).2
   | some m=>cases hl
 · unfold aBuiltin at hl
   split at hl <;> first | (cases hl;done) | skip
   all_goals (first
     | exact (still_some hl).2
     | (split at hl <;> exact (still_some hl).2)
     | simp_all)
def vcQ (P:Program) (o:Op) (e:Env) (h:AH) (K:V→Prop):Prop :=
 match o with
 | .call { callee:=.value f,args:=args,.. }=>∃ v,vcCallV P (opnd e f) (args.toList.map (opnd e)) h (pureE v h)∧K v
 | .call { callee:=.invoke r name,args:=args,.. }=>∃ v,vcInvoke P (opnd e r) name (args.toList.map (opnd e)) h (pureE v h)∧K v
 | .panic _=>False
 | .move x=>K (opnd e x)
 | .assign x=>K (opnd e x)
 | .makeFunc fn a b=>K (.fn fn (a.toList.map (opnd e)) (b.toList.map (opnd e)))
 | op=>bsel (quietOp op) (bindO (fstV (aop P (opnd e) h op)) K) False
def yields (P:Program) (o:Op) (e:Env) (h h':AH) (v:V):Prop :=
 match o with
 | .call { callee:=.value f,args:=args,.. }=>vcCallV P (opnd e f) (args.toList.map (opnd e)) h (pureE v h')
 | .call { callee:=.invoke r name,args:=args,.. }=>vcInvoke P (opnd e r) name (args.toList.map (opnd e)) h (pureE v h')
 | .panic _=>False
 | op=>aop P (opnd e) h op=some (v,h')
theorem yields_congr {o:Op} {e e':Env} {h h':AH} {v:V} (hx:∀ x∈o.operands,opnd e x=opnd e' x) (y:yields P o e h h' v):yields P o e' h h' v:=by
 have hop:=aop_congr (P:=P) h o hx
 unfold yields at *
 split at y
 · rename_i f args ts
   have h1:opnd e f=opnd e' f:=hx f (by simp [Op.operands,Call.operands])
   have h2:args.toList.map (opnd e)=args.toList.map (opnd e'):=List.map_congr_left fun x h=>hx x (by simp [Op.operands,Call.operands,Array.mem_toList_iff.1 h])
   rw [← h1,← h2];exact y
 · rename_i r name args ts
   have h1:opnd e r=opnd e' r:=hx r (by simp [Op.operands,Call.operands])
   have h2:args.toList.map (opnd e)=args.toList.map (opnd e'):=List.map_congr_left fun x h=>hx x (by simp [Op.operands,Call.operands,Array.mem_toList_iff.1 h])
   rw [← h1,← h2];exact y
 · exact y.elim
 · rename_i h1 h2 h3
   cases o <;> (try simp only at y ⊢) <;> first | (rw [← hop];exact y) | skip
   all_goals (first
     | exact absurd rfl (h3 _)
     | (rename_i c;obtain ⟨callee,args,ts⟩:=c;cases callee <;> first | exact absurd rfl (h1 _ _ _) | exact absurd rfl (h2 _ _ _ _) | ((try simp only at y ⊢);rw [← hop];exact y)))
theorem yields_vcOp {o:Op} {e:Env} {h h':AH} {v:V} (y:yields P o e h h' v):vcOp P o e h (fun v' h''=>v'=v∧h''=h') (fun _ _ _=>False):=by
 have lift:∀ {k:FuncId} {args:List V},vcEnter P k args h (pureE v h')→vcEnter P k args h (aEnd (fun v' h''=>v'=v∧h''=h') fun _ _=>False):=by
   intro k args hv
   unfold vcEnter at *
   cases hen:entersOk P k with
   | false=>rw [hen] at hv;exact hv.elim
   | true =>
     rw [hen] at hv
     try simp only [bsel_true] at hv ⊢
     exact hv.mono fun e h' q=>by cases e <;> exact q
 unfold yields at y
 unfold vcOp
 split at y
 · try simp only at y ⊢
   unfold vcCallV at *
   split at y
   · exact lift y
   · exact y.elim
 · try simp only at y ⊢
   unfold vcInvoke at *
   split at y
   · split at y
     · exact lift y
     · exact y.elim
   · exact y.elim
 · exact y.elim
 · rename_i h1 h2 h3
   cases o <;> (try simp only at y ⊢) <;> first | (rw [y];exact ⟨rfl,rfl⟩) | (simp only [aop,Option.some.injEq,Prod.mk.injEq] at y;exact ⟨y.1,y.2⟩) | (simp only [aop] at y;cases y;done) | skip
   all_goals (first
     | exact absurd rfl (h3 _)
     | (rename_i c;obtain ⟨callee,args,ts⟩:=c;cases callee <;> first | exact absurd rfl (h1 _ _ _) | exact absurd rfl (h2 _ _ _ _) | ((try simp only at y ⊢);rw [y];exact ⟨rfl,rfl⟩)))
theorem yields_of_vcQ {o:Op} {e:Env} {h:AH} {K:V→Prop} (hv:vcQ P o e h K):∃ v,yields P o e h h v∧K v:=by
 unfold vcQ at hv
 unfold yields
 split at hv
 · exact hv
 · exact hv
 · exact hv.elim
 · exact ⟨_,rfl,hv⟩
 · exact ⟨_,rfl,hv⟩
 · exact ⟨_,rfl,hv⟩
 · rename_i h1 h2 h3 _ _ _
   cases hq:quietOp o with
   | false=>rw [hq] at hv;exact hv.elim
   | true =>
     rw [hq] at hv
     try simp only [bsel_true] at hv
     obtain ⟨v,g1,g2⟩:=bindO_some hv
     have:∃ h',aop P (opnd e) h o=some (v,h'):=by
       unfold fstV at g1
       split at g1
       · rename_i u h' hu;cases g1;exact ⟨h',hu⟩
       · cases g1
     obtain ⟨h',hl⟩:=this
     obtain rfl:=quiet_ok hq hl
     refine ⟨v,?_,g2⟩
     cases o <;> (try simp only) <;> first | exact hl | skip
     all_goals (first
       | exact absurd rfl (h3 _)
       | (rename_i c;obtain ⟨callee,args,ts⟩:=c;cases callee <;> first | exact absurd rfl (h1 _ _ _) | exact absurd rfl (h2 _ _ _ _) | exact hl))
structure BaseLe (B B':Base):Prop where
 sub:∀ c,B.F c→B'.F c∧B'.W0.heap[c]?=B.W0.heap[c]?
 os:B'.W0.os=B.W0.os
 tape:B'.W0.tape=B.W0.tape
 output:B'.W0.output=B.W0.output
 size:B.W0.heap.size≤B'.W0.heap.size
theorem BaseLe.refl (B:Base):BaseLe B B:=⟨fun _ h=>⟨h,rfl⟩,rfl,rfl,rfl,Nat.le_refl _⟩
theorem BaseLe.trans {A B C:Base} (h:BaseLe A B) (k:BaseLe B C):BaseLe A C :=
 ⟨fun c hc=>⟨(k.sub c (h.sub c hc).1).1,(k.sub c (h.sub c hc).1).2.trans (h.sub c hc).2⟩,k.os.trans h.os,k.tape.trans h.tape,k.output.trans h.output,Nat.le_trans h.size k.size⟩
theorem Fits.rebase {B':Base} (hb:BaseLe B B') (F:Fits P B' ι h W):Fits P B ι h W where
 obj:=F.obj
 fresh:=F.fresh
 apart:=F.apart
 free:=fun n o L h1 h2 h3 h4=>F.free n o L h1 h2 h3 (hb.sub _ h4).1
 frame:=fun b hb'=>let h1:=hb.sub b hb';⟨(F.frame b h1.1).1.trans h1.2,(F.frame b h1.1).2⟩
 os:=F.os.trans hb.os
 tape:=F.tape.trans hb.tape
 output:=F.output.trans hb.output
 size:=Nat.le_trans hb.size F.size
theorem Fits.grow {W':World} (F:Fits P B ι h W) (X:Nat→Prop) (hb:∀ b,b < W.heap.size→W'.heap[b]?=W.heap[b]?) (hX:∀ b,X b→W.heap.size≤b∧b < W'.heap.size)
   (ho:W'.os=W.os) (ht:W'.tape=W.tape) (hp:W'.output=W.output) (hs:W.heap.size≤W'.heap.size):Fits P ⟨fun c=>B.F c∨X c,W'⟩ ι h W' where
 obj:=fun n o hm=>let ⟨L,h1,h2⟩:=F.obj n o hm;⟨L,h1,objR_keep (Names.le_refl _) (hb _ (objR_blk h2)) h2⟩
 fresh:=F.fresh
 apart:=F.apart
 free:=fun n o L h1 h2 h3 h4=>by
   rcases h4 with h4 | h4
   · exact F.free n o L h1 h2 h3 h4
   · obtain ⟨L',g1,g2⟩:=F.obj n o h1
     rw [h3] at g1;cases g1
     have:=objR_blk g2
     have:=(hX _ h4).1
     omega
 frame:=fun b h4=>⟨rfl,by
   rcases h4 with h4 | h4
   · exact Nat.lt_of_lt_of_le (F.frame b h4).2 hs
   · exact (hX _ h4).2⟩
 os:=rfl
 tape:=rfl
 output:=rfl
 size:=Nat.le_refl _
theorem BaseLe.grow {W':World} (F:Fits P B ι h W) (X:Nat→Prop) (hb:∀ b,b < W.heap.size→W'.heap[b]?=W.heap[b]?)
   (ho:W'.os=W.os) (ht:W'.tape=W.tape) (hp:W'.output=W.output) (hs:W.heap.size≤W'.heap.size):BaseLe B ⟨fun c=>B.F c∨X c,W'⟩ where
 sub:=fun c hc=>⟨.inl hc,(hb c (F.frame c hc).2).trans (F.frame c hc).1⟩
 os:=ho.trans F.os
 tape:=ht.trans F.tape
 output:=hp.trans F.output
 size:=Nat.le_trans F.size hs
end Go.Ab
namespace Go.Ab
open Go Go.RowKit
variable {P:Program} {ι:Names} {W:World} {B:Base} {h:AH} {D:List AD}
theorem get_put (N:Nat) (d:Option Tmp) (v:V) (e:Env) (t:Nat):Env.get (Env.put N d v e) t=if d=some t∧t < N then v else Env.get e t:=by
 cases d with
 | none=>simp [Env.put]
 | some u =>
   simp only [Env.put,Option.some.injEq]
   by_cases hu:u < N
   · rw [if_pos hu]
     simp only [Env.get]
     by_cases ht:t=u
     · subst ht;simp [hu]
     · rw [if_neg ht,if_neg (by rintro ⟨h,_⟩;exact ht h.symm)]
   · rw [if_neg hu,if_neg (by rintro ⟨rfl,h⟩;exact hu h)]
theorem get_keep_mem (e:Env):∀ (l:List Nat) (t:Nat),t∈l→Env.get (Env.keep l e) t=Env.get e t
 | u :: l,t,ht=>by
   simp only [Env.keep,List.map_cons,Env.get]
   by_cases h:t=u
   · rw [if_pos h,h]
   · rw [if_neg h]
     exact get_keep_mem e l t (by rcases List.mem_cons.1 ht with h' | h';exact absurd h' h;exact h')
def envK (N:Nat) (ops:Array Oper) (vals:Nat→V) (e0:Env) (S:Nat→Bool):Nat→Env
 | 0=>e0
 | k + 1=>bif S k then Env.put N ((ops[k]?).bind (·.dst)) (vals k) (envK N ops vals e0 S k) else envK N ops vals e0 S k
section
variable {N:Nat} {ops:Array Oper} {vals:Nat→V} {e0:Env} {S S':Nat→Bool}
theorem envK_succ (k t:Nat):Env.get (envK N ops vals e0 S (k + 1)) t=if S k=true∧(ops[k]?).bind (·.dst)=some t∧t < N then vals k else Env.get (envK N ops vals e0 S k) t:=by
 simp only [envK]
 cases hS:S k with
 | false=>simp
 | true =>
   simp only [cond_true,true_and]
   rw [get_put]
theorem envK_same (t:Nat):∀ k,(∀ i,i < k→(ops[i]?).bind (·.dst)=some t→S i=S' i)→Env.get (envK N ops vals e0 S k) t=Env.get (envK N ops vals e0 S' k) t
 | 0,_=>rfl
 | k + 1,h=>by
   rw [envK_succ,envK_succ,envK_same t k fun i hi=>h i (by omega)]
   by_cases hd:(ops[k]?).bind (·.dst)=some t
   · rw [h k (by omega) hd]
   · rw [if_neg (by rintro ⟨_,h,_⟩;exact hd h),if_neg (by rintro ⟨_,h,_⟩;exact hd h)]
theorem envK_cut (t k:Nat):∀ n,(∀ i,k≤i→i < k + n→(ops[i]?).bind (·.dst)=some t→S i=false)→Env.get (envK N ops vals e0 S (k + n)) t=Env.get (envK N ops vals e0 S k) t
 | 0,_=>rfl
 | n + 1,h=>by
   rw [show k + (n + 1)=(k + n) + 1 from rfl,envK_succ]
   rw [if_neg (by rintro ⟨h1,h2,_⟩;have:=h (k + n) (by omega) (by omega) h2;rw [this] at h1;cases h1)]
   exact envK_cut t k n fun i h1 h2=>h i h1 (by omega)
def addS (S:Nat→Bool) (j:Nat):Nat→Bool:=fun i=>i == j || S i
theorem addS_self (S:Nat→Bool) (j:Nat):addS S j j=true:=by simp [addS]
theorem addS_ne (S:Nat→Bool) {j i:Nat} (h:i≠j):addS S j i=S i:=by simp [addS,h]
theorem envK_add {j:Nat} (hj:S j=false) (t:Nat):∀ n,j < n→(∀ i,j < i→i < n→S i=true→(ops[i]?).bind (·.dst)=(ops[j]?).bind (·.dst)→(ops[j]?).bind (·.dst)=none) →
   Env.get (envK N ops vals e0 (addS S j) n) t=Env.get (Env.put N ((ops[j]?).bind (·.dst)) (vals j) (envK N ops vals e0 S n)) t
 | 0,h,_=>by omega
 | n + 1,h,hi=>by
   rw [envK_succ,get_put,envK_succ]
   rcases Nat.lt_or_ge j n with hjn | hjn
   · rw [envK_add hj t n hjn fun i h1 h2=>hi i h1 (by omega),get_put,addS_ne S (show n≠j by omega)]
     by_cases hc:S n=true∧(ops[n]?).bind (·.dst)=some t∧t < N
     · rw [if_pos hc]
       by_cases hd:(ops[j]?).bind (·.dst)=some t∧t < N
       · have:=hi n hjn (by omega) hc.1 (by rw [hc.2.1,hd.1])
         rw [hd.1] at this;cases this
       · rw [if_neg hd,if_pos hc]
     · rw [if_neg hc,if_neg hc]
   · obtain rfl:j=n:=by omega
     rw [addS_self,hj]
     simp only [true_and,Bool.false_eq_true,false_and,if_false]
     split
     · rfl
     · exact envK_same t j fun i hi _=>addS_ne S (by omega)
def waitsB (oj:Oper) (i:Nat):Bool:=oj.after.any fun e=>Region.binds .any e && e.on == i
def pairsB (ops:Array Oper):Bool :=
 (List.range ops.size).all fun j=>(List.range j).all fun i=>match ops[i]?,ops[j]? with
   | some oi,some oj=>waitsB oj i || oi.apart ops oj
   | _,_=>true
def Closed (ops:Array Oper) (S:Nat→Bool):Prop:=∀ i o,ops[i]?=some o→S i=true→∀ e∈o.after,Region.binds .any e=true→S e.on=true
def Ready (ops:Array Oper) (S:Nat→Bool) (j:Nat):Prop:=S j=false∧∀ o,ops[j]?=some o→∀ e∈o.after,Region.binds .any e=true→S e.on=true
theorem Closed.add {j:Nat} (hc:Closed ops S) (hr:Ready ops S j):Closed ops (addS S j):=by
 intro i o ho hS e he hb
 by_cases hij:i=j
 · subst hij
   have:=hr.2 o ho e he hb
   simp [addS,this]
 · rw [addS_ne S hij] at hS
   have:=hc i o ho hS e he hb
   simp [addS,this]
theorem pairs_spec (hp:pairsB ops=true) {i j:Nat} {oi oj:Oper} (hij:i < j) (hi:ops[i]?=some oi) (hj:ops[j]?=some oj):waitsB oj i=true∨oi.apart ops oj=true:=by
 have hjs:j < ops.size:=(Array.getElem?_eq_some_iff.1 hj).1
 have h1:=List.all_eq_true.1 hp j (List.mem_range.2 hjs)
 have h2:=List.all_eq_true.1 h1 i (List.mem_range.2 hij)
 rw [hi,hj] at h2
 simpa using h2
theorem waits_on {o:Oper} {i:Nat} (h:waitsB o i=true):∃ e∈o.after,Region.binds .any e=true∧e.on=i:=by
 unfold waitsB at h
 rw [Array.any_eq_true'] at h
 obtain ⟨e,he,h2⟩:=h
 simp only [Bool.and_eq_true,beq_iff_eq] at h2
 exact ⟨e,he,h2⟩
theorem done_before (hp:pairsB ops=true) {i j:Nat} {oi oj:Oper} (hr:Ready ops S j) (hij:i < j) (hi:ops[i]?=some oi) (hj:ops[j]?=some oj) (ha:oi.apart ops oj=false):S i=true:=by
 rcases pairs_spec hp hij hi hj with h | h
 · obtain ⟨e,he,hb,rfl⟩:=waits_on h
   exact hr.2 oj hj e he hb
 · rw [ha] at h;cases h
theorem not_after (hp:pairsB ops=true) {i j:Nat} {oi oj:Oper} (hc:Closed ops S) (hr:S j=false) (hij:j < i) (hi:ops[i]?=some oi) (hj:ops[j]?=some oj) (ha:oj.apart ops oi=false):S i=false:=by
 rcases pairs_spec hp hij hj hi with h | h
 · obtain ⟨e,he,hb,hon⟩:=waits_on h
   cases hS:S i with
   | false=>rfl
   | true =>
     have:=hc i oi hi hS e he hb
     rw [hon,hr] at this;cases this
 · rw [ha] at h;cases h
theorem not_apart_reads {x y:Oper} {d:Tmp} (hx:x.dst=some d) (hy:d∈y.looksAt ops):x.apart ops y=false:=by
 cases h:x.apart ops y with
 | false=>rfl
 | true=>exact absurd hy ((Oper.apart_spec h).1 d hx)
theorem not_apart_writes {x y:Oper} {d:Tmp} (hy:y.dst=some d) (hx:d∈x.looksAt ops):x.apart ops y=false:=by
 cases h:x.apart ops y with
 | false=>rfl
 | true=>exact absurd hx ((Oper.apart_spec h).2.2 d hy)
theorem not_apart_same {x y:Oper} {d:Tmp} (hx:x.dst=some d) (hy:y.dst=some d):x.apart ops y=false:=by
 cases h:x.apart ops y with
 | false=>rfl
 | true=>exact absurd hy ((Oper.apart_spec h).2.1 d hx)
theorem dst_at {i:Nat} {d:Tmp} (h:(ops[i]?).bind (·.dst)=some d):∃ o,ops[i]?=some o∧o.dst=some d:=by
 cases ho:ops[i]? with
 | none=>rw [ho] at h;cases h
 | some o=>rw [ho] at h;exact ⟨o,rfl,h⟩
theorem envK_looks (hp:pairsB ops=true) (hc:Closed ops S) {j:Nat} {o:Oper} (hr:Ready ops S j) (ho:ops[j]?=some o) {t:Tmp} (ht:t∈o.looksAt ops) :
   Env.get (envK N ops vals e0 S ops.size) t=Env.get (envK N ops vals e0 (fun _=>true) j) t:=by
 have hjs:j < ops.size:=(Array.getElem?_eq_some_iff.1 ho).1
 have h1:=envK_cut (N:=N) (ops:=ops) (vals:=vals) (e0:=e0) (S:=S) t j (ops.size - j) (by
   intro i h1 h2 hd
   obtain ⟨oi,hi,hdi⟩:=dst_at hd
   rcases Nat.lt_or_ge j i with hlt | hge
   · exact not_after hp hc hr.1 hlt hi ho (not_apart_writes hdi ht)
   · obtain rfl:i=j:=by omega
     exact hr.1)
 rw [show j + (ops.size - j)=ops.size by omega] at h1
 rw [h1]
 exact envK_same t j fun i hi hd=>by
   obtain ⟨oi,hi',hdi⟩:=dst_at hd
   exact done_before hp hr hi hi' ho (not_apart_reads hdi ht)
end
end Go.Ab
namespace Go.Ab
open Go Go.RowKit
variable {P:Program} {ι:Names} {W:World} {B:Base} {h:AH} {D:List AD}
def isInt:V→Bool
 | .int _ _=>true
 | _=>false
def litPair (N:Nat) (o o2:Oper):Option (Tmp × TypeId × TypeId) :=
 match o.dst,o.op,o.guard,o2.op,o2.guard with
 | some d,.buildSlice _ _ _,none,.convert s dd (.tmp d'),none=>if d=d'∧d < N then some (d,s,dd) else none
 | _,_,_,_,_=>none
def litAt (N:Nat) (ops:Array Oper) (i:Nat):Option (Tmp × TypeId × TypeId) :=
 match ops[i]?,ops[i + 1]? with
 | some o,some o2=>litPair N o o2
 | _,_=>none
def AH0:AH:=⟨0,fun _=>none⟩
def want (ops:Array Oper) (e:Env) (o:Oper):Option Bool :=
 match o.guard with
 | none=>some true
 | some (j,w)=>match (ops[j]?).bind (·.dst) with
   | some d=>match e.get d with
     | .bool b=>some (decide (b=w))
     | .tup []=>some false
     | _=>none
   | none=>none
section
variable {N:Nat} {ops:Array Oper} {vals:Nat→V} {e0:Env} {S:Nat→Bool} {mem:(Nat→Bool)→AH}
def Below (e e':Env):Prop:=∀ t,Env.get e t=.und∨Env.get e t=Env.get e' t
def deferV (e:Env) (c:Call):Option AD :=
 match c.callee with
 | .value f=>match opnd e f with
   | .fn (.func k) first cap=>some (k,first++(c.args.toList.map (opnd e)++cap))
   | _=>none
 | _=>none
inductive OpLex (P:Program) (N:Nat) (ops:Array Oper) (vals:Nat→V) (mem:(Nat→Bool)→AH) (D:(Nat→Bool)→List AD) (e0:Env) (j:Nat):Prop where
 | ord (hA:litAt N ops j=none) (hB:∀ i,j=i + 1→litAt N ops i=none) (e:Env) (he:Below e (envK N ops vals e0 (fun _=>true) j)) (o:Oper) (ho:ops[j]?=some o)
     (hw:want ops e o=some true) (hy:∀ S,Closed ops S→Ready ops S j→yields P o.op e (mem S) (mem (addS S j)) (vals j)) (hD:∀ S,Closed ops S→Ready ops S j→D (addS S j)=D S)
 | off (hA:litAt N ops j=none) (hB:∀ i,j=i + 1→litAt N ops i=none) (e:Env) (he:Below e (envK N ops vals e0 (fun _=>true) j)) (o:Oper) (ho:ops[j]?=some o)
     (hw:want ops e o=some false) (hm:∀ S,Closed ops S→Ready ops S j→mem (addS S j)=mem S) (hv:vals j=hole) (hD:∀ S,Closed ops S→Ready ops S j→D (addS S j)=D S)
 | litA (d:Tmp) (s dd:TypeId) (hA:litAt N ops j=some (d,s,dd)) (e:Env) (he:Below e (envK N ops vals e0 (fun _=>true) j)) (o:Oper) (ho:ops[j]?=some o)
     (t:TypeId) (n:Nat) (ps:Array (Nat × Operand)) (hop:o.op=.buildSlice t n ps) (hf:((ps.toList.map fun p=>(p.1,opnd e p.2)).all fun p=>isInt p.2)=true) (v1:V) (h1:AH)
     (hb:aBuildSlice P AH0 t n (ps.toList.map fun p=>(p.1,opnd e p.2))=some (v1,h1)) (str:List UInt8) (hc:aConv P h1 s dd v1=some (.str str)) (hv:vals j=.und) (hv2:vals (j + 1)=.str str)
     (hm:∀ S,Closed ops S→Ready ops S j→mem (addS S j)=mem S) (hD:∀ S,Closed ops S→Ready ops S j→D (addS S j)=D S)
 | litB (i:Nat) (hi:j=i + 1) (hA:litAt N ops i≠none) (hm:∀ S,Closed ops S→Ready ops S j→mem (addS S j)=mem S) (hD:∀ S,Closed ops S→Ready ops S j→D (addS S j)=D S)
 | dfr (hA:litAt N ops j=none) (hB:∀ i,j=i + 1→litAt N ops i=none) (e:Env) (he:Below e (envK N ops vals e0 (fun _=>true) j)) (o:Oper) (ho:ops[j]?=some o)
     (hw:want ops e o=some true) (c:Call) (hop:o.op=.defer c) (ad:AD) (hdf:deferV e c=some ad) (hm:∀ S,Closed ops S→Ready ops S j→mem (addS S j)=mem S) (hv:vals j=hole)
     (hD:∀ S,Closed ops S→Ready ops S j→D (addS S j)=ad :: D S)
def LitInv (P:Program) (vals:Nat→V) (B':Base) (a:Act) (i:Nat) (d:Tmp) (s dd:TypeId):Prop :=
 ∃ ι1 h1 v1 Wl str,Fits P ⟨fun _=>False,Wl⟩ ι1 h1 Wl∧rel P ι1 v1 (a.tmps.getD d undef) ∧
   (∀ n o L,h1.m n=some o→ι1 n=some L→B'.F L.blk∧Wl.heap[L.blk]?=B'.W0.heap[L.blk]?)∧aConv P h1 s dd v1=some (.str str)∧vals (i + 1)=.str str
structure Good (P:Program) (B:Base) (ι0:Names) (N:Nat) (D:(Nat→Bool)→List AD) (ops:Array Oper) (vals:Nat→V) (mem:(Nat→Bool)→AH) (e0:Env) (S:Nat→Bool) (a:Act) (W:World):Prop where
 ex:∃ ι B',Names.le ι0 ι∧BaseLe B B'∧Fits P B' ι (mem S) W∧relE P ι N (D S) (envK N ops vals e0 S ops.size) a ∧
   ∀ i d s dd,litAt N ops i=some (d,s,dd)→S i=true→S (i + 1)=false→LitInv P vals B' a i d s dd
theorem litAt_spec {i:Nat} {d:Tmp} {s dd:TypeId} (h:litAt N ops i=some (d,s,dd)) :
   ∃ o o2 t n ps,ops[i]?=some o∧ops[i + 1]?=some o2∧o.dst=some d∧o.op=.buildSlice t n ps∧o.guard=none∧o2.op=.convert s dd (.tmp d)∧o2.guard=none∧d < N:=by
 unfold litAt at h
 split at h
 · rename_i o o2 ho ho2
   unfold litPair at h
   split at h
   · rename_i d1 t n ps s1 dd1 d2 h1 h2 h3 h4 h5
     split at h
     · rename_i hd
       cases h
       obtain ⟨rfl,hd⟩:=hd
       exact ⟨o,o2,t,n,ps,ho,ho2,h1,h2,h3,h4,h5,hd⟩
     · cases h
   · cases h
 · cases h
theorem lit_slot (hp:pairsB ops=true) (hc:Closed ops S) {i j:Nat} {d:Tmp} {s dd:TypeId} (hl:litAt N ops i=some (d,s,dd)) (hi:S i=true) (hi1:S (i + 1)=false)
   {o:Oper} (hr:Ready ops S j) (ho:ops[j]?=some o) (hne:j≠i + 1):o.dst≠some d:=by
 intro hd
 obtain ⟨oi,o2,t,n,ps,k1,k2,k3,k4,k5,k6,k7,k8⟩:=litAt_spec hl
 have hji:j≠i:=by rintro rfl;rw [hr.1] at hi;cases hi
 have hlook:d∈o2.looksAt ops:=by
   unfold Oper.looksAt
   rw [k6]
   simp [Op.operands]
 rcases Nat.lt_or_ge j i with hlt | hge
 · have:=not_after hp hc hr.1 hlt k1 ho (not_apart_same hd k3)
   rw [this] at hi;cases hi
 · have hlt:i + 1 < j:=by omega
   have:=done_before hp hr hlt k2 ho (not_apart_writes hd hlook)
   rw [hi1] at this;cases this
theorem getD_put_ne {a:Act} {o:Oper} {d:Tmp} (hd:o.dst≠some d) (x:Value):(a.put o.dst x).tmps.getD d undef=a.tmps.getD d undef:=by
 cases ho:o.dst with
 | none=>rfl
 | some t =>
   have:t≠d:=fun e=>hd (by rw [ho,e])
   simp only [Act.put,Array.getD_eq_getD_getElem?]
   rw [Array.getElem?_setIfInBounds_ne this]
theorem relE_of {e e':Env} {a:Act} (r:relE P ι N D e a) (h:∀ t,Env.get e' t=.und∨Env.get e' t=Env.get e t):relE P ι N D e' a :=
 ⟨r.1,r.2.1,fun t=>by rcases h t with k | k;rw [k];exact .inl rfl;rw [k];exact r.2.2 t⟩
theorem relE_add (hp:pairsB ops=true) (hc:Closed ops S) {j:Nat} {o:Oper} (hr:Ready ops S j) (ho:ops[j]?=some o) {a:Act} (r:relE P ι N D (envK N ops vals e0 S ops.size) a) {x:Value} (hx:rel P ι (vals j) x) :
   relE P ι N D (envK N ops vals e0 (addS S j) ops.size) (a.put o.dst x):=by
 have hjs:j < ops.size:=(Array.getElem?_eq_some_iff.1 ho).1
 have hdst:(ops[j]?).bind (·.dst)=o.dst:=by rw [ho];rfl
 refine relE_of (relE_put (d:=o.dst) (v:=vals j) r hx) fun t=>.inr ?_
 rw [envK_add hr.1 t ops.size hjs ?_,hdst]
 intro i h1 h2 h3 h4
 cases hd:o.dst with
 | none=>rw [hdst,hd]
 | some d =>
   rw [hdst,hd] at h4
   obtain ⟨oi,hi,hdi⟩:=dst_at h4
   have:=not_after hp hc hr.1 h1 hi ho (not_apart_same hd hdi)
   rw [this] at h3;cases h3
theorem want_spec {e:Env} {a:Act} {o:Oper} {b:Bool} (r:relE P ι N D e a) (hw:want ops e o=some b):Region.wanted o (yielded ops a.tmps)=b:=by
 unfold want at hw
 unfold Region.wanted
 split at hw
 · rename_i hg;rw [hg];simpa using hw
 · rename_i j w hg
   rw [hg]
   simp only
   split at hw
   · rename_i d hd
     have hr:=r.2.2 d
     split at hw
     · rename_i c hc
       rw [hc] at hr
       rw [yielded_bool hd hr]
       simp only [Option.some.injEq] at hw
       rw [← hw]
       cases c <;> cases w <;> rfl
     · rename_i hc
       rw [hc] at hr
       rw [yielded_hole hd hr]
       simp only [Option.some.injEq] at hw
       rw [← hw];rfl
     · cases hw
   · cases hw
theorem want_keep {e:Env} {o:Oper}:want ops (Env.keep (o.looksAt ops) e) o=want ops e o:=by
 unfold want
 cases hg:o.guard with
 | none=>rfl
 | some g =>
   obtain ⟨j,w⟩:=g
   simp only
   cases hd:(ops[j]?).bind (·.dst) with
   | none=>rfl
   | some d =>
     simp only
     rw [get_keep_mem]
     unfold Oper.looksAt
     rw [hg]
     simp [hd]
theorem opnd_keep {e:Env} {o:Oper} (x:Operand) (hx:x∈o.op.operands):opnd (Env.keep (o.looksAt ops) e) x=opnd e x:=by
 cases x with
 | tmp t =>
   simp only [opnd]
   apply get_keep_mem
   unfold Oper.looksAt
   refine List.mem_append_left _ (List.mem_filterMap.2 ⟨.tmp t,by simpa using hx,rfl⟩)
 | _=>rfl
theorem relE_looks (hp:pairsB ops=true) (hc:Closed ops S) {j:Nat} {o:Oper} (hr:Ready ops S j) (ho:ops[j]?=some o) {a:Act} (r:relE P ι N D (envK N ops vals e0 S ops.size) a) {e:Env} (he:Below e (envK N ops vals e0 (fun _=>true) j)) :
   relE P ι N D (Env.keep (o.looksAt ops) e) a:=by
 refine relE_of r fun t=>?_
 by_cases ht:t∈o.looksAt ops
 · rw [get_keep_mem _ _ _ ht,envK_looks hp hc hr ho ht]
   exact he t
 · left
   have:∀ l:List Nat,t ∉ l→Env.get (Env.keep l e) t=.und:=by
     intro l
     induction l with
     | nil=>intro _;rfl
     | cons u l ih =>
       intro hu
       simp only [Env.keep,List.map_cons,Env.get]
       rw [if_neg (by rintro rfl;exact hu (by simp))]
       exact ih fun h=>hu (by simp [h])
   exact this _ ht
end
theorem deferV_keep {ops:Array Oper} {e:Env} {o:Oper} {c:Call} (hop:o.op=.defer c):deferV (Env.keep (o.looksAt ops) e) c=deferV e c:=by
 have hk:∀ x∈c.operands,opnd (Env.keep (o.looksAt ops) e) x=opnd e x:=fun x hx=>opnd_keep x (by rw [hop];simpa [Op.operands] using hx)
 unfold deferV
 obtain ⟨callee,args,ts⟩:=c
 cases callee <;> try rfl
 rename_i f
 simp only
 rw [hk f (by simp [Call.operands]),List.map_congr_left (l:=args.toList) fun x h=>hk x (by simp [Call.operands,Array.mem_toList_iff.1 h])]
theorem defer_run {N:Nat} {D:List AD} {e:Env} {a:Act} (r:relE P ι N D e a) {o:Oper} {c:Call} (hop:o.op=.defer c) {ad:AD} (hd:deferV e c=some ad) :
   ∃ d,(execOp a.eval o).run P W=.ok (.defer d) W∧relE P ι N (ad :: D) e { a with defers:=d :: a.defers }:=by
 obtain ⟨dst,op,type,pos,after,guard⟩:=o
 simp only at hop
 subst hop
 unfold deferV at hd
 split at hd
 · rename_i f hc
   split at hd
   · rename_i k first cap hf
     cases hd
     have hρ:=rel_opnd r f
     rw [hf] at hρ
     obtain ⟨fa,fb,hf1,hf2,hf3⟩:=rel_fn hρ
     have hargs:=relL_map (rel_opnd r) c.args.toList
     refine ⟨{ target:=.fn (.func k) fb.toArray,args:=fa.toArray++c.args.map a.eval },?_,r.1,⟨_,_,rfl,.inl ⟨fb.toArray,rfl,?_⟩,r.2.1⟩,r.2.2⟩
     · obtain ⟨callee,args,ts⟩:=c
       simp only at hc
       subst hc
       simp only [execOp,resolve,hf1,Deferred.ofValue,Sem.run_bind,Sem.run_pure,Result.andThen_ok]
     · have:=relL_append hf2 (relL_append hargs hf3)
       have e:(fa.toArray++c.args.map a.eval++fb.toArray).toList=fa++(c.args.toList.map a.eval++fb):=by simp
       simp only
       rw [e];exact this
   · cases hd
 · cases hd
end Go.Ab
namespace Go.Ab
open Go Go.RowKit
variable {P:Program} {ι:Names} {W:World} {B:Base} {h:AH} {D:(Nat→Bool)→List AD}
variable {N:Nat} {ops:Array Oper} {vals:Nat→V} {e0:Env} {S:Nat→Bool} {mem:(Nat→Bool)→AH} {ι0:Names}
theorem aBuildSlice_slc {h h1:AH} {t:TypeId} {n:Nat} {ps:List (Nat × V)} {v:V} (hb:aBuildSlice P h t n ps=some (v,h1)):(∃ a,v=.slc (some a) n)∧∃ e l,h1=h.make (.cells true (.row e) (.agg l)):=by
 unfold aBuildSlice at hb
 split at hb
 · split at hb
   · split at hb
     · split at hb
       · cases hb;exact ⟨⟨_,rfl⟩,⟨_,_,rfl⟩⟩
       · cases hb
     · cases hb
   · cases hb
 · cases hb
theorem lit_kept {B' B'':Base} {a a':Act} {i:Nat} {d:Tmp} {s dd:TypeId} (hl:LitInv P vals B' a i d s dd) (ht:a'.tmps.getD d undef=a.tmps.getD d undef)
   (hb:∀ c,B'.F c→B''.F c∧B''.W0.heap[c]?=B'.W0.heap[c]?):LitInv P vals B'' a' i d s dd:=by
 obtain ⟨ι1,h1,v1,Wl,str,k1,k2,k3,k4,k5⟩:=hl
 refine ⟨ι1,h1,v1,Wl,str,k1,by rw [ht];exact k2,?_,k4,k5⟩
 intro n o L hm hL
 obtain ⟨g1,g2⟩:=k3 n o L hm hL
 exact ⟨(hb _ g1).1,g2.trans (hb _ g1).2.symm⟩
theorem good_step (K:Ok P) (hp:pairsB ops=true) {j:Nat} (hlex:OpLex P N ops vals mem D e0 j) (hc:Closed ops S) (hr:Ready ops S j) {a:Act} {W:World} (g:Good P B ι0 N D ops vals mem e0 S a W) (Q:Exit→Act→World→Prop) :
   wpOp P ops Q j (Good P B ι0 N D ops vals mem e0 (addS S j)) a W:=by
 obtain ⟨ι,B',hle,hB,F,r,hl⟩:=g.ex
 -- the other slices keep their state,where the base grows and their slots stay
 have keep:∀ {B'':Base} {o:Oper} {x:Value},ops[j]?=some o→(∀ c,B'.F c→B''.F c∧B''.W0.heap[c]?=B'.W0.heap[c]?) →
     ∀ i d s dd,litAt N ops i=some (d,s,dd)→i≠j→addS S j i=true→addS S j (i + 1)=false→LitInv P vals B'' (a.put o.dst x) i d s dd:=by
   intro B'' o x ho hb i d s dd hli hij h1 h2
   rw [addS_ne S hij] at h1
   have hi1:i + 1≠j:=by rintro rfl;rw [addS_self] at h2;cases h2
   rw [addS_ne S hi1] at h2
   exact lit_kept (hl i d s dd hli h1 h2) (getD_put_ne (lit_slot hp hc hli h1 h2 hr ho (fun e=>hi1 e.symm)) x) hb
 cases hlex with
 | ord hA hB' e he o ho hw hy hD =>
   have re:=relE_looks hp hc hr ho r he
   have hwant:=want_spec re (want_keep.trans hw)
   unfold wpOp
   rw [ho]
   simp only
   rw [if_pos (by simp [hwant])]
   left
   have y:=yields_congr (fun x hx=>(opnd_keep (ops:=ops) x hx).symm) (hy S hc hr)
   refine wp_upto (Q:=Post P B' ι N (D S) fun _ _ _=>False) (fun x a w p=>by obtain ⟨_,_,_,_,_,_,_,_,f⟩:=p;exact f.elim) (vcOp_ok K F re (yields_vcOp y) ?_)
   rintro ι' h' v x w' g1 g2 g3 ⟨rfl,rfl⟩
   refine ⟨ι',B',Names.le_trans hle g1,hB,g2,by rw [hD S hc hr];exact relE_add hp hc hr ho (relE_le g1 r) g3,?_⟩
   intro i d s dd hli h1 h2
   by_cases hij:i=j
   · subst hij;rw [hA] at hli;cases hli
   · exact keep ho (fun c hc=>⟨hc,rfl⟩) i d s dd hli hij h1 h2
 | off hA hB' e he o ho hw hm hv hD =>
   have re:=relE_looks hp hc hr ho r he
   have hwant:=want_spec re (want_keep.trans hw)
   unfold wpOp
   rw [ho]
   simp only
   rw [if_neg (by simp [hwant])]
   refine ⟨ι,B',hle,hB,by rw [hm S hc hr];exact F,by rw [hD S hc hr];exact relE_add hp hc hr ho r (by rw [hv];exact rel_hole),?_⟩
   intro i d s dd hli h1 h2
   by_cases hij:i=j
   · subst hij;rw [hA] at hli;cases hli
   · exact keep ho (fun c hc=>⟨hc,rfl⟩) i d s dd hli hij h1 h2
 | litA d s dd hA e he o ho t n ps hop hf v1 h1 hb str hcv hv hv2 hm hD =>
   obtain ⟨o',o2,t',n',ps',k1,k2,k3,k4,k5,k6,k7,k8⟩:=litAt_spec hA
   rw [ho] at k1;cases k1
   have re:=relE_looks hp hc hr ho r he
   unfold wpOp
   rw [ho]
   simp only
   rw [if_pos (by simp [Region.wanted,k5])]
   left
   -- its operation,over no memory
   let ρ:Operand→V:=fun x=>if isInt (opnd (Env.keep (o.looksAt ops) e) x) then opnd (Env.keep (o.looksAt ops) e) x else .und
   have hρ:∀ x,rel P (fun _=>none) (ρ x) (a.eval x):=by
     intro x
     have:=rel_opnd re x
     show rel P _ (if _ then _ else _) _
     split
     · rename_i hi
       generalize opnd (Env.keep (o.looksAt ops) e) x=v at *
       cases v <;> first | (simp [isInt] at hi;done) | skip
       rw [rel_int this];exact mk_int _ _
     · exact .inl rfl
   have F0:Fits P ⟨fun b=>b < W.heap.size,W⟩ (fun _=>none) AH0 W :=
     ⟨fun n o hm=>by simp [AH0] at hm,fun _ _=>rfl,fun n n' o o' L L' hm=>by simp [AH0] at hm,fun n o L hm=>by simp [AH0] at hm,fun b hb=>⟨rfl,hb⟩,rfl,rfl,rfl,Nat.le_refl _⟩
   have hl0:aop P ρ AH0 o.op=some (v1,h1):=by
     rw [hop]
     simp only [aop]
     rw [← hb]
     congr 1
     apply List.map_congr_left
     intro p hp'
     have hin:opnd (Env.keep (o.looksAt ops) e) p.2=opnd e p.2:=opnd_keep (ops:=ops) p.2 (by
       have hq:p.2∈ps.map (·.2):=Array.mem_map.2 ⟨p,Array.mem_toList_iff.1 hp',rfl⟩
       rw [hop];simpa [Op.operands] using hq)
     have hi:isInt (opnd e p.2)=true:=by
       have:=List.all_eq_true.1 hf (p.1,opnd e p.2) (List.mem_map.2 ⟨p,hp',rfl⟩)
       exact this
     show (p.1,if _ then _ else _)=_
     rw [hin,if_pos hi]
   obtain ⟨ι1,W',nx,g1,g2,g3,g4⟩:=aop_ok (o:=o) K F0 hρ hl0
   obtain ⟨⟨a1,rfl⟩,e1,l1,hh1⟩:=aBuildSlice_slc hb
   rcases g4 with ⟨y,rfl,hy⟩ | ⟨_,hbad⟩
   · unfold Oper.wp
     rw [g1]
     show Good P B ι0 N D ops vals mem e0 (addS S j) (a.put o.dst y) W'
     have hold:∀ b,b < W.heap.size→W'.heap[b]?=W.heap[b]?:=fun b hb=>(g3.frame b hb).1
     let X:Nat→Prop:=fun c=>∃ n o L,h1.m n=some o∧ι1 n=some L∧c=L.blk
     have hX:∀ c,X c→W.heap.size≤c∧c < W'.heap.size:=by
       rintro c ⟨n1,o1,L1,m1,m2,rfl⟩
       obtain ⟨L2,q1,q2⟩:=g3.obj n1 o1 m1
       rw [m2] at q1;cases q1
       refine ⟨?_,objR_blk q2⟩
       have hown:o1.isOwn=true:=by
         rw [hh1] at m1
         simp only [AH.make] at m1
         by_cases hn:n1=AH0.next
         · rw [if_pos hn] at m1;cases m1;rfl
         · rw [if_neg hn] at m1;simp [AH0] at m1
       have:=g3.free n1 o1 L1 m1 hown m2
       exact Nat.le_of_not_lt this
     have F2:=F.grow X hold hX g3.os g3.tape g3.output g3.size
     have hB2:=BaseLe.grow F X hold g3.os g3.tape g3.output g3.size
     refine ⟨ι,_,hle,hB.trans hB2,by rw [hm S hc hr];exact F2,by rw [hD S hc hr];exact relE_add hp hc hr ho r (by rw [hv];exact .inl rfl),?_⟩
     intro i d' s' dd' hli q1 q2
     by_cases hij:i=j
     · subst hij
       rw [hA] at hli;cases hli
       refine ⟨ι1,h1,_,W',str,⟨g3.obj,g3.fresh,g3.apart,fun _ _ _ _ _ _ h=>h,fun _ h=>h.elim,rfl,rfl,rfl,Nat.le_refl _⟩,?_,?_,hcv,hv2⟩
       · have:(a.put o.dst y).tmps.getD d undef=y:=by
           rw [k3]
           simp [Act.put,Array.getD_eq_getD_getElem?,r.1,k8]
         rw [this];exact hy
       · intro n1 o1 L1 m1 m2
         exact ⟨.inr ⟨n1,o1,L1,m1,m2,rfl⟩,rfl⟩
     · refine keep ho ?_ i d' s' dd' hli hij q1 q2
       exact hB2.sub
   · cases hbad
 | dfr hA hBl e he o ho hw c hop ad hdf hm hv hD =>
   have re:=relE_looks hp hc hr ho r he
   have hwant:=want_spec re (want_keep.trans hw)
   unfold wpOp
   rw [ho]
   simp only
   rw [if_pos (by simp [hwant])]
   left
   obtain ⟨d,d1,d2⟩:=defer_run (W:=W) re hop (by rw [deferV_keep hop];exact hdf)
   unfold Oper.wp
   rw [d1]
   show Good P B ι0 N D ops vals mem e0 (addS S j) ({ a with defers:=d :: a.defers }.put o.dst undef) W
   have r2:relE P ι N (ad :: D S) (envK N ops vals e0 S ops.size) { a with defers:=d :: a.defers }:=⟨r.1,d2.2.1,r.2.2⟩
   refine ⟨ι,B',hle,hB,by rw [hm S hc hr];exact F,by rw [hD S hc hr];exact relE_add hp hc hr ho r2 (by rw [hv];exact rel_hole),?_⟩
   intro i d' s dd hli h1 h2
   by_cases hij:i=j
   · subst hij;rw [hA] at hli;cases hli
   · exact lit_kept (keep (x:=undef) ho (fun c hc=>⟨hc,rfl⟩) i d' s dd hli hij h1 h2) (by cases o.dst <;> rfl) fun c hc=>⟨hc,rfl⟩
 | litB i hi hA hm hD =>
   subst hi
   cases hli:litAt N ops i with
   | none=>exact absurd hli hA
   | some q =>
     obtain ⟨d,s,dd⟩:=q
     obtain ⟨o,o2,t,n,ps,k1,k2,k3,k4,k5,k6,k7,k8⟩:=litAt_spec hli
     have hlook:d∈o2.looksAt ops:=by
       unfold Oper.looksAt
       rw [k6]
       simp [Op.operands]
     have hSi:=done_before hp hr (Nat.lt_succ_self i) k1 k2 (not_apart_reads k3 hlook)
     obtain ⟨ι1,h1,v1,Wl,str,f1,f2,f3,f4,f5⟩:=hl i d s dd hli hSi hr.1
     unfold wpOp
     rw [k2]
     simp only
     rw [if_pos (by simp [Region.wanted,k7])]
     left
     have F1:Fits P ⟨fun _=>False,W⟩ ι1 h1 W:=by
       refine ⟨fun n1 o1 m1=>?_,f1.fresh,f1.apart,fun _ _ _ _ _ _ h=>h,fun _ h=>h.elim,rfl,rfl,rfl,Nat.le_refl _⟩
       obtain ⟨L1,q1,q2⟩:=f1.obj n1 o1 m1
       obtain ⟨q3,q4⟩:=f3 n1 o1 L1 m1 q1
       exact ⟨L1,q1,objR_keep (Names.le_refl _) ((F.frame _ q3).1.trans q4.symm) q2⟩
     obtain ⟨z,z1,z2⟩:=aConv_ok K F1 f4 f2
     have hz:=rel_str z2
     unfold Oper.wp
     have hrun:(execOp a.eval o2).run P W=.ok (.value z) W:=by
       obtain ⟨dst,op,type,pos,after,guard⟩:=o2
       simp only at k6
       subst k6
       simp only [execOp]
       have:a.eval (.tmp d)=a.tmps.getD d undef:=by simp [Act.eval,Array.getD_eq_getD_getElem?]
       rw [this]
       simp only [Sem.run_bind,z1,Sem.run_pure,Result.andThen_ok]
     rw [hrun]
     show Good P B ι0 N D ops vals mem e0 (addS S (i + 1)) (a.put o2.dst z) W
     refine ⟨ι,B',hle,hB,by rw [hm S hc hr];exact F,by rw [hD S hc hr];exact relE_add hp hc hr k2 r (by rw [f5,hz];exact mk_str _),?_⟩
     intro i' d' s' dd' hli' q1 q2
     by_cases hij:i'=i + 1
     · subst hij
       obtain ⟨o3,o4,t',n',ps',m1,m2,m3,m4,m5,m6,m7,m8⟩:=litAt_spec hli'
       rw [k2] at m1;cases m1
       rw [k6] at m4;cases m4
     · exact keep k2 (fun c hc=>⟨hc,rfl⟩) i' d' s' dd' hli' hij q1 q2
def backB (ops:Array Oper):Bool :=
 (List.range ops.size).all fun j=>match ops[j]? with
   | some o=>o.after.all fun e=>!Region.binds .any e || decide (e.on < j)
   | none=>true
def setOf (listed:Array Bool):Nat→Bool:=fun i=>listed.getD i false
def left (n:Nat) (listed:Array Bool):Nat:=(List.range n).countP fun i=>!listed.getD i false
theorem setOf_set {listed:Array Bool} {j:Nat} (hj:j < listed.size):setOf (listed.setIfInBounds j true)=addS (setOf listed) j:=by
 funext i
 unfold setOf addS
 by_cases hij:i=j
 · subst hij
   simp [hj]
 · rw [getD_set_ne false (fun h=>hij h.symm)]
   simp [hij]
theorem ready_of {listed:Array Bool} {j:Nat} (hs:listed.size=ops.size) (h:j∈Region.ready .any ops listed):j < ops.size∧Ready ops (setOf listed) j:=by
 rw [mem_ready] at h
 obtain ⟨h1,o,ho,h2⟩:=h
 have hjs:j < ops.size:=(Array.getElem?_eq_some_iff.1 ho).1
 refine ⟨hjs,?_,?_⟩
 · unfold setOf
   have:j < listed.size:=by omega
   simpa [this] using h1
 · intro o' ho' e he hb
   rw [ho] at ho';cases ho'
   exact h2 e he hb
theorem all_listed (hbk:backB ops=true) {listed:Array Bool} (hs:listed.size=ops.size) (h:Region.ready .any ops listed=[]):∀ i,i < ops.size→setOf listed i=true:=by
 intro i
 induction i using Nat.strongRecOn with
 | _ i ih =>
   intro hi
   cases hS:setOf listed i with
   | true=>rfl
   | false =>
     exfalso
     have:i∈Region.ready .any ops listed:=by
       rw [mem_ready]
       have hil:i < listed.size:=by omega
       refine ⟨by unfold setOf at hS;simpa [hil] using hS,ops[i],by simp [hi],?_⟩
       intro e he hb
       have h1:=List.all_eq_true.1 hbk i (List.mem_range.2 hi)
       have hoi:ops[i]?=some ops[i]:=by simp [hi]
       rw [hoi] at h1
       simp only at h1
       rw [Array.all_eq_true'] at h1
       have h2:=h1 e he
       simp only [hb,Bool.not_true,Bool.false_or,decide_eq_true_eq] at h2
       exact ih e.on h2 (by omega)
     rw [h] at this;cases this
theorem countP_lt {p q:Nat→Bool} {l:List Nat} (h:∀ i,p i=true→q i=true) {j:Nat} (hj:j∈l) (h1:q j=true) (h2:p j=false):l.countP p < l.countP q:=by
 induction l with
 | nil=>cases hj
 | cons x l ih =>
   have hle:l.countP p≤l.countP q:=List.countP_mono_left fun i _=>h i
   rcases List.mem_cons.1 hj with rfl | hj
   · rw [List.countP_cons,List.countP_cons,h1,h2]
     simp;omega
   · have:=ih hj
     rw [List.countP_cons,List.countP_cons]
     cases hpx:p x with
     | false=>simp;split <;> omega
     | true=>rw [h x hpx];simp;omega
theorem left_set {listed:Array Bool} {j n:Nat} (hn:listed.size=n) (hj:j < n) (hS:setOf listed j=false):left n (listed.setIfInBounds j true) < left n listed:=by
 unfold left
 refine countP_lt (j:=j) ?_ (List.mem_range.2 hj) ?_ ?_
 · intro i hi
   by_cases hij:i=j
   · subst hij;unfold setOf at hS;simp only [hS];rfl
   · rw [getD_set_ne false (fun h=>hij h.symm)] at hi;exact hi
 · unfold setOf at hS;simp only [hS];rfl
 · have:j < listed.size:=by omega
   simp [this]
theorem family (K:Ok P) (hp:pairsB ops=true) (hbk:backB ops=true) (hlex:∀ j,j < ops.size→OpLex P N ops vals mem D e0 j) {Q:Exit→Act→World→Prop}
   (hQ:∀ S a w,(∀ i,i < ops.size→S i=true)→Good P B ι0 N D ops vals mem e0 S a w→Q .normal a w) :
   ∀ (fuel:Nat) (listed:Array Bool) (a:Act) (W:World),listed.size=ops.size→left ops.size listed≤fuel→Closed ops (setOf listed)→Good P B ι0 N D ops vals mem e0 (setOf listed) a W→wpAny P .any ops Q fuel listed a W
 | 0,listed,a,W,hs,hf,hc,g=>by
   have hnil:Region.ready .any ops listed=[]:=by
     cases hr:Region.ready .any ops listed with
     | nil=>rfl
     | cons j l =>
       exfalso
       obtain ⟨hj,hS,_⟩:=ready_of hs (j:=j) (by rw [hr];simp)
       have h0:left ops.size listed=0:=by omega
       unfold left at h0
       rw [List.countP_eq_zero] at h0
       have:=h0 j (List.mem_range.2 hj)
       unfold setOf at hS
       simp [hS] at this
   exact ⟨hnil,hQ _ _ _ (all_listed hbk hs hnil) g⟩
 | fuel + 1,listed,a,W,hs,hf,hc,g=>by
   refine ⟨fun hnil=>hQ _ _ _ (all_listed hbk hs hnil) g,fun j hj=>?_⟩
   obtain ⟨hjs,hr⟩:=ready_of hs hj
   refine wpOp_mono ?_ (good_step K hp (hlex j hjs) hc hr g Q)
   intro a' w' g'
   have hset:=setOf_set (listed:=listed) (j:=j) (by omega)
   refine family K hp hbk hlex hQ fuel _ a' w' (by simp [hs]) ?_ ?_ ?_
   · have:=left_set (n:=ops.size) hs hjs hr.1
     omega
   · rw [hset];exact hc.add hr
   · rw [hset];exact g'
theorem draws_ok (K:Ok P) (hm:P.follows .mixedOrders=true) (hp:pairsB ops=true) (hbk:backB ops=true) (hlex:∀ j,j < ops.size→OpLex P N ops vals mem D e0 j) {hfin:AH}
   (hf:∀ S,(∀ i,i < ops.size→S i=true)→mem S=hfin) {a:Act} {D0 D1:List AD} (hD0:D (fun _=>false)=D0) (hD1:∀ S,(∀ i,i < ops.size→S i=true)→D S=D1) (F:Fits P B ι (mem fun _=>false) W) (r:relE P ι N D0 e0 a) {id:Nat} {e:Env} (he:Below e (envK N ops vals e0 (fun _=>true) ops.size))
   {Q:AExit→Env→AH→Prop} (hQ:Q .normal e hfin):(Code.region id ops true).wp P (Post P B ι N D1 Q) a W:=by
 have hS0:setOf (Array.replicate ops.size false)=fun _=>false:=by
   funext i
   unfold setOf
   by_cases hi:i < ops.size <;> simp [hi]
 have hnone:∀ k,envK N ops vals e0 (fun _=>false) k=e0:=by
   intro k
   induction k with
   | zero=>rfl
   | succ k ih=>simp only [envK,cond_false,ih]
 refine wp_region_any hm (family (B:=B) (ι0:=ι) (D:=D) (N:=N) (vals:=vals) (mem:=mem) (e0:=e0) K hp hbk hlex ?_ ops.size _ a _ (by simp) ?_ ?_ ?_)
 · intro S a w hS g
   obtain ⟨ι',B',h1,h2,h3,h4,h5⟩:=g.ex
   refine ⟨ι',hfin,e,.normal,h1,?_,?_,trivial,hQ⟩
   · rw [hf S hS] at h3;exact h3.rebase h2
   · rw [hD1 S hS] at h4
     refine relE_of h4 fun t=>?_
     rw [envK_same (S:=S) (S':=fun _=>true) t ops.size fun i hi _=>hS i hi]
     exact he t
 · unfold left
   refine Nat.le_trans List.countP_le_length ?_
   simp
 · rw [hS0];intro i o ho h;cases h
 · rw [hS0]
   refine ⟨ι,B,Names.le_refl _,BaseLe.refl _,F.drew _,?_,?_⟩
   · rw [hnone,hD0];exact r
   · intro i d s dd _ h;cases h
end Go.Ab
namespace Go.Ab
open Go Go.RowKit
variable {P:Program} {ι:Names} {W:World} {B:Base} {h:AH} {D:List AD}
abbrev Pend:=Option (TypeId × Nat × List (Nat × V))
def litConv (P:Program) (t:TypeId) (n:Nat) (ps:List (Nat × V)) (s d:TypeId):Option V :=
 if (ps.all fun p=>isInt p.2)=true then match aBuildSlice P AH0 t n ps with
   | some (v,h)=>match aConv P h s d v with
     | some (.str str)=>some (.str str)
     | _=>none
   | none=>none
 else none
def vcRunD (P:Program) (N:Nat) (ops:Array Oper) (h:AH):Nat→List Oper→Pend→(Env→Prop)→Env→Prop
 | _,[],none,k,e=>k e
 | _,[],some _,_,_=>False
 | j,o :: rest,some (t,n,ps),k,e=>match o.op with
   | .convert s d _=>bindO (litConv P t n ps s d) fun v=>vcRunD P N ops h (j + 1) rest none k (e.put N o.dst v)
   | _=>False
 | j,o :: rest,none,k,e=>match litAt N ops j with
   | some _=>match o.op with
     | .buildSlice t n ps=>vcRunD P N ops h (j + 1) rest (some (t,n,ps.toList.map fun p=>(p.1,opnd e p.2))) k (e.put N o.dst .und)
     | _=>False
   | none=>vcQ P o.op e h fun v=>vcRunD P N ops h (j + 1) rest none k (e.put N o.dst v)
def vcSegsD (P:Program) (N:Nat) (ops:Array Oper) (h:AH):Nat→List (Option (Nat × Bool) × List Oper)→List (List Nat)→(AExit→Env→AH→Prop)→Env→Prop
 | _,[],_,Q,e=>Q .normal e h
 | j,(none,l) :: rest,ks,Q,e=>vcRunD P N ops h j l none (fun e=>vcSegsD P N ops h (j + l.length) rest ks Q e) e
 | j,(some (i,w),l) :: rest,ks,Q,e =>
   match (ops[i]?).bind (·.dst) with
   | some d=>bsel (l.all (fun o=>o.dst != some d)) (
       vcG (e.get d) w (vcRunD P N ops h j l none (fun e=>meetAt ks (vcSegsD P N ops h (j + l.length) rest ks.tail Q (cutL ks e))) e) (meetAt ks (vcSegsD P N ops h (j + l.length) rest ks.tail Q (cutL ks (skipAll N l e))))) False
   | none=>False
def agrees (vals:Nat→V) (vs:List V):Prop:=∀ k,k < vs.length→vals k=vs.getD k .und
theorem agrees_snoc {vals:Nat→V} {vs:List V} {v:V} (h:agrees vals (vs++[v])):agrees vals vs∧vals vs.length=v:=by
 constructor
 · intro k hk
   rw [h k (by simp;omega)]
   simp [List.getElem?_append_left hk]
 · rw [h vs.length (by simp)]
   simp
section
variable {N:Nat} {ops:Array Oper} {e0:Env} {mem:(Nat→Bool)→AH}
def Lex1 (P:Program) (N:Nat) (ops:Array Oper) (vals:Nat→V) (mem:(Nat→Bool)→AH) (e0:Env) (i:Nat):Prop :=
 ∀ D:(Nat→Bool)→List AD,(∀ S,Closed ops S→Ready ops S i→D (addS S i)=D S)→OpLex P N ops vals mem D e0 i
structure Upto (P:Program) (N:Nat) (ops:Array Oper) (mem:(Nat→Bool)→AH) (e0:Env) (vs:List V) (m:Nat) (e:Env):Prop where
 below:∀ vals,agrees vals vs→Below e (envK N ops vals e0 (fun _=>true) vs.length)
 lex:∀ i,i < m→∀ vals,agrees vals vs→Lex1 P N ops vals mem e0 i
theorem below_put {vals:Nat→V} {e:Env} {j:Nat} {o:Oper} (ho:ops[j]?=some o) (hb:Below e (envK N ops vals e0 (fun _=>true) j)):Below (Env.put N o.dst (vals j) e) (envK N ops vals e0 (fun _=>true) (j + 1)):=by
 intro t
 have hd:(ops[j]?).bind (·.dst)=o.dst:=by rw [ho];rfl
 rw [envK_succ,get_put,hd]
 by_cases hc:o.dst=some t∧t < N
 · rw [if_pos hc,if_pos ⟨rfl,hc⟩];exact .inr rfl
 · rw [if_neg hc,if_neg (by rintro ⟨_,h⟩;exact hc h)];exact hb t
theorem below_und {vals:Nat→V} {e:Env} {j:Nat} {o:Oper} (ho:ops[j]?=some o) (hb:Below e (envK N ops vals e0 (fun _=>true) j)):Below (Env.put N o.dst .und e) (envK N ops vals e0 (fun _=>true) (j + 1)):=by
 intro t
 have hd:(ops[j]?).bind (·.dst)=o.dst:=by rw [ho];rfl
 rw [envK_succ,get_put,hd]
 by_cases hc:o.dst=some t∧t < N
 · rw [if_pos hc];exact .inl rfl
 · rw [if_neg hc,if_neg (by rintro ⟨_,h⟩;exact hc h)];exact hb t
theorem below_keep {e e':Env} (l:List Nat) (hb:Below e e'):Below (Env.keep l e) e':=by
 intro t
 rcases get_keep e l t with h | h
 · rw [h];exact hb t
 · exact .inl h
theorem below_cut {e e':Env} (ks:List (List Nat)) (hb:Below e e'):Below (cutL ks e) e':=by
 cases ks with
 | nil=>exact hb
 | cons k ks=>exact below_keep k hb
def NoLit (N:Nat) (ops:Array Oper) (j:Nat):Prop:=∀ i,j=i + 1→litAt N ops i=none
def PendOk (P:Program) (N:Nat) (ops:Array Oper) (mem:(Nat→Bool)→AH) (e0:Env) (vs:List V) (m:Nat):Pend→Prop
 | none=>NoLit N ops vs.length∧m=vs.length
 | some (t,n,ps)=>∃ d s dd,vs.length=m + 1∧litAt N ops m=some (d,s,dd) ∧
     ((ps.all fun p=>isInt p.2)=true→∀ v1 h1 str,aBuildSlice P AH0 t n ps=some (v1,h1)→aConv P h1 s dd v1=some (.str str)→∀ vals,agrees vals vs→vals (m + 1)=.str str→Lex1 P N ops vals mem e0 m)
theorem litConv_some {t:TypeId} {n:Nat} {ps:List (Nat × V)} {s d:TypeId} {v:V} (hl:litConv P t n ps s d=some v) :
   (ps.all fun p=>isInt p.2)=true∧∃ v1 h1 str,aBuildSlice P AH0 t n ps=some (v1,h1)∧aConv P h1 s d v1=some (.str str)∧v=.str str:=by
 unfold litConv at hl
 split at hl
 · rename_i hp
   split at hl
   · rename_i v1 h1 hb
     split at hl
     · rename_i str hc
       cases hl
       exact ⟨hp,v1,h1,str,hb,hc,rfl⟩
     · cases hl
   · cases hl
 · cases hl
theorem runD_ok (hmem:∀ S,mem S=h) {k:Env→Prop} (g:Option (Nat × Bool)):∀ (l:List Oper) (vs:List V) (p:Pend) (e:Env) (m:Nat),
   (∀ i,i < l.length→ops[vs.length + i]?=l[i]?)→(∀ o∈l,o.guard=g)→(∀ i w,g=some (i,w)→∃ d,(ops[i]?).bind (·.dst)=some d∧Env.get e d=.bool w∧∀ o∈l,o.dst≠some d) →
   Upto P N ops mem e0 vs m e→PendOk P N ops mem e0 vs m p→vcRunD P N ops h vs.length l p k e →
   ∃ vs' e',vs'.length=vs.length + l.length∧Upto P N ops mem e0 vs' vs'.length e'∧NoLit N ops vs'.length∧k e'
 | [],vs,none,e,m,_,_,_,u,hp,hv=>by
   obtain ⟨h1,rfl⟩:=hp
   exact ⟨vs,e,rfl,u,h1,hv⟩
 | [],vs,some p,e,m,_,_,_,_,_,hv=>by simp only [vcRunD] at hv
 | o :: l,vs,some (t,n,ps),e,m,hi,hg,hgd,u,hp,hv=>by
   obtain ⟨d,s,dd,p1,p2,p3⟩:=hp
   obtain ⟨o1,o2,t',n',ps',k1,k2,k3,k4,k5,k6,k7,k8⟩:=litAt_spec p2
   have ho:ops[vs.length]?=some o:=by have:=hi 0 (by simp);simpa using this
   rw [p1,k2] at ho
   cases ho
   have ho:ops[vs.length]?=some o:=by rw [p1];exact k2
   simp only [vcRunD,k6] at hv
   obtain ⟨v,hv1,hv2⟩:=bindO_some hv
   obtain ⟨q1,v1,h1,str,q2,q3,rfl⟩:=litConv_some hv1
   have hu:Upto P N ops mem e0 (vs++[.str str]) (m + 2) (Env.put N o.dst (.str str) e):=by
     refine ⟨fun vals ha=>?_,fun i hi' vals ha=>?_⟩
     · obtain ⟨a1,a2⟩:=agrees_snoc ha
       rw [List.length_append,List.length_singleton,← a2]
       exact below_put ho (u.below vals a1)
     · obtain ⟨a1,a2⟩:=agrees_snoc ha
       rcases Nat.lt_or_ge i m with hlt | hge
       · exact u.lex i hlt vals a1
       · rcases Nat.lt_or_ge i (m + 1) with h' | h'
         · obtain rfl:i=m:=by omega
           exact p3 q1 v1 h1 str q2 q3 vals a1 (by rw [← p1];exact a2)
         · obtain rfl:i=m + 1:=by omega
           exact fun D hD=>.litB m rfl (by rw [p2];simp) (fun S _ _=>by rw [hmem,hmem]) hD
   have hnl:litAt N ops (m + 1)=none:=by
     cases hq:litAt N ops (m + 1) with
     | none=>rfl
     | some q =>
       obtain ⟨d3,s3,dd3⟩:=q
       obtain ⟨o3,o4,t3,n3,ps3,m1,m2,m3,m4,_⟩:=litAt_spec hq
       rw [k2] at m1;cases m1
       rw [k6] at m4;cases m4
   have hlen:(vs++[V.str str]).length=vs.length + 1:=by simp
   obtain ⟨vs',e',r1,r2,r3,r4⟩:=runD_ok hmem g l (vs++[.str str]) none (Env.put N o.dst (.str str) e) (m + 2)
     (fun i hi'=>by rw [hlen];have:=hi (i + 1) (by simp;omega);simpa [Nat.add_assoc,Nat.add_comm 1 i] using this)
     (fun o ho'=>hg o (by simp [ho'])) (fun i w hgi=>by
       obtain ⟨d',x1,x2,x3⟩:=hgd i w hgi
       refine ⟨d',x1,?_,fun o ho'=>x3 o (by simp [ho'])⟩
       rw [get_put,if_neg (fun hc=>x3 o (by simp) hc.1)];exact x2) hu
     ⟨fun i hi' => by rw [hlen, p1] at hi'; obtain rfl : i = m + 1 := by omega
                      exact hnl,by rw [hlen,p1]⟩ (by rw [hlen];exact hv2)
   exact ⟨vs',e',by rw [r1,hlen];simp;omega,r2,r3,r4⟩
 | o :: l,vs,none,e,m,hi,hg,hgd,u,hp,hv=>by
   obtain ⟨hn,rfl⟩:=hp
   have ho:ops[vs.length]?=some o:=by have:=hi 0 (by simp);simpa using this
   have next:∀ (v:V),(∀ i,i < l.length→ops[(vs++[v]).length + i]?=l[i]?):=by
     intro v i hi'
     rw [List.length_append,List.length_singleton]
     have:=hi (i + 1) (by simp;omega);simpa [Nat.add_assoc,Nat.add_comm 1 i] using this
   have gd:∀ (v:V),(∀ i w,g=some (i,w)→∃ d,(ops[i]?).bind (·.dst)=some d∧Env.get (Env.put N o.dst v e) d=.bool w∧∀ o∈l,o.dst≠some d):=by
     intro v i w hgi
     obtain ⟨d',x1,x2,x3⟩:=hgd i w hgi
     refine ⟨d',x1,?_,fun o ho'=>x3 o (by simp [ho'])⟩
     rw [get_put,if_neg (fun hc=>x3 o (by simp) hc.1)];exact x2
   simp only [vcRunD] at hv
   cases hla:litAt N ops vs.length with
   | none =>
     rw [hla] at hv
     obtain ⟨v,hy,hv⟩:=yields_of_vcQ hv
     have hu:Upto P N ops mem e0 (vs++[v]) (vs.length + 1) (Env.put N o.dst v e):=by
       refine ⟨fun vals ha=>?_,fun i hi' vals ha=>?_⟩
       · obtain ⟨a1,a2⟩:=agrees_snoc ha
         rw [List.length_append,List.length_singleton,← a2]
         exact below_put ho (u.below vals a1)
       · obtain ⟨a1,a2⟩:=agrees_snoc ha
         rcases Nat.lt_or_ge i vs.length with hlt | hge
         · exact u.lex i hlt vals a1
         · obtain rfl:i=vs.length:=by omega
           refine fun D hD=>.ord hla hn e (u.below vals a1) o ho ?_ (fun S _ _=>by rw [hmem,hmem,a2];exact hy) hD
           unfold want
           rw [hg o (by simp)]
           cases g with
           | none=>rfl
           | some q =>
             obtain ⟨i,w⟩:=q
             obtain ⟨d',x1,x2,x3⟩:=hgd i w rfl
             simp only [x1,x2,decide_true]
     obtain ⟨vs',e',r1,r2,r3,r4⟩:=runD_ok hmem g l (vs++[v]) none (Env.put N o.dst v e) (vs.length + 1) (next v) (fun o ho'=>hg o (by simp [ho'])) (gd v) hu
       ⟨fun i hi' => by rw [List.length_append, List.length_singleton] at hi'; obtain rfl : i = vs.length := by omega
                        exact hla,by simp⟩ (by rw [List.length_append,List.length_singleton];exact hv)
     exact ⟨vs',e',by rw [r1];simp;omega,r2,r3,r4⟩
   | some q =>
     obtain ⟨d,s,dd⟩:=q
     rw [hla] at hv
     obtain ⟨o1,o2,t,n,ps,k1,k2,k3,k4,k5,k6,k7,k8⟩:=litAt_spec hla
     rw [ho] at k1;cases k1
     simp only [k4] at hv
     have hu:Upto P N ops mem e0 (vs++[.und]) vs.length (Env.put N o.dst .und e):=by
       refine ⟨fun vals ha=>?_,fun i hi' vals ha=>u.lex i hi' vals (agrees_snoc ha).1⟩
       obtain ⟨a1,a2⟩:=agrees_snoc ha
       rw [List.length_append,List.length_singleton]
       exact below_und ho (u.below vals a1)
     obtain ⟨vs',e',r1,r2,r3,r4⟩:=runD_ok hmem g l (vs++[.und]) (some (t,n,ps.toList.map fun p=>(p.1,opnd e p.2))) (Env.put N o.dst .und e) vs.length (next .und) (fun o ho'=>hg o (by simp [ho'])) (gd .und) hu
       ⟨d,s,dd,by simp,hla,fun hf v1 h1 str hb hc vals ha hv2=>by
         obtain ⟨a1,a2⟩:=agrees_snoc ha
         exact fun D hD=>.litA d s dd hla e (u.below vals a1) o ho t n ps k4 hf v1 h1 hb str hc a2 hv2 (fun S _ _=>by rw [hmem,hmem]) hD⟩
       (by rw [List.length_append,List.length_singleton];exact hv)
     exact ⟨vs',e',by rw [r1];simp;omega,r2,r3,r4⟩
theorem lit_guard {j:Nat} {o:Oper} (ho:ops[j]?=some o) (hg:o.guard≠none):litAt N ops j=none∧NoLit N ops j:=by
 constructor
 · cases hq:litAt N ops j with
   | none=>rfl
   | some q =>
     obtain ⟨d,s,dd⟩:=q
     obtain ⟨o1,o2,t,n,ps,k1,k2,k3,k4,k5,k6,k7,k8⟩:=litAt_spec hq
     rw [ho] at k1;cases k1
     exact absurd k5 hg
 · rintro i rfl
   cases hq:litAt N ops i with
   | none=>rfl
   | some q =>
     obtain ⟨d,s,dd⟩:=q
     obtain ⟨o1,o2,t,n,ps,k1,k2,k3,k4,k5,k6,k7,k8⟩:=litAt_spec hq
     rw [ho] at k2;cases k2
     exact absurd k7 hg
theorem skipD_ok (hmem:∀ S,mem S=h) {i:Nat} {w:Bool} {d:Tmp} (hd:(ops[i]?).bind (·.dst)=some d):∀ (l:List Oper) (vs:List V) (e:Env),
   (∀ i,i < l.length→ops[vs.length + i]?=l[i]?)→(∀ o∈l,o.guard=some (i,w))→(∀ o∈l,o.dst≠some d)→((∃ b,Env.get e d=.bool b∧b≠w)∨Env.get e d=.tup []) →
   Upto P N ops mem e0 vs vs.length e→NoLit N ops vs.length →
   ∃ vs',vs'.length=vs.length + l.length∧Upto P N ops mem e0 vs' vs'.length (skipAll N l e)∧NoLit N ops vs'.length
 | [],vs,e,_,_,_,_,u,hn=>⟨vs,rfl,u,hn⟩
 | o :: l,vs,e,hi,hg,hdst,he,u,hn=>by
   have ho:ops[vs.length]?=some o:=by have:=hi 0 (by simp);simpa using this
   obtain ⟨l1,l2⟩:=lit_guard (N:=N) ho (by rw [hg o (by simp)];simp)
   have hu:Upto P N ops mem e0 (vs++[hole]) (vs++[hole]).length (Env.put N o.dst hole e):=by
     refine ⟨fun vals ha=>?_,fun i' hi' vals ha=>?_⟩
     · obtain ⟨a1,a2⟩:=agrees_snoc ha
       rw [List.length_append,List.length_singleton,← a2]
       exact below_put ho (u.below vals a1)
     · obtain ⟨a1,a2⟩:=agrees_snoc ha
       rcases Nat.lt_or_ge i' vs.length with hlt | hge
       · exact u.lex i' hlt vals a1
       · obtain rfl:i'=vs.length:=by simp at hi';omega
         refine fun D hD=>.off l1 l2 e (u.below vals a1) o ho ?_ (fun S _ _=>by rw [hmem,hmem]) a2 hD
         unfold want
         rw [hg o (by simp)]
         simp only [hd]
         rcases he with ⟨b,hb,hbw⟩ | hb
         · rw [hb];simp [hbw]
         · rw [hb]
   obtain ⟨vs',r1,r2,r3⟩:=skipD_ok hmem hd l (vs++[hole]) (Env.put N o.dst hole e)
     (fun i hi'=>by rw [List.length_append,List.length_singleton];have:=hi (i + 1) (by simp;omega);simpa [Nat.add_assoc,Nat.add_comm 1 i] using this)
     (fun o ho'=>hg o (by simp [ho'])) (fun o ho'=>hdst o (by simp [ho'])) (by rw [get_put,if_neg (fun hc=>hdst o (by simp) hc.1)];exact he) hu
     (fun i hi' => by rw [List.length_append, List.length_singleton] at hi'; obtain rfl : i = vs.length := by omega
                      exact l1)
   exact ⟨vs',by rw [r1];simp;omega,r2,r3⟩
theorem segsD_ok (hmem:∀ S,mem S=h) {Q:AExit→Env→AH→Prop}:∀ (l:List (Option (Nat × Bool) × List Oper)) (ks:List (List Nat)) (vs:List V) (e:Env),
   (∀ i,i < (flatS l).length→ops[vs.length + i]?=(flatS l)[i]?)→(∀ s∈l,∀ o∈s.2,o.guard=s.1) →
   Upto P N ops mem e0 vs vs.length e→NoLit N ops vs.length→vcSegsD P N ops h vs.length l ks Q e →
   ∃ vs' e',vs'.length=vs.length + (flatS l).length∧Upto P N ops mem e0 vs' vs'.length e'∧Q .normal e' h
 | [],ks,vs,e,_,_,u,hn,hv=>⟨vs,e,rfl,u,hv⟩
 | (g,s) :: rest,ks,vs,e,hi,hg,u,hn,hv=>by
   have hflat:flatS ((g,s) :: rest)=s++flatS rest:=by simp [flatS]
   have hi1:∀ i,i < s.length→ops[vs.length + i]?=s[i]?:=by
     intro i hi'
     rw [hi i (by rw [hflat];simp;omega),hflat,List.getElem?_append_left hi']
   have hi2:∀ vs':List V,vs'.length=vs.length + s.length→∀ i,i < (flatS rest).length→ops[vs'.length + i]?=(flatS rest)[i]?:=by
     intro vs' hl i hi'
     rw [hl,Nat.add_assoc,hi (s.length + i) (by rw [hflat];simp;omega),hflat,List.getElem?_append_right (by omega)]
     congr 1;omega
   have hgs:=hg (g,s) (by simp)
   have hgr:∀ s'∈rest,∀ o∈s'.2,o.guard=s'.1:=fun s' hs'=>hg s' (by simp [hs'])
   have fin:∀ (ks:List (List Nat)) (vs':List V) (e':Env),vs'.length=vs.length + s.length→Upto P N ops mem e0 vs' vs'.length e'→NoLit N ops vs'.length→vcSegsD P N ops h (vs.length + s.length) rest ks Q e' →
       ∃ vs2 e2,vs2.length=vs.length + (flatS ((g,s) :: rest)).length∧Upto P N ops mem e0 vs2 vs2.length e2∧Q .normal e2 h:=by
     intro ks vs' e' hl u' hn' hv'
     rw [← hl] at hv'
     obtain ⟨vs2,e2,r1,r2,r3⟩:=segsD_ok hmem rest ks vs' e' (hi2 vs' hl) hgr u' hn' hv'
     exact ⟨vs2,e2,by rw [r1,hl,hflat];simp;omega,r2,r3⟩
   cases g with
   | none =>
     simp only [vcSegsD] at hv
     obtain ⟨vs',e',r1,r2,r3,r4⟩:=runD_ok hmem none s vs none e vs.length hi1 hgs (by intro i w h;cases h) u ⟨hn,rfl⟩ hv
     exact fin _ vs' e' r1 r2 r3 r4
   | some q =>
     obtain ⟨i,w⟩:=q
     simp only [vcSegsD] at hv
     split at hv
     · rename_i d hd
       cases hall:s.all (fun o=>o.dst != some d) with
       | false=>rw [hall] at hv;exact hv.elim
       | true =>
         rw [hall] at hv
         try simp only [bsel_true] at hv
         have hdst:∀ o∈s,o.dst≠some d:=by
           intro o ho
           have:=List.all_eq_true.1 hall o ho
           simpa using this
         have cut:∀ {vs':List V} {e':Env},Upto P N ops mem e0 vs' vs'.length e'→Upto P N ops mem e0 vs' vs'.length (cutL ks e'):=fun u'=>⟨fun vals ha=>below_cut ks (u'.below vals ha),u'.lex⟩
         have no:((∃ b,Env.get e d=.bool b∧b≠w)∨Env.get e d=.tup [])→vcSegsD P N ops h (vs.length + s.length) rest ks.tail Q (cutL ks (skipAll N s e)) →
             ∃ vs2 e2,vs2.length=vs.length + (flatS ((some (i,w),s) :: rest)).length∧Upto P N ops mem e0 vs2 vs2.length e2∧Q .normal e2 h:=by
           intro he hv'
           obtain ⟨vs',r1,r2,r3⟩:=skipD_ok hmem hd s vs e hi1 hgs hdst he u hn
           exact fin _ vs' _ r1 (cut r2) r3 hv'
         unfold vcG at hv
         split at hv
         · rename_i b hb
           split at hv
           · rename_i hbw
             subst hbw
             obtain ⟨vs',e',r1,r2,r3,r4⟩:=runD_ok hmem (some (i,b)) s vs none e vs.length hi1 hgs (by intro i' w' h;cases h;exact ⟨d,hd,hb,hdst⟩) u ⟨hn,rfl⟩ hv
             exact fin _ vs' _ r1 (cut r2) r3 (meetAt_of r4)
           · rename_i hbw
             exact no (.inl ⟨b,hb,hbw⟩) (meetAt_of hv)
         · rename_i hb
           exact no (.inr hb) (meetAt_of hv)
         · exact hv.elim
     · exact hv.elim
end
def drawOk (P:Program) (ops:Array Oper):Bool:=P.follows .mixedOrders && pairsB ops && backB ops
theorem vcDraw_ok (K:Ok P) {N:Nat} {ops:Array Oper} {id:Nat} {Q:AExit→Env→AH→Prop} {ks:List (List Nat)} {e:Env} {a:Act} (hd:drawOk P ops=true) (F:Fits P B ι h W) (r:relE P ι N D e a)
   (hv:vcSegsD P N ops h 0 (segs ops.toList) ks Q e):(Code.region id ops true).wp P (Post P B ι N D Q) a W:=by
 unfold drawOk at hd
 simp only [Bool.and_eq_true] at hd
 obtain ⟨⟨h1,h2⟩,h3⟩:=hd
 have hflat:=segs_flat ops.toList
 obtain ⟨vs,e',r1,r2,r3⟩:=segsD_ok (P:=P) (N:=N) (ops:=ops) (e0:=e) (mem:=fun _=>h) (h:=h) (fun _=>rfl) (segs ops.toList) ks [] e (by intro i hi;rw [hflat];simp) (segs_guard _)
   ⟨fun vals _ t=>.inr rfl,fun i hi=>by simp at hi⟩ (fun i hi=>by simp at hi) hv
 rw [hflat] at r1
 simp only [List.length_nil,Nat.zero_add,Array.length_toList] at r1
 have ha:agrees (fun i=>vs.getD i .und) vs:=fun k _=>rfl
 refine draws_ok (N:=N) (vals:=fun i=>vs.getD i .und) (mem:=fun _=>h) (e0:=e) (D:=fun _=>D) K h1 h2 h3 (fun j hj=>r2.lex j (by rw [r1];exact hj) _ ha _ fun _ _ _=>rfl) (fun _ _=>rfl) rfl (fun _ _=>rfl) F r (e:=e') ?_ r3
 have:=r2.below _ ha
 rw [r1] at this
 exact this
def headOps (ops:Array Oper):List Oper:=ops.toList.dropLast
def lastDefer (ops:Array Oper):Option Call :=
 match ops.back? with
 | some { dst:=none,op:=.defer c,guard:=none,.. }=>some c
 | _=>none
def vcDrawDf (P:Program) (N:Nat) (ops:Array Oper) (c:Call) (h:AH) (ks:List (List Nat)) (Q:AD→Env→AH→Prop) (e:Env):Prop :=
 vcSegsD P N ops h 0 (segs (headOps ops)) ks (fun x e h=>match x with
   | .normal=>(match deferV e c with | some ad=>Q ad e h | none=>False)
   | _=>False) e
theorem vcDrawDf_ok (K:Ok P) {N:Nat} {ops:Array Oper} {id:Nat} {c:Call} {Q:AD→Env→AH→Prop} {ks:List (List Nat)} {e:Env} {a:Act} (hd:drawOk P ops=true) (hlast:lastDefer ops=some c) (F:Fits P B ι h W) (r:relE P ι N D e a)
   (hv:vcDrawDf P N ops c h ks Q e):∃ ad,(Code.region id ops true).wp P (Post P B ι N (ad :: D) fun x e h=>x=.normal∧Q ad e h) a W:=by
 unfold drawOk at hd
 simp only [Bool.and_eq_true] at hd
 obtain ⟨⟨h1,h2⟩,h3⟩:=hd
 obtain ⟨o,ho,hop,hg,hdst⟩:∃ o,ops.back?=some o∧o.op=.defer c∧o.guard=none∧o.dst=none:=by
   unfold lastDefer at hlast
   split at hlast
   · rename_i c' _ _ _ _ hb
     cases hlast
     exact ⟨_,hb,rfl,rfl,rfl⟩
   · cases hlast
 have hn:0 < ops.size:=by
   rcases Nat.eq_zero_or_pos ops.size with h | h
   · have:ops=#[]:=Array.eq_empty_of_size_eq_zero h
     subst this;simp at ho
   · exact h
 have hl:ops[ops.size - 1]?=some o:=by rw [← ho,Array.back?]
 have hlen:(headOps ops).length=ops.size - 1:=by simp [headOps]
 have hflat:=segs_flat (headOps ops)
 unfold vcDrawDf at hv
 obtain ⟨vs,e',r1,r2,r3⟩:=segsD_ok (P:=P) (N:=N) (ops:=ops) (e0:=e) (mem:=fun _=>h) (h:=h) (fun _=>rfl) (segs (headOps ops)) ks [] e
   (by intro i hi;rw [hflat] at hi ⊢;simp only [List.length_nil,Nat.zero_add,headOps];rw [List.getElem?_dropLast,if_pos (by rw [hlen] at hi;simpa using hi)];simp) (segs_guard _)
   ⟨fun vals _ t=>.inr rfl,fun i hi=>by simp at hi⟩ (fun i hi=>by simp at hi) hv
 rw [hflat,hlen] at r1
 simp only [List.length_nil,Nat.zero_add] at r1
 simp only at r3
 split at r3
 · rename_i ad had
   refine ⟨ad,?_⟩
   have hu:∀ vals,agrees vals (vs++[hole])→agrees vals vs∧vals vs.length=hole:=fun vals ha=>agrees_snoc ha
   have ha:agrees (fun i=>(vs++[hole]).getD i .und) (vs++[hole]):=fun k _=>rfl
   obtain ⟨a1,a2⟩:=hu _ ha
   rw [r1] at a2
   have hnl:∀ i,litAt N ops i≠none→i + 2≤ops.size - 1∨i + 1 < ops.size - 1:=by
     intro i hi
     cases hq:litAt N ops i with
     | none=>exact absurd hq hi
     | some q =>
       obtain ⟨d,s,dd⟩:=q
       obtain ⟨o1,o2,t,n,ps,k1,k2,k3,k4,k5,k6,k7,k8⟩:=litAt_spec hq
       have:i + 1 < ops.size:=(Array.getElem?_eq_some_iff.1 k2).1
       by_cases he:i + 1=ops.size - 1
       · rw [he,hl] at k2
         cases k2
         rw [hop] at k6;cases k6
       · right;omega
   have hlast0:litAt N ops (ops.size - 1)=none:=by
     unfold litAt
     rw [show ops[ops.size - 1 + 1]?=none from Array.getElem?_eq_none (by omega)]
     split <;> first | rfl | (rename_i h2;cases h2)
   have hlast1:∀ i,ops.size - 1=i + 1→litAt N ops i=none:=by
     intro i hi
     cases hq:litAt N ops i with
     | none=>rfl
     | some q=>have:=hnl i (by rw [hq];simp);omega
   refine draws_ok (N:=N) (vals:=fun i=>(vs++[hole]).getD i .und) (mem:=fun _=>h) (e0:=e) (D:=fun S=>if S (ops.size - 1)=true then ad :: D else D) K h1 h2 h3 (fun j hj=>?_) (fun _ _=>rfl)
     (by simp) (fun S hS=>by rw [if_pos (hS _ (by omega))]) F r (e:=Env.put N o.dst hole e') ?_ ⟨rfl,?_⟩
   · by_cases hj1:j=ops.size - 1
     · subst hj1
       have hb:=r2.below _ a1
       rw [r1] at hb
       refine .dfr hlast0 hlast1 e' hb o hl (by unfold want;rw [hg]) c hop ad had (fun _ _ _=>rfl) a2 fun S _ hr=>?_
       rw [if_pos (addS_self S _),if_neg (by rw [hr.1];decide)]
     · refine r2.lex j (by rw [r1];omega) _ a1 _ fun S _ _=>?_
       rw [addS_ne S (fun e=>hj1 e.symm)]
   · have hb:=r2.below _ a1
     rw [r1] at hb
     have:=below_put (N:=N) (ops:=ops) (e0:=e) (vals:=fun i=>(vs++[hole]).getD i .und) (j:=ops.size - 1) hl hb
     rw [a2,show ops.size - 1 + 1=ops.size by omega] at this
     exact this
   · rw [hdst];exact r3
 · exact r3.elim
end Go.Ab
namespace Go.Ab
open Go Go.RowKit
variable {P:Program} {ι:Names} {W:World} {B:Base} {h:AH} {D:List AD}
def stepB (acc:List (List Nat)) (o:Oper):List Nat:=((o.after.toList.filter (Region.binds .any)).flatMap fun e=>e.on :: acc.getD e.on []).eraseDups
def befsL:List Oper→List (List Nat)→List (List Nat)
 | [],acc=>acc
 | o :: rest,acc=>befsL rest (acc++[stepB acc o])
def befs (ops:Array Oper):List (List Nat):=befsL ops.toList []
def isBef (b:List (List Nat)) (i j:Nat):Bool:=(b.getD j []).contains i
section
variable {N:Nat} {ops:Array Oper} {S:Nat→Bool}
def BefOk (ops:Array Oper) (acc:List (List Nat)):Prop:=∀ j i,i∈acc.getD j []→∀ S,Closed ops S→(∀ o,ops[j]?=some o→∀ e∈o.after,Region.binds .any e=true→S e.on=true)→S i=true
theorem befsL_ok:∀ (l:List Oper) (acc:List (List Nat)),(∀ i,l[i]?=ops[acc.length + i]?)→BefOk ops acc→BefOk ops (befsL l acc)
 | [],acc,_,h=>h
 | o :: rest,acc,hl,h=>by
   simp only [befsL]
   have ho:ops[acc.length]?=some o:=by have:=(hl 0).symm;simpa using this
   refine befsL_ok rest (acc++[stepB acc o]) (fun i=>by have:=hl (i + 1);simpa [Nat.add_assoc,Nat.add_comm 1 i] using this) ?_
   intro j i hi S hc hr
   rcases Nat.lt_or_ge j acc.length with hj | hj
   · have:(acc++[stepB acc o]).getD j []=acc.getD j []:=by simp [List.getElem?_append_left hj]
     rw [this] at hi
     exact h j i hi S hc hr
   · by_cases hjl:j=acc.length
     · subst hjl
       have:(acc++[stepB acc o]).getD acc.length []=stepB acc o:=by simp
       rw [this] at hi
       unfold stepB at hi
       rw [List.mem_eraseDups,List.mem_flatMap] at hi
       obtain ⟨e,he,hi⟩:=hi
       rw [List.mem_filter] at he
       have hS:=hr o ho e (Array.mem_toList_iff.1 he.1) he.2
       rcases List.mem_cons.1 hi with rfl | hi
       · exact hS
       · exact h e.on i hi S hc fun o' ho' e' he' hb'=>hc e.on o' ho' hS e' he' hb'
     · have:(acc++[stepB acc o]).getD j []=[]:=by
         rw [List.getD_eq_getElem?_getD,List.getElem?_eq_none (by simp;omega)];rfl
       rw [this] at hi;cases hi
theorem befs_ok:BefOk ops (befs ops):=befsL_ok _ _ (fun i=>by simp) (fun j i hi=>by simp at hi)
theorem bef_done {i j:Nat} (hb:isBef (befs ops) i j=true) (hc:Closed ops S) (hr:Ready ops S j):S i=true :=
 befs_ok j i (by simpa [isBef] using hb) S hc hr.2
theorem bef_not {i j:Nat} (hb:isBef (befs ops) j i=true) (hc:Closed ops S) (hr:S j=false):S i=false:=by
 cases hS:S i with
 | false=>rfl
 | true =>
   have:=befs_ok i j (by simpa [isBef] using hb) S hc fun o ho e he hb'=>hc i o ho hS e he hb'
   rw [hr] at this;cases this
def chainB (b:List (List Nat)):List Nat→Bool
 | []=>true
 | e :: rest=>(rest.all fun f=>decide (e < f) && isBef b e f) && chainB b rest
theorem chain_spec {b:List (List Nat)}:∀ {es:List Nat},chainB b es=true→es.Pairwise fun e f=>e < f∧isBef b e f=true
 | [],_=>.nil
 | e :: rest,h=>by
   simp only [chainB,Bool.and_eq_true] at h
   refine .cons (fun f hf=>?_) (chain_spec h.2)
   have:=List.all_eq_true.1 h.1 f hf
   simpa using this
def cnt (es:List Nat) (S:Nat→Bool):Nat:=es.countP S
def rank (es:List Nat) (j:Nat):Nat:=es.countP fun e=>decide (e < j)
theorem pair_cases {es:List Nat} {b:List (List Nat)} (h:es.Pairwise fun e f=>e < f∧isBef b e f=true) {e f:Nat} (he:e∈es) (hf:f∈es) (hlt:e < f):isBef b e f=true:=by
 induction h with
 | nil=>cases he
 | cons h1 _ ih =>
   rcases List.mem_cons.1 he with rfl | he'
   · rcases List.mem_cons.1 hf with rfl | hf'
     · omega
     · exact (h1 f hf').2
   · rcases List.mem_cons.1 hf with rfl | hf'
     · have:=(h1 e he').1;omega
     · exact ih he' hf'
theorem cnt_eff {es:List Nat} (hp:es.Pairwise fun e f=>e < f∧isBef (befs ops) e f=true) {j:Nat} (hj:j∈es) (hc:Closed ops S) (hr:Ready ops S j):cnt es S=rank es j:=by
 unfold cnt rank
 apply List.countP_congr
 intro e he
 rcases Nat.lt_trichotomy e j with h | h | h
 · simp [bef_done (pair_cases hp he hj h) hc hr,h]
 · subst h;simp [hr.1]
 · simp [bef_not (pair_cases hp hj he h) hc hr.1];omega
theorem cnt_add_mem {es:List Nat} (hp:es.Pairwise fun e f=>e < f∧isBef (befs ops) e f=true) {j:Nat} (hj:j∈es) (hS:S j=false):cnt es (addS S j)=cnt es S + 1:=by
 unfold cnt
 induction hp with
 | nil=>cases hj
 | @cons e l h1 h2 ih =>
   rw [List.countP_cons,List.countP_cons]
   rcases List.mem_cons.1 hj with rfl | hj'
   · rw [addS_self,hS]
     have:l.countP (addS S j)=l.countP S:=List.countP_congr fun f hf=>by rw [addS_ne S (by have:=(h1 f hf).1;omega)]
     simp [this]
   · have hne:e≠j:=by have:=(h1 j hj').1;omega
     rw [addS_ne S hne,ih hj']
     split <;> omega
theorem cnt_add_not {es:List Nat} {j:Nat} (hj:j ∉ es):cnt es (addS S j)=cnt es S:=by
 unfold cnt
 exact List.countP_congr fun f hf=>by rw [addS_ne S (by rintro rfl;exact hj hf)]
def loOf (b:List (List Nat)) (es:List Nat) (j:Nat):Nat:=es.countP fun e=>isBef b e j
def hiOf (b:List (List Nat)) (es:List Nat) (j:Nat):Nat:=es.countP fun e=>!isBef b j e
theorem cnt_lo {es:List Nat} {j:Nat} (hc:Closed ops S) (hr:Ready ops S j):loOf (befs ops) es j≤cnt es S :=
 List.countP_mono_left fun e _ h=>bef_done h hc hr
theorem cnt_hi {es:List Nat} {j:Nat} (hc:Closed ops S) (hr:Ready ops S j):cnt es S≤hiOf (befs ops) es j :=
 List.countP_mono_left fun e _ h=>by
   cases hb:isBef (befs ops) j e with
   | false=>rfl
   | true=>rw [bef_not hb hc hr.1] at h;cases h
theorem cnt_le {es:List Nat}:cnt es S≤es.length:=List.countP_le_length
end
def memless:Op→Bool
 | .move _ | .assign _ | .pick .. | .build .. | .nilCheck _ | .binOp .. | .unOp .. | .makeInterface .. | .makeFunc .. | .fieldAddr .. | .field .. | .indexAddr .. | .index .. | .extract ..=>true
 | _=>false
theorem memless_ok {o:Op} {e:Env} {h h':AH} {v:V} (hm:memless o=true) (y:yields P o e h h v):yields P o e h' h' v:=by
 unfold memless at hm
 split at hm <;> first | (cases hm;done) | skip
 all_goals (simp only [yields,aop] at y ⊢)
 all_goals (first
   | (cases y;rfl)
   | (obtain ⟨k1,_⟩:=still_some y;rw [k1];rfl)
   | skip)
 · unfold aPick at *;split at y <;> cases y;rfl
 · unfold aNil at *;split at y <;> cases y <;> rfl
def vcE (P:Program) (o:Op) (e:Env) (h:AH) (K:V→AH→Prop):Prop :=
 match o with
 | .call { callee:=.value f,args:=args,.. }=>∃ v h',vcCallV P (opnd e f) (args.toList.map (opnd e)) h (pureE v h')∧K v h'
 | .call { callee:=.invoke r name,args:=args,.. }=>∃ v h',vcInvoke P (opnd e r) name (args.toList.map (opnd e)) h (pureE v h')∧K v h'
 | .panic _=>False
 | op=>bindV (aop P (opnd e) h op) K
theorem yields_of_vcE {o:Op} {e:Env} {h:AH} {K:V→AH→Prop} (hv:vcE P o e h K):∃ v h',yields P o e h h' v∧K v h':=by
 unfold vcE at hv
 unfold yields
 split at hv
 · exact hv
 · exact hv
 · exact hv.elim
 · rename_i h1 h2 h3
   unfold bindV at hv
   split at hv
   · rename_i v h' hl
     refine ⟨v,h',?_,hv⟩
     cases o <;> (try simp only) <;> first | exact hl | skip
     all_goals (first
       | exact absurd rfl (h3 _)
       | (rename_i c;obtain ⟨callee,args,ts⟩:=c;cases callee <;> first | exact absurd rfl (h1 _ _ _) | exact absurd rfl (h2 _ _ _ _) | exact hl))
   · exact hv.elim
def andL:List Prop→Prop→Prop
 | [],p=>p
 | q :: l,p=>q∧andL l p
theorem andL_all:∀ {l:List Prop} {p:Prop},andL l p→(∀ q∈l,q)∧p
 | [],_,h=>⟨(fun _ h=>by cases h),h⟩
 | q :: l,p,h=>by
   obtain ⟨h1,h2⟩:=andL_all h.2
   exact ⟨fun q' hq=>by rcases List.mem_cons.1 hq with rfl | hq;exact h.1;exact h1 q' hq,h2⟩
def stages (lo:Nat) (gs:List AH) (f:AH→Prop):List Prop:=(gs.dropLast.drop lo).map f
def later (n:Nat) (h:AH) (pend:List (Nat × (AH→Prop))):List Prop:=(pend.filter fun p=>decide (n≤p.1)).map fun p=>p.2 h
def vc2 (P:Program) (N:Nat) (b:List (List Nat)) (es:List Nat):Nat→List Oper→List AH→AH→List (Nat × (AH→Prop))→(Env→AH→Prop)→Env→Prop
 | _,[],_,h,_,k,e=>k e h
 | j,o :: rest,gs,h,pend,k,e =>
   bsel (es.contains j) (vcE P o.op e h fun v h'=>andL (later gs.length h' pend) (vc2 P N b es (j + 1) rest (gs++[h']) h' pend k (e.put N o.dst v)))
   (bsel (memless o.op) (vcQ P o.op e h fun v=>vc2 P N b es (j + 1) rest gs h pend k (e.put N o.dst v))
   (vcQ P o.op e h fun v=>andL (stages (loOf b es j) gs fun g=>yields P o.op e g g v)
     (vc2 P N b es (j + 1) rest gs h ((hiOf b es j,fun g=>yields P o.op e g g v) :: pend) k (e.put N o.dst v))))
section
variable {N:Nat} {ops:Array Oper} {e0:Env} {es:List Nat}
def Op2 (P:Program) (N:Nat) (ops:Array Oper) (es:List Nat) (e0:Env) (vs:List V) (gs:List AH) (pend:List (Nat × (AH→Prop))) (i:Nat):Prop :=
 ∃ o e,ops[i]?=some o∧(∀ vals,agrees vals vs→Below e (envK N ops vals e0 (fun _=>true) i)) ∧
   if i∈es then rank es i + 1 < gs.length∧yields P o.op e (gs.getD (rank es i) AH0) (gs.getD (rank es i + 1) AH0) (vs.getD i .und)
   else (memless o.op=true∧∃ g,yields P o.op e g g (vs.getD i .und)) ∨
     ((∀ k,loOf (befs ops) es i≤k→k≤hiOf (befs ops) es i→k < gs.length→yields P o.op e (gs.getD k AH0) (gs.getD k AH0) (vs.getD i .und)) ∧
       (hiOf (befs ops) es i,fun g=>yields P o.op e g g (vs.getD i .und))∈pend)
structure Upto2 (P:Program) (N:Nat) (ops:Array Oper) (es:List Nat) (e0:Env) (vs:List V) (gs:List AH) (h:AH) (pend:List (Nat × (AH→Prop))) (e:Env):Prop where
 below:∀ vals,agrees vals vs→Below e (envK N ops vals e0 (fun _=>true) vs.length)
 lex:∀ i,i < vs.length→Op2 P N ops es e0 vs gs pend i
 len:gs.length=rank es vs.length + 1
 cur:gs.getD (rank es vs.length) AH0=h
theorem getD_snoc {α:Type} (l:List α) (x d:α) {k:Nat} (hk:k < l.length):(l++[x]).getD k d=l.getD k d:=by
 simp [List.getElem?_append_left hk]
theorem getD_last {α:Type} (l:List α) (x d:α):(l++[x]).getD l.length d=x:=by simp
theorem rank_succ (hp:es.Pairwise fun e f=>e < f∧isBef (befs ops) e f=true) (j:Nat):rank es (j + 1)=rank es j + if j∈es then 1 else 0:=by
 unfold rank
 induction hp with
 | nil=>simp
 | @cons e l h1 h2 ih =>
   rw [List.countP_cons,List.countP_cons,ih]
   by_cases hje:j=e
   · subst hje
     have hn:j ∉ l:=fun h=>by have:=(h1 j h).1;omega
     have h0:l.countP (fun e=>decide (e < j))=0:=by
       rw [List.countP_eq_zero]
       intro f hf
       have:=(h1 f hf).1
       simp;omega
     simp [hn,h0]
   · by_cases hl:j∈l
     · have:=(h1 j hl).1
       simp [hl,show e < j + 1 by omega,show e < j by omega]
     · by_cases he:e < j
       · simp [hl,hje,he,show e < j + 1 by omega]
       · simp [hl,hje,he,show ¬ e < j + 1 by omega]
theorem run2_ok (hp:es.Pairwise fun e f=>e < f∧isBef (befs ops) e f=true) {k:Env→AH→Prop}:∀ (l:List Oper) (vs:List V) (gs:List AH) (h:AH) (pend:List (Nat × (AH→Prop))) (e:Env),
   (∀ i,i < l.length→ops[vs.length + i]?=l[i]?)→Upto2 P N ops es e0 vs gs h pend e→vc2 P N (befs ops) es vs.length l gs h pend k e →
   ∃ vs' gs' h' pend' e',vs'.length=vs.length + l.length∧gs'.getD 0 AH0=gs.getD 0 AH0∧Upto2 P N ops es e0 vs' gs' h' pend' e'∧k e' h'
 | [],vs,gs,h,pend,e,_,u,hv=>⟨vs,gs,h,pend,e,rfl,rfl,u,hv⟩
 | o :: l,vs,gs,h,pend,e,hi,u,hv=>by
   have ho:ops[vs.length]?=some o:=by have:=hi 0 (by simp);simpa using this
   have next:∀ (v:V),(∀ i,i < l.length→ops[(vs++[v]).length + i]?=l[i]?):=by
     intro v i hi'
     rw [List.length_append,List.length_singleton]
     have:=hi (i + 1) (by simp;omega);simpa [Nat.add_assoc,Nat.add_comm 1 i] using this
   have hl1:∀ v:V,(vs++[v]).length=vs.length + 1:=fun v=>by simp
   have bel:∀ v:V,∀ vals,agrees vals (vs++[v])→Below (Env.put N o.dst v e) (envK N ops vals e0 (fun _=>true) (vs++[v]).length):=by
     intro v vals ha
     obtain ⟨a1,a2⟩:=agrees_snoc ha
     rw [List.length_append,List.length_singleton,← a2]
     exact below_put ho (u.below vals a1)
   have hg0:0 < gs.length:=by have:=u.len;omega
   -- what was shown of the earlier ones stays
   have old:∀ (v:V) (pend':List (Nat × (AH→Prop))),(∀ p∈pend,p∈pend')→∀ i,i < vs.length→Op2 P N ops es e0 (vs++[v]) gs pend' i:=by
     intro v pend' hpp i hi'
     obtain ⟨oi,ei,q1,q2,q3⟩:=u.lex i hi'
     refine ⟨oi,ei,q1,fun vals ha=>q2 vals (agrees_snoc ha).1,?_⟩
     rw [getD_snoc vs v V.und hi']
     split
     · rename_i hm;rw [if_pos hm] at q3;exact q3
     · rename_i hm
       rw [if_neg hm] at q3
       rcases q3 with q3 | ⟨q3,q4⟩
       · exact .inl q3
       · exact .inr ⟨q3,hpp _ q4⟩
   have more:∀ (v:V) (h':AH),(∀ q∈later gs.length h' pend,q)→∀ i,i < vs.length→Op2 P N ops es e0 (vs++[v]) (gs++[h']) pend i:=by
     intro v h' hq i hi'
     obtain ⟨oi,ei,q1,q2,q3⟩:=u.lex i hi'
     refine ⟨oi,ei,q1,fun vals ha=>q2 vals (agrees_snoc ha).1,?_⟩
     rw [getD_snoc vs v V.und hi']
     split
     · rename_i hm
       rw [if_pos hm] at q3
       refine ⟨by simp;omega,?_⟩
       rw [getD_snoc gs h' AH0 (by omega),getD_snoc gs h' AH0 q3.1]
       exact q3.2
     · rename_i hm
       rw [if_neg hm] at q3
       rcases q3 with q3 | ⟨q3,q4⟩
       · exact .inl q3
       · refine .inr ⟨fun k k1 k2 k3=>?_,q4⟩
         rcases Nat.lt_or_ge k gs.length with hk | hk
         · rw [getD_snoc gs h' AH0 hk];exact q3 k k1 k2 hk
         · have:k=gs.length:=by simp at k3;omega
           subst this
           rw [getD_last gs h' AH0]
           refine hq (yields P oi.op ei h' h' (vs.getD i .und)) ?_
           exact List.mem_map.2 ⟨_,List.mem_filter.2 ⟨q4,by simpa using k2⟩,rfl⟩
   simp only [vc2] at hv
   cases hes:es.contains vs.length with
   | true =>
     rw [hes] at hv
     try simp only [bsel_true] at hv
     have hmem:vs.length∈es:=by simpa using hes
     obtain ⟨v,h',hy,hv⟩:=yields_of_vcE hv
     obtain ⟨hl,hv⟩:=andL_all hv
     have hrk:rank es (vs.length + 1)=rank es vs.length + 1:=by rw [rank_succ hp,if_pos hmem]
     have hu:Upto2 P N ops es e0 (vs++[v]) (gs++[h']) h' pend (Env.put N o.dst v e):=by
       refine ⟨bel v,fun i hi'=>?_,?_,?_⟩
       · rcases Nat.lt_or_ge i vs.length with hlt | hge
         · exact more v h' hl i hlt
         · obtain rfl:i=vs.length:=by rw [hl1] at hi';omega
           refine ⟨o,e,ho,fun vals ha=>u.below vals (agrees_snoc ha).1,?_⟩
           rw [if_pos hmem,getD_last vs v V.und]
           have:=u.len
           refine ⟨by simp;omega,?_⟩
           rw [getD_snoc gs h' AH0 (by omega),u.cur,show rank es vs.length + 1=gs.length from u.len.symm,getD_last gs h' AH0]
           exact hy
       · rw [hl1,hrk];simp [u.len]
       · rw [hl1,hrk,← u.len,getD_last]
     obtain ⟨vs',gs',h2,pend',e',r1,r2,r3,r4⟩:=run2_ok hp l (vs++[v]) (gs++[h']) h' pend _ (next v) hu (by rw [hl1];exact hv)
     exact ⟨vs',gs',h2,pend',e',by rw [r1,hl1];simp;omega,by rw [r2,getD_snoc gs h' AH0 hg0],r3,r4⟩
   | false =>
     rw [hes] at hv
     try simp only [bsel_false] at hv
     have hmem:vs.length ∉ es:=by simpa using hes
     have hrk:rank es (vs.length + 1)=rank es vs.length:=by rw [rank_succ hp,if_neg hmem];rfl
     cases hml:memless o.op with
     | true =>
       rw [hml] at hv
       try simp only [bsel_true] at hv
       obtain ⟨v,hy,hv⟩:=yields_of_vcQ hv
       have hu:Upto2 P N ops es e0 (vs++[v]) gs h pend (Env.put N o.dst v e):=by
         refine ⟨bel v,fun i hi'=>?_,by rw [hl1,hrk];exact u.len,by rw [hl1,hrk];exact u.cur⟩
         rcases Nat.lt_or_ge i vs.length with hlt | hge
         · exact old v pend (fun _ h=>h) i hlt
         · obtain rfl:i=vs.length:=by rw [hl1] at hi';omega
           refine ⟨o,e,ho,fun vals ha=>u.below vals (agrees_snoc ha).1,?_⟩
           rw [if_neg hmem,getD_last vs v V.und]
           exact .inl ⟨hml,h,hy⟩
       obtain ⟨vs',gs',h2,pend',e',r1,r2,r3,r4⟩:=run2_ok hp l (vs++[v]) gs h pend _ (next v) hu (by rw [hl1];exact hv)
       exact ⟨vs',gs',h2,pend',e',by rw [r1,hl1];simp;omega,r2,r3,r4⟩
     | false =>
       rw [hml] at hv
       try simp only [bsel_false] at hv
       obtain ⟨v,hy,hv⟩:=yields_of_vcQ hv
       obtain ⟨hst,hv⟩:=andL_all hv
       have hu:Upto2 P N ops es e0 (vs++[v]) gs h ((hiOf (befs ops) es vs.length,fun g=>yields P o.op e g g v) :: pend) (Env.put N o.dst v e):=by
         refine ⟨bel v,fun i hi'=>?_,by rw [hl1,hrk];exact u.len,by rw [hl1,hrk];exact u.cur⟩
         rcases Nat.lt_or_ge i vs.length with hlt | hge
         · exact old v _ (fun _ h=>List.mem_cons_of_mem _ h) i hlt
         · obtain rfl:i=vs.length:=by rw [hl1] at hi';omega
           refine ⟨o,e,ho,fun vals ha=>u.below vals (agrees_snoc ha).1,?_⟩
           rw [if_neg hmem,getD_last vs v V.und]
           refine .inr ⟨fun k k1 k2 k3=>?_,List.mem_cons_self⟩
           have hlen:=u.len
           by_cases hk:k=rank es vs.length
           · subst hk;rw [u.cur];exact hy
           · have hk':k < gs.length - 1:=by omega
             refine hst (yields P o.op e (gs.getD k AH0) (gs.getD k AH0) v) ?_
             unfold stages
             refine List.mem_map.2 ⟨gs.getD k AH0,?_,rfl⟩
             rw [List.mem_iff_getElem?]
             refine ⟨k - loOf (befs ops) es vs.length,?_⟩
             rw [List.getElem?_drop,show loOf (befs ops) es vs.length + (k - loOf (befs ops) es vs.length)=k by omega,List.getElem?_dropLast,if_pos hk']
             rw [List.getD_eq_getElem?_getD,List.getElem?_eq_getElem (by omega)]
             rfl
       obtain ⟨vs',gs',h2,pend',e',r1,r2,r3,r4⟩:=run2_ok hp l (vs++[v]) gs h _ _ (next v) hu (by rw [hl1];exact hv)
       exact ⟨vs',gs',h2,pend',e',by rw [r1,hl1];simp;omega,r2,r3,r4⟩
end
def draw2Ok (P:Program) (N:Nat) (ops:Array Oper) (es:List Nat):Bool :=
 drawOk P ops && chainB (befs ops) es && (es.all fun j=>decide (j < ops.size)) && (ops.all fun o=>o.guard.isNone) && ((List.range ops.size).all fun j=>(litAt N ops j).isNone)
theorem vcDraw2_ok (K:Ok P) {N:Nat} {ops:Array Oper} {es:List Nat} {id:Nat} {Q:AExit→Env→AH→Prop} {e:Env} {a:Act} (hd:draw2Ok P N ops es=true) (F:Fits P B ι h W) (r:relE P ι N D e a)
   (hv:vc2 P N (befs ops) es 0 ops.toList [h] h [] (Q .normal) e):(Code.region id ops true).wp P (Post P B ι N D Q) a W:=by
 unfold draw2Ok drawOk at hd
 simp only [Bool.and_eq_true] at hd
 obtain ⟨⟨⟨⟨⟨⟨h1,h2⟩,h3⟩,h4⟩,h5⟩,h6⟩,h7⟩:=hd
 have hp:=chain_spec h4
 have hr0:rank es 0=0:=by unfold rank;rw [List.countP_eq_zero];intro e _;simp
 obtain ⟨vs,gs,h',pend,e',r1,r2,r3,r4⟩:=run2_ok (P:=P) (N:=N) (ops:=ops) (es:=es) (e0:=e) hp ops.toList [] [h] h [] e (by intro i hi;simp)
   ⟨fun vals _ t=>.inr rfl,fun i hi=>by simp at hi,by simp [hr0],by simp [hr0]⟩ hv
 simp only [List.length_nil,Nat.zero_add,Array.length_toList] at r1
 have ha:agrees (fun i=>vs.getD i .und) vs:=fun k _=>rfl
 have hlit:∀ j,litAt N ops j=none:=by
   intro j
   rcases Nat.lt_or_ge j ops.size with hj | hj
   · have:=List.all_eq_true.1 h7 j (List.mem_range.2 hj)
     simpa using this
   · unfold litAt;rw [Array.getElem?_eq_none hj]
 have hrn:rank es ops.size=es.length:=by
   unfold rank
   rw [List.countP_eq_length]
   intro j hj
   exact List.all_eq_true.1 h5 j hj
 have hlen:gs.length=es.length + 1:=by rw [r3.len,r1,hrn]
 refine draws_ok (N:=N) (vals:=fun i=>vs.getD i .und) (mem:=fun S=>gs.getD (cnt es S) AH0) (e0:=e) (D:=fun _=>D) K h1 h2 h3 (fun j hj=>?_) (hfin:=h') (fun S hS=>?_) rfl (fun _ _=>rfl) ?_ r (e:=e') ?_ r4
 · obtain ⟨o,ej,q1,q2,q3⟩:=r3.lex j (by rw [r1];exact hj)
   have hgd:o.guard=none:=by
     rw [Array.all_eq_true'] at h6
     have:=h6 o (Array.mem_of_getElem? q1)
     simpa using this
   refine .ord (hlit j) (fun i _=>hlit i) ej (q2 _ ha) o q1 (by unfold want;rw [hgd]) (fun S hc hr=>?_) fun _ _ _=>rfl
   by_cases hm:j∈es
   · rw [if_pos hm] at q3
     rw [cnt_add_mem hp hm hr.1,cnt_eff hp hm hc hr]
     exact q3.2
   · rw [if_neg hm] at q3
     rw [cnt_add_not hm]
     rcases q3 with ⟨q3,g,q4⟩ | ⟨q3,_⟩
     · exact memless_ok q3 q4
     · exact q3 _ (cnt_lo hc hr) (cnt_hi hc hr) (by rw [hlen];have:=cnt_le (es:=es) (S:=S);omega)
 · have:cnt es S=es.length:=by
     unfold cnt
     rw [List.countP_eq_length]
     intro j hj
     exact hS j (by have:=List.all_eq_true.1 h5 j hj;simpa using this)
   rw [this,← hrn,← r1]
   exact r3.cur
 · have:cnt es (fun _=>false)=0:=by unfold cnt;rw [List.countP_eq_zero];intro _ _;simp
   rw [this,r2]
   exact F
 · have:=r3.below _ ha
   rw [r1] at this
   exact this
end Go.Ab
