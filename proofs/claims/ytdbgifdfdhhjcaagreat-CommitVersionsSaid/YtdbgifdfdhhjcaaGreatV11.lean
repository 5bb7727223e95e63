import Derived.Test.YtdbgifdfdhhjcaaGreatV10
set_option linter.unusedVariables false
set_option linter.unusedSimpArgs false
set_option linter.unusedSectionVars false
noncomputable section
namespace Go.Ab
open Go Go.RowKit
section
variable (P:Program) (N:Nat)
variable {P N}
variable (P N)
variable {P N}
variable (P N)
variable {P N}
variable (P N)
variable {P N}
variable (P N)
variable {P N}
inductive bI:List (Nat × (HT->Bool))->List (Nat × (AH->Prop))->Prop where
 | nil:bI [] []
 | cons {n:Nat} {f:HT->Bool} {g:AH->Prop} {l m}:(∀ H:HT,H.Own->f H=true->g H.ah)->bI l m->bI ((n,f) :: l) ((n,g) :: m)
theorem bI.qB {n:Nat} {H:HT} (mv:H.Own):∀ {l:List (Nat × (HT->Bool))} {m:List (Nat × (AH->Prop))},bI l m->(l.filter λp=>decide (n<=p.1)).all (λp=>p.2 H)=true->∀ q∈qB n H.ah m,q
 | _,_,.nil,_,q,hq=>by cases hq
 | _,_,.cons (n:=n0) (f:=f) (g:=g) (l:=l) (m:=m) h1 h2,ha,q,hq=>by
  unfold Go.Ab.qB at hq;by_cases hn:n<=n0
  ·rw [List.filter_cons_of_pos (by simpa using hn)] at ha hq;simp only [List.all_cons,Bool.and_eq_true] at ha;simp only [List.map_cons,List.mem_cons] at hq;rcases hq with rfl | hq
   ·exact h1 _ mv ha.1
   ·exact bI.qB mv h2 ha.2 q hq
  ·rw [List.filter_cons_of_neg (by simpa using hn)] at ha hq;exact bI.qB mv h2 ha q hq
variable (P N)
variable {P N}
end
def z2b (pu:FuncId->Bool) (o:Oper):Bool :=
 match o.op with
 | .call { callee:=.builtin b,args:=args,argTypes:=ts }=>!kA (.call { callee:=.builtin b,args:=args,argTypes:=ts })
 | .call { callee:=.value (.func f),.. }=>!pu f
 | .call _=>true
 | op=>!kA op
inductive Plan where
 | z03
 | nG (es:List Nat)
 | flo (es fl:List Nat) (l:Nat)
section
variable (P:Program) (N:Nat)
variable {P N}
variable (P N)
variable {P N}
variable (P N)
variable {P N}
end
end Go.Ab
end
