import Derived.Test.YtdbgifdfdhhjcaaGreatV11
set_option linter.unusedVariables false
set_option linter.unusedSimpArgs false
set_option linter.unusedSectionVars false
noncomputable section
namespace Go.Ab
open Go Go.RowKit
structure FD where
 nt:Nat
 rs:List ResultVar
 code:Code
 flat:Bool
 df:Bool
structure Exs where
 ex:AS
 exd:AS
abbrev HdF:=FuncId->List V->Option V
def FdOk (P:Program) (f:FuncId) (d:FD):Prop:=∃ fn,P.funcs[f]?=some fn/\fn.body=some d.code/\fn.ntmps=d.nt/\fn.results.toList=d.rs/\vZ P f=true
section
variable {R:Type} (P:Program)
variable {P}
variable (P)
variable {P}
variable (P)
variable {P}
end
end Go.Ab
end
