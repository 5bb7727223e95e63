import Derived.Test.YtdfgfbammkojoaaF11
set_option linter.unusedVariables false
set_option linter.unusedSimpArgs false
namespace Go.Ab
open Go Go.RowKit
structure FD where
 nt:Nat
 rs:List ResultVar
 code:Code
 flat:Bool
 df:Bool
structure Exs where
 ex:CallF
 exd:CallF
abbrev HdF:=FuncId→List V→Option V
def FdOk (P:Program) (f:FuncId) (d:FD):Prop:=∃ fn,P.funcs[f]?=some fn∧fn.body=some d.code∧fn.ntmps=d.nt∧fn.results.toList=d.rs∧entersOk P f=true
section
variable {R:Type} (P:Program)
variable {P}
variable (P)
variable {P}
variable (P)
variable {P}
end
end Go.Ab
namespace Go.Ab
open Go Go.RowKit
end Go.Ab
namespace Go.Ab
open Go Go.RowKit
end Go.Ab
