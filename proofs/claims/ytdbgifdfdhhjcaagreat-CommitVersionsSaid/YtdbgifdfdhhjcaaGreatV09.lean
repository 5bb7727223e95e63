import Derived.Test.YtdbgifdfdhhjcaaGreatV06
set_option linter.unusedVariables false
set_option linter.unusedSimpArgs false
set_option linter.unusedSectionVars false
noncomputable section
namespace Go.Ab
open Go Go.RowKit
def kix:IntKind->Nat
 | .i8=>0 | .i16=>1 | .i32=>2 | .i64=>3 | .u8=>4 | .u16=>5 | .u32=>6 | .u64=>7
def eqK (k k':IntKind):Bool:=Nat.beq (kix k) (kix k')
section
variable (P:Program)
end
end Go.Ab
end
