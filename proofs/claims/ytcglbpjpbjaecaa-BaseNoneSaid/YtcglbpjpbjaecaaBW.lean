import Derived.Test.YtcglbpjpbjaecaaBT
set_option linter.unusedVariables false
set_option linter.unusedSimpArgs false
namespace Go.Proofs.Ytcglbpjpbjaecaa.Ru
open Go Go.Ab Go.RowKit
/-- The fixed run at the law's end, by the kernel. -/
theorem awakeRun : ((exTab Pg FT hd pu 60).ex Unit 14 [] HT0 (retK isTrue)).isSome = true := by kernel_rfl
end Go.Proofs.Ytcglbpjpbjaecaa.Ru
