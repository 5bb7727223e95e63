import Derived.Test.YtcglbpjpbjaecaaGreatWoB
import Derived.Test.YtcglbpjpbjaecaaGreatWH
set_option linter.unusedVariables false
set_option linter.unusedSimpArgs false
namespace Go.Proofs.YtcglbpjpbjaecaaGreat.Ru
open Go Go.Ab Go.RowKit
set_option maxRecDepth 100000
theorem Worun0 : (exTabM Pg FT hdW (allMemo []) pu 60).ex (V × HT) Wom0.f Wom0.args ⟨Wom0.H.next, Wom0.H.next, Wom0.H.tr⟩ pairK = some (Wom0.v, Wom0.H') := by kernel_rfl
theorem Womok0 (hh : HdOk Pg hd) : MemoOk Pg Wom0 := memo_of okP tabOk (hdW_ok hh) (allMemo_ok (l := []) trivial) (own_of Woown0) Worun0
end Go.Proofs.YtcglbpjpbjaecaaGreat.Ru
