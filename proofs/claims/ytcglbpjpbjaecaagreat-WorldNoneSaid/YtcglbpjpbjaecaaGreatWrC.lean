import Derived.Test.YtcglbpjpbjaecaaGreatWoB
import Derived.Test.YtcglbpjpbjaecaaGreatWH
import Derived.Test.YtcglbpjpbjaecaaGreatWrA
import Derived.Test.YtcglbpjpbjaecaaGreatWrB
set_option linter.unusedVariables false
set_option linter.unusedSimpArgs false
namespace Go.Proofs.YtcglbpjpbjaecaaGreat.Ru
open Go Go.Ab Go.RowKit
set_option maxRecDepth 100000
theorem Worun3 : (exTabM Pg FT hdW (allMemo [Wom0, Wom2]) pu 60).ex (V × HT) Wom3.f Wom3.args ⟨Wom3.H.next, Wom3.H.next, Wom3.H.tr⟩ pairK = some (Wom3.v, Wom3.H') := by kernel_rfl
theorem Womok3 (hh : HdOk Pg hd) : MemoOk Pg Wom3 := memo_of okP tabOk (hdW_ok hh) (allMemo_ok (l := [Wom0, Wom2]) ⟨Womok0 hh, Womok2 hh, trivial⟩) (own_of Woown4) Worun3
end Go.Proofs.YtcglbpjpbjaecaaGreat.Ru
