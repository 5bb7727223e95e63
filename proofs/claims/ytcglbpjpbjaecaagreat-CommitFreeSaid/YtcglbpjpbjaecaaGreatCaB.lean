import Derived.Test.YtcglbpjpbjaecaaGreatCa
set_option linter.unusedVariables false
set_option linter.unusedSimpArgs false
namespace Go.Proofs.YtcglbpjpbjaecaaGreat.Ru
open Go Go.Ab Go.RowKit
set_option maxRecDepth 100000
theorem Carun2 : (exTabM Pg FT hd (allMemo []) pu 60).ex (V × HT) Cam2.f Cam2.args ⟨Cam2.H.next, Cam2.H.next, Cam2.H.tr⟩ pairK = some (Cam2.v, Cam2.H') := by kernel_rfl
theorem Camok2 (hh : HdOk Pg hd) : MemoOk Pg Cam2 := memo_of okP tabOk hh (allMemo_ok (l := []) trivial) (own_of Caown4) Carun2
end Go.Proofs.YtcglbpjpbjaecaaGreat.Ru
