import Derived.Test.YtcglbpjpbjaecaaGreatCa
set_option linter.unusedVariables false
set_option linter.unusedSimpArgs false
namespace Go.Proofs.YtcglbpjpbjaecaaGreat.Ru
open Go Go.Ab Go.RowKit
set_option maxRecDepth 100000
theorem Carun3 : (exTabM Pg FT hd (allMemo []) pu 60).ex (V × HT) Cam3.f Cam3.args ⟨Cam3.H.next, Cam3.H.next, Cam3.H.tr⟩ pairK = some (Cam3.v, Cam3.H') := by kernel_rfl
theorem Camok3 (hh : HdOk Pg hd) : MemoOk Pg Cam3 := memo_of okP tabOk hh (allMemo_ok (l := []) trivial) (own_of Caown6) Carun3
end Go.Proofs.YtcglbpjpbjaecaaGreat.Ru
namespace Go.Proofs.YtcglbpjpbjaecaaGreat.Ru
open Go Go.Ab Go.RowKit
set_option maxRecDepth 100000
theorem Carun5 : (exTabM Pg FT hd (allMemo []) pu 60).ex (V × HT) Cam5.f Cam5.args ⟨Cam5.H.next, Cam5.H.next, Cam5.H.tr⟩ pairK = some (Cam5.v, Cam5.H') := by kernel_rfl
theorem Camok5 (hh : HdOk Pg hd) : MemoOk Pg Cam5 := memo_of okP tabOk hh (allMemo_ok (l := []) trivial) (own_of Caown8) Carun5
end Go.Proofs.YtcglbpjpbjaecaaGreat.Ru
