import Derived.Test.YtcglbpjpbjaecaaGreatCa
set_option linter.unusedVariables false
set_option linter.unusedSimpArgs false
namespace Go.Proofs.YtcglbpjpbjaecaaGreat.Ru
open Go Go.Ab Go.RowKit
set_option maxRecDepth 100000
theorem Carun0 : (exTabM Pg FT hd (allMemo []) pu 60).ex (V × HT) Cam0.f Cam0.args ⟨Cam0.H.next, Cam0.H.next, Cam0.H.tr⟩ pairK = some (Cam0.v, Cam0.H') := by kernel_rfl
theorem Camok0 (hh : HdOk Pg hd) : MemoOk Pg Cam0 := memo_of okP tabOk hh (allMemo_ok (l := []) trivial) (own_of Caown0) Carun0
end Go.Proofs.YtcglbpjpbjaecaaGreat.Ru
namespace Go.Proofs.YtcglbpjpbjaecaaGreat.Ru
open Go Go.Ab Go.RowKit
set_option maxRecDepth 100000
theorem Carun1 : (exTabM Pg FT hd (allMemo []) pu 60).ex (V × HT) Cam1.f Cam1.args ⟨Cam1.H.next, Cam1.H.next, Cam1.H.tr⟩ pairK = some (Cam1.v, Cam1.H') := by kernel_rfl
theorem Camok1 (hh : HdOk Pg hd) : MemoOk Pg Cam1 := memo_of okP tabOk hh (allMemo_ok (l := []) trivial) (own_of Caown2) Carun1
end Go.Proofs.YtcglbpjpbjaecaaGreat.Ru
