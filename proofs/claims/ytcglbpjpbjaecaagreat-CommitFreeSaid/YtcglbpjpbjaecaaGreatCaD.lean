import Derived.Test.YtcglbpjpbjaecaaGreatCa
import Derived.Test.YtcglbpjpbjaecaaGreatCaA
import Derived.Test.YtcglbpjpbjaecaaGreatCaB
import Derived.Test.YtcglbpjpbjaecaaGreatCaC
set_option linter.unusedVariables false
set_option linter.unusedSimpArgs false
namespace Go.Proofs.YtcglbpjpbjaecaaGreat.Ru
open Go Go.Ab Go.RowKit
set_option maxRecDepth 100000
theorem Carun4 : (exTabM Pg FT hd (allMemo [Cam1, Cam2, Cam3]) pu 60).ex (V × HT) Cam4.f Cam4.args ⟨Cam4.H.next, Cam4.H.next, Cam4.H.tr⟩ pairK = some (Cam4.v, Cam4.H') := by kernel_rfl
theorem Camok4 (hh : HdOk Pg hd) : MemoOk Pg Cam4 := memo_of okP tabOk hh (allMemo_ok (l := [Cam1, Cam2, Cam3]) ⟨Camok1 hh, Camok2 hh, Camok3 hh, trivial⟩) (own_of Caown1) Carun4
end Go.Proofs.YtcglbpjpbjaecaaGreat.Ru
namespace Go.Proofs.YtcglbpjpbjaecaaGreat.Ru
open Go Go.Ab Go.RowKit
set_option maxRecDepth 100000
theorem Carun6 : (exTabM Pg FT hd (allMemo [Cam5]) pu 60).ex (V × HT) Cam6.f Cam6.args ⟨Cam6.H.next, Cam6.H.next, Cam6.H.tr⟩ pairK = some (Cam6.v, Cam6.H') := by kernel_rfl
theorem Camok6 (hh : HdOk Pg hd) : MemoOk Pg Cam6 := memo_of okP tabOk hh (allMemo_ok (l := [Cam5]) ⟨Camok5 hh, trivial⟩) (own_of Caown10) Carun6
end Go.Proofs.YtcglbpjpbjaecaaGreat.Ru
namespace Go.Proofs.YtcglbpjpbjaecaaGreat.Ru
open Go Go.Ab Go.RowKit
set_option maxRecDepth 100000
theorem Carun7 : (exTabM Pg FT hd (allMemo [Cam0, Cam4, Cam6]) pu 60).ex (V × HT) Cam7.f Cam7.args ⟨Cam7.H.next, Cam7.H.next, Cam7.H.tr⟩ pairK = some (Cam7.v, Cam7.H') := by kernel_rfl
theorem Camok7 (hh : HdOk Pg hd) : MemoOk Pg Cam7 := memo_of okP tabOk hh (allMemo_ok (l := [Cam0, Cam4, Cam6]) ⟨Camok0 hh, Camok4 hh, Camok6 hh, trivial⟩) (own_of Caown0) Carun7
end Go.Proofs.YtcglbpjpbjaecaaGreat.Ru
