import Derived.Test.YtcglbpjpbjaecaaGreatS16
import Derived.Test.YtcglbpjpbjaecaaGreatS15
set_option linter.unusedVariables false
set_option linter.unusedSimpArgs false
namespace Go.Proofs.YtcglbpjpbjaecaaGreat.Ru
open Go Go.Ab Go.RowKit
set_option maxRecDepth 100000
theorem Strun196 : (exTabM Pg FT hdW (orMemo Sh.keysHm (allMemoC [])) pu 60).ex (V × HT) Stm196.f Stm196.args ⟨Stm196.H.next, Stm196.H.next, Stm196.H.tr⟩ (pairP [(3400, 6), (3407, 1)]) = some (Stm196.v, Stm196.H') := by kernel_rfl
theorem Stmok196 (hh : HdOk Pg hd) : MemoOk Pg Stm196 := memo_ofP okP tabOk (hdW_ok hh) (orMemo_ok Sh.keysHm_ok (allMemoC_ok (l := []) trivial)) [(3400, 6), (3407, 1)] (own_of Stown380) Strun196
end Go.Proofs.YtcglbpjpbjaecaaGreat.Ru
namespace Go.Proofs.YtcglbpjpbjaecaaGreat.Ru
open Go Go.Ab Go.RowKit
set_option maxRecDepth 100000
theorem Strun197 : (exTabM Pg FT hdW (orMemo Sh.keysHm (allMemoC [])) pu 60).ex (V × HT) Stm197.f Stm197.args ⟨Stm197.H.next, Stm197.H.next, Stm197.H.tr⟩ (pairP [(3410, 3)]) = some (Stm197.v, Stm197.H') := by kernel_rfl
theorem Stmok197 (hh : HdOk Pg hd) : MemoOk Pg Stm197 := memo_ofP okP tabOk (hdW_ok hh) (orMemo_ok Sh.keysHm_ok (allMemoC_ok (l := []) trivial)) [(3410, 3)] (own_of Stown382) Strun197
end Go.Proofs.YtcglbpjpbjaecaaGreat.Ru
namespace Go.Proofs.YtcglbpjpbjaecaaGreat.Ru
open Go Go.Ab Go.RowKit
set_option maxRecDepth 100000
theorem Strun198 : (exTabM Pg FT hdW (orMemo Sh.keysHm (allMemoC [])) pu 60).ex (V × HT) Stm198.f Stm198.args ⟨Stm198.H.next, Stm198.H.next, Stm198.H.tr⟩ (pairP [(3422, 9)]) = some (Stm198.v, Stm198.H') := by kernel_rfl
theorem Stmok198 (hh : HdOk Pg hd) : MemoOk Pg Stm198 := memo_ofP okP tabOk (hdW_ok hh) (orMemo_ok Sh.keysHm_ok (allMemoC_ok (l := []) trivial)) [(3422, 9)] (own_of Stown384) Strun198
end Go.Proofs.YtcglbpjpbjaecaaGreat.Ru
namespace Go.Proofs.YtcglbpjpbjaecaaGreat.Ru
open Go Go.Ab Go.RowKit
set_option maxRecDepth 100000
theorem Strun199 : (exTabM Pg FT hdW (orMemo Sh.keysHm (allMemoC [Stm198])) pu 60).ex (V × HT) Stm199.f Stm199.args ⟨Stm199.H.next, Stm199.H.next, Stm199.H.tr⟩ (pairP [(3414, 18)]) = some (Stm199.v, Stm199.H') := by kernel_rfl
theorem Stmok199 (hh : HdOk Pg hd) : MemoOk Pg Stm199 := memo_ofP okP tabOk (hdW_ok hh) (orMemo_ok Sh.keysHm_ok (allMemoC_ok (l := [Stm198]) ⟨Stmok198 hh, trivial⟩)) [(3414, 18)] (own_of Stown386) Strun199
end Go.Proofs.YtcglbpjpbjaecaaGreat.Ru
namespace Go.Proofs.YtcglbpjpbjaecaaGreat.Ru
open Go Go.Ab Go.RowKit
set_option maxRecDepth 100000
theorem Strun200 : (exTabM Pg FT hdW (orMemo Sh.keysHm (allMemoC [])) pu 60).ex (V × HT) Stm200.f Stm200.args ⟨Stm200.H.next, Stm200.H.next, Stm200.H.tr⟩ (pairP [(3440, 9)]) = some (Stm200.v, Stm200.H') := by kernel_rfl
theorem Stmok200 (hh : HdOk Pg hd) : MemoOk Pg Stm200 := memo_ofP okP tabOk (hdW_ok hh) (orMemo_ok Sh.keysHm_ok (allMemoC_ok (l := []) trivial)) [(3440, 9)] (own_of Stown388) Strun200
end Go.Proofs.YtcglbpjpbjaecaaGreat.Ru
namespace Go.Proofs.YtcglbpjpbjaecaaGreat.Ru
open Go Go.Ab Go.RowKit
set_option maxRecDepth 100000
theorem Strun201 : (exTabM Pg FT hdW (orMemo Sh.keysHm (allMemoC [Stm200])) pu 60).ex (V × HT) Stm201.f Stm201.args ⟨Stm201.H.next, Stm201.H.next, Stm201.H.tr⟩ (pairP [(3433, 109), (3543, 30)]) = some (Stm201.v, Stm201.H') := by kernel_rfl
theorem Stmok201 (hh : HdOk Pg hd) : MemoOk Pg Stm201 := memo_ofP okP tabOk (hdW_ok hh) (orMemo_ok Sh.keysHm_ok (allMemoC_ok (l := [Stm200]) ⟨Stmok200 hh, trivial⟩)) [(3433, 109), (3543, 30)] (own_of Stown390) Strun201
end Go.Proofs.YtcglbpjpbjaecaaGreat.Ru
namespace Go.Proofs.YtcglbpjpbjaecaaGreat.Ru
open Go Go.Ab Go.RowKit
set_option maxRecDepth 100000
theorem Strun202 : (exTabM Pg FT hdW (orMemo Sh.keysHm (allMemoC [])) pu 60).ex (V × HT) Stm202.f Stm202.args ⟨Stm202.H.next, Stm202.H.next, Stm202.H.tr⟩ (pairP [(3582, 12)]) = some (Stm202.v, Stm202.H') := by kernel_rfl
theorem Stmok202 (hh : HdOk Pg hd) : MemoOk Pg Stm202 := memo_ofP okP tabOk (hdW_ok hh) (orMemo_ok Sh.keysHm_ok (allMemoC_ok (l := []) trivial)) [(3582, 12)] (own_of Stown392) Strun202
end Go.Proofs.YtcglbpjpbjaecaaGreat.Ru
