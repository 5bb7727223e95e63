import Derived.Test.YtcglbpjpbjaecaaGreatS16
import Derived.Test.YtcglbpjpbjaecaaGreatS15
set_option linter.unusedVariables false
set_option linter.unusedSimpArgs false
namespace Go.Proofs.YtcglbpjpbjaecaaGreat.Ru
open Go Go.Ab Go.RowKit
set_option maxRecDepth 100000
theorem Strun70 : (exTabM Pg FT hdW (orMemo Sh.keysHm (allMemoC [])) pu 60).ex (V × HT) Stm70.f Stm70.args ⟨Stm70.H.next, Stm70.H.next, Stm70.H.tr⟩ (pairP [(989, 12)]) = some (Stm70.v, Stm70.H') := by kernel_rfl
theorem Stmok70 (hh : HdOk Pg hd) : MemoOk Pg Stm70 := memo_ofP okP tabOk (hdW_ok hh) (orMemo_ok Sh.keysHm_ok (allMemoC_ok (l := []) trivial)) [(989, 12)] (own_of Stown140) Strun70
end Go.Proofs.YtcglbpjpbjaecaaGreat.Ru
namespace Go.Proofs.YtcglbpjpbjaecaaGreat.Ru
open Go Go.Ab Go.RowKit
set_option maxRecDepth 100000
theorem Strun71 : (exTabM Pg FT hdW (orMemo Sh.keysHm (allMemoC [])) pu 60).ex (V × HT) Stm71.f Stm71.args ⟨Stm71.H.next, Stm71.H.next, Stm71.H.tr⟩ (pairP [(1003, 12)]) = some (Stm71.v, Stm71.H') := by kernel_rfl
theorem Stmok71 (hh : HdOk Pg hd) : MemoOk Pg Stm71 := memo_ofP okP tabOk (hdW_ok hh) (orMemo_ok Sh.keysHm_ok (allMemoC_ok (l := []) trivial)) [(1003, 12)] (own_of Stown142) Strun71
end Go.Proofs.YtcglbpjpbjaecaaGreat.Ru
namespace Go.Proofs.YtcglbpjpbjaecaaGreat.Ru
open Go Go.Ab Go.RowKit
set_option maxRecDepth 100000
theorem Strun72 : (exTabM Pg FT hdW (orMemo Sh.keysHm (allMemoC [])) pu 60).ex (V × HT) Stm72.f Stm72.args ⟨Stm72.H.next, Stm72.H.next, Stm72.H.tr⟩ (pairP [(1017, 12)]) = some (Stm72.v, Stm72.H') := by kernel_rfl
theorem Stmok72 (hh : HdOk Pg hd) : MemoOk Pg Stm72 := memo_ofP okP tabOk (hdW_ok hh) (orMemo_ok Sh.keysHm_ok (allMemoC_ok (l := []) trivial)) [(1017, 12)] (own_of Stown144) Strun72
end Go.Proofs.YtcglbpjpbjaecaaGreat.Ru
namespace Go.Proofs.YtcglbpjpbjaecaaGreat.Ru
open Go Go.Ab Go.RowKit
set_option maxRecDepth 100000
theorem Strun73 : (exTabM Pg FT hdW (orMemo Sh.keysHm (allMemoC [])) pu 60).ex (V × HT) Stm73.f Stm73.args ⟨Stm73.H.next, Stm73.H.next, Stm73.H.tr⟩ (pairP [(1031, 12)]) = some (Stm73.v, Stm73.H') := by kernel_rfl
theorem Stmok73 (hh : HdOk Pg hd) : MemoOk Pg Stm73 := memo_ofP okP tabOk (hdW_ok hh) (orMemo_ok Sh.keysHm_ok (allMemoC_ok (l := []) trivial)) [(1031, 12)] (own_of Stown146) Strun73
end Go.Proofs.YtcglbpjpbjaecaaGreat.Ru
namespace Go.Proofs.YtcglbpjpbjaecaaGreat.Ru
open Go Go.Ab Go.RowKit
set_option maxRecDepth 100000
theorem Strun74 : (exTabM Pg FT hdW (orMemo Sh.keysHm (allMemoC [])) pu 60).ex (V × HT) Stm74.f Stm74.args ⟨Stm74.H.next, Stm74.H.next, Stm74.H.tr⟩ (pairP [(1045, 12)]) = some (Stm74.v, Stm74.H') := by kernel_rfl
theorem Stmok74 (hh : HdOk Pg hd) : MemoOk Pg Stm74 := memo_ofP okP tabOk (hdW_ok hh) (orMemo_ok Sh.keysHm_ok (allMemoC_ok (l := []) trivial)) [(1045, 12)] (own_of Stown148) Strun74
end Go.Proofs.YtcglbpjpbjaecaaGreat.Ru
namespace Go.Proofs.YtcglbpjpbjaecaaGreat.Ru
open Go Go.Ab Go.RowKit
set_option maxRecDepth 100000
theorem Strun75 : (exTabM Pg FT hdW (orMemo Sh.keysHm (allMemoC [])) pu 60).ex (V × HT) Stm75.f Stm75.args ⟨Stm75.H.next, Stm75.H.next, Stm75.H.tr⟩ (pairP [(1059, 12)]) = some (Stm75.v, Stm75.H') := by kernel_rfl
theorem Stmok75 (hh : HdOk Pg hd) : MemoOk Pg Stm75 := memo_ofP okP tabOk (hdW_ok hh) (orMemo_ok Sh.keysHm_ok (allMemoC_ok (l := []) trivial)) [(1059, 12)] (own_of Stown150) Strun75
end Go.Proofs.YtcglbpjpbjaecaaGreat.Ru
namespace Go.Proofs.YtcglbpjpbjaecaaGreat.Ru
open Go Go.Ab Go.RowKit
set_option maxRecDepth 100000
theorem Strun76 : (exTabM Pg FT hdW (orMemo Sh.keysHm (allMemoC [])) pu 60).ex (V × HT) Stm76.f Stm76.args ⟨Stm76.H.next, Stm76.H.next, Stm76.H.tr⟩ (pairP [(1073, 12)]) = some (Stm76.v, Stm76.H') := by kernel_rfl
theorem Stmok76 (hh : HdOk Pg hd) : MemoOk Pg Stm76 := memo_ofP okP tabOk (hdW_ok hh) (orMemo_ok Sh.keysHm_ok (allMemoC_ok (l := []) trivial)) [(1073, 12)] (own_of Stown152) Strun76
end Go.Proofs.YtcglbpjpbjaecaaGreat.Ru
