import Derived.Test.YtcglbpjpbjaecaaGreatS16
import Derived.Test.YtcglbpjpbjaecaaGreatS15
set_option linter.unusedVariables false
set_option linter.unusedSimpArgs false
namespace Go.Proofs.YtcglbpjpbjaecaaGreat.Ru
open Go Go.Ab Go.RowKit
set_option maxRecDepth 100000
theorem Strun49 : (exTabM Pg FT hdW (orMemo Sh.keysHm (allMemoC [])) pu 60).ex (V × HT) Stm49.f Stm49.args ⟨Stm49.H.next, Stm49.H.next, Stm49.H.tr⟩ (pairP [(695, 12)]) = some (Stm49.v, Stm49.H') := by kernel_rfl
theorem Stmok49 (hh : HdOk Pg hd) : MemoOk Pg Stm49 := memo_ofP okP tabOk (hdW_ok hh) (orMemo_ok Sh.keysHm_ok (allMemoC_ok (l := []) trivial)) [(695, 12)] (own_of Stown98) Strun49
end Go.Proofs.YtcglbpjpbjaecaaGreat.Ru
namespace Go.Proofs.YtcglbpjpbjaecaaGreat.Ru
open Go Go.Ab Go.RowKit
set_option maxRecDepth 100000
theorem Strun50 : (exTabM Pg FT hdW (orMemo Sh.keysHm (allMemoC [])) pu 60).ex (V × HT) Stm50.f Stm50.args ⟨Stm50.H.next, Stm50.H.next, Stm50.H.tr⟩ (pairP [(709, 12)]) = some (Stm50.v, Stm50.H') := by kernel_rfl
theorem Stmok50 (hh : HdOk Pg hd) : MemoOk Pg Stm50 := memo_ofP okP tabOk (hdW_ok hh) (orMemo_ok Sh.keysHm_ok (allMemoC_ok (l := []) trivial)) [(709, 12)] (own_of Stown100) Strun50
end Go.Proofs.YtcglbpjpbjaecaaGreat.Ru
namespace Go.Proofs.YtcglbpjpbjaecaaGreat.Ru
open Go Go.Ab Go.RowKit
set_option maxRecDepth 100000
theorem Strun51 : (exTabM Pg FT hdW (orMemo Sh.keysHm (allMemoC [])) pu 60).ex (V × HT) Stm51.f Stm51.args ⟨Stm51.H.next, Stm51.H.next, Stm51.H.tr⟩ (pairP [(723, 12)]) = some (Stm51.v, Stm51.H') := by kernel_rfl
theorem Stmok51 (hh : HdOk Pg hd) : MemoOk Pg Stm51 := memo_ofP okP tabOk (hdW_ok hh) (orMemo_ok Sh.keysHm_ok (allMemoC_ok (l := []) trivial)) [(723, 12)] (own_of Stown102) Strun51
end Go.Proofs.YtcglbpjpbjaecaaGreat.Ru
namespace Go.Proofs.YtcglbpjpbjaecaaGreat.Ru
open Go Go.Ab Go.RowKit
set_option maxRecDepth 100000
theorem Strun52 : (exTabM Pg FT hdW (orMemo Sh.keysHm (allMemoC [])) pu 60).ex (V × HT) Stm52.f Stm52.args ⟨Stm52.H.next, Stm52.H.next, Stm52.H.tr⟩ (pairP [(737, 12)]) = some (Stm52.v, Stm52.H') := by kernel_rfl
theorem Stmok52 (hh : HdOk Pg hd) : MemoOk Pg Stm52 := memo_ofP okP tabOk (hdW_ok hh) (orMemo_ok Sh.keysHm_ok (allMemoC_ok (l := []) trivial)) [(737, 12)] (own_of Stown104) Strun52
end Go.Proofs.YtcglbpjpbjaecaaGreat.Ru
namespace Go.Proofs.YtcglbpjpbjaecaaGreat.Ru
open Go Go.Ab Go.RowKit
set_option maxRecDepth 100000
theorem Strun53 : (exTabM Pg FT hdW (orMemo Sh.keysHm (allMemoC [])) pu 60).ex (V × HT) Stm53.f Stm53.args ⟨Stm53.H.next, Stm53.H.next, Stm53.H.tr⟩ (pairP [(751, 12)]) = some (Stm53.v, Stm53.H') := by kernel_rfl
theorem Stmok53 (hh : HdOk Pg hd) : MemoOk Pg Stm53 := memo_ofP okP tabOk (hdW_ok hh) (orMemo_ok Sh.keysHm_ok (allMemoC_ok (l := []) trivial)) [(751, 12)] (own_of Stown106) Strun53
end Go.Proofs.YtcglbpjpbjaecaaGreat.Ru
namespace Go.Proofs.YtcglbpjpbjaecaaGreat.Ru
open Go Go.Ab Go.RowKit
set_option maxRecDepth 100000
theorem Strun54 : (exTabM Pg FT hdW (orMemo Sh.keysHm (allMemoC [])) pu 60).ex (V × HT) Stm54.f Stm54.args ⟨Stm54.H.next, Stm54.H.next, Stm54.H.tr⟩ (pairP [(765, 12)]) = some (Stm54.v, Stm54.H') := by kernel_rfl
theorem Stmok54 (hh : HdOk Pg hd) : MemoOk Pg Stm54 := memo_ofP okP tabOk (hdW_ok hh) (orMemo_ok Sh.keysHm_ok (allMemoC_ok (l := []) trivial)) [(765, 12)] (own_of Stown108) Strun54
end Go.Proofs.YtcglbpjpbjaecaaGreat.Ru
namespace Go.Proofs.YtcglbpjpbjaecaaGreat.Ru
open Go Go.Ab Go.RowKit
set_option maxRecDepth 100000
theorem Strun55 : (exTabM Pg FT hdW (orMemo Sh.keysHm (allMemoC [])) pu 60).ex (V × HT) Stm55.f Stm55.args ⟨Stm55.H.next, Stm55.H.next, Stm55.H.tr⟩ (pairP [(779, 12)]) = some (Stm55.v, Stm55.H') := by kernel_rfl
theorem Stmok55 (hh : HdOk Pg hd) : MemoOk Pg Stm55 := memo_ofP okP tabOk (hdW_ok hh) (orMemo_ok Sh.keysHm_ok (allMemoC_ok (l := []) trivial)) [(779, 12)] (own_of Stown110) Strun55
end Go.Proofs.YtcglbpjpbjaecaaGreat.Ru
