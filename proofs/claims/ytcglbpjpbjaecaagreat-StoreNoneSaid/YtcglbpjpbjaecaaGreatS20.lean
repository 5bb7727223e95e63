import Derived.Test.YtcglbpjpbjaecaaGreatS16
import Derived.Test.YtcglbpjpbjaecaaGreatS15
set_option linter.unusedVariables false
set_option linter.unusedSimpArgs false
namespace Go.Proofs.YtcglbpjpbjaecaaGreat.Ru
open Go Go.Ab Go.RowKit
set_option maxRecDepth 100000
theorem Strun21 : (exTabM Pg FT hdW (orMemo Sh.keysHm (allMemoC [])) pu 60).ex (V × HT) Stm21.f Stm21.args ⟨Stm21.H.next, Stm21.H.next, Stm21.H.tr⟩ (pairP [(303, 12)]) = some (Stm21.v, Stm21.H') := by kernel_rfl
theorem Stmok21 (hh : HdOk Pg hd) : MemoOk Pg Stm21 := memo_ofP okP tabOk (hdW_ok hh) (orMemo_ok Sh.keysHm_ok (allMemoC_ok (l := []) trivial)) [(303, 12)] (own_of Stown42) Strun21
end Go.Proofs.YtcglbpjpbjaecaaGreat.Ru
namespace Go.Proofs.YtcglbpjpbjaecaaGreat.Ru
open Go Go.Ab Go.RowKit
set_option maxRecDepth 100000
theorem Strun22 : (exTabM Pg FT hdW (orMemo Sh.keysHm (allMemoC [])) pu 60).ex (V × HT) Stm22.f Stm22.args ⟨Stm22.H.next, Stm22.H.next, Stm22.H.tr⟩ (pairP [(317, 12)]) = some (Stm22.v, Stm22.H') := by kernel_rfl
theorem Stmok22 (hh : HdOk Pg hd) : MemoOk Pg Stm22 := memo_ofP okP tabOk (hdW_ok hh) (orMemo_ok Sh.keysHm_ok (allMemoC_ok (l := []) trivial)) [(317, 12)] (own_of Stown44) Strun22
end Go.Proofs.YtcglbpjpbjaecaaGreat.Ru
namespace Go.Proofs.YtcglbpjpbjaecaaGreat.Ru
open Go Go.Ab Go.RowKit
set_option maxRecDepth 100000
theorem Strun23 : (exTabM Pg FT hdW (orMemo Sh.keysHm (allMemoC [])) pu 60).ex (V × HT) Stm23.f Stm23.args ⟨Stm23.H.next, Stm23.H.next, Stm23.H.tr⟩ (pairP [(331, 12)]) = some (Stm23.v, Stm23.H') := by kernel_rfl
theorem Stmok23 (hh : HdOk Pg hd) : MemoOk Pg Stm23 := memo_ofP okP tabOk (hdW_ok hh) (orMemo_ok Sh.keysHm_ok (allMemoC_ok (l := []) trivial)) [(331, 12)] (own_of Stown46) Strun23
end Go.Proofs.YtcglbpjpbjaecaaGreat.Ru
namespace Go.Proofs.YtcglbpjpbjaecaaGreat.Ru
open Go Go.Ab Go.RowKit
set_option maxRecDepth 100000
theorem Strun24 : (exTabM Pg FT hdW (orMemo Sh.keysHm (allMemoC [])) pu 60).ex (V × HT) Stm24.f Stm24.args ⟨Stm24.H.next, Stm24.H.next, Stm24.H.tr⟩ (pairP [(345, 12)]) = some (Stm24.v, Stm24.H') := by kernel_rfl
theorem Stmok24 (hh : HdOk Pg hd) : MemoOk Pg Stm24 := memo_ofP okP tabOk (hdW_ok hh) (orMemo_ok Sh.keysHm_ok (allMemoC_ok (l := []) trivial)) [(345, 12)] (own_of Stown48) Strun24
end Go.Proofs.YtcglbpjpbjaecaaGreat.Ru
namespace Go.Proofs.YtcglbpjpbjaecaaGreat.Ru
open Go Go.Ab Go.RowKit
set_option maxRecDepth 100000
theorem Strun25 : (exTabM Pg FT hdW (orMemo Sh.keysHm (allMemoC [])) pu 60).ex (V × HT) Stm25.f Stm25.args ⟨Stm25.H.next, Stm25.H.next, Stm25.H.tr⟩ (pairP [(359, 12)]) = some (Stm25.v, Stm25.H') := by kernel_rfl
theorem Stmok25 (hh : HdOk Pg hd) : MemoOk Pg Stm25 := memo_ofP okP tabOk (hdW_ok hh) (orMemo_ok Sh.keysHm_ok (allMemoC_ok (l := []) trivial)) [(359, 12)] (own_of Stown50) Strun25
end Go.Proofs.YtcglbpjpbjaecaaGreat.Ru
namespace Go.Proofs.YtcglbpjpbjaecaaGreat.Ru
open Go Go.Ab Go.RowKit
set_option maxRecDepth 100000
theorem Strun26 : (exTabM Pg FT hdW (orMemo Sh.keysHm (allMemoC [])) pu 60).ex (V × HT) Stm26.f Stm26.args ⟨Stm26.H.next, Stm26.H.next, Stm26.H.tr⟩ (pairP [(373, 12)]) = some (Stm26.v, Stm26.H') := by kernel_rfl
theorem Stmok26 (hh : HdOk Pg hd) : MemoOk Pg Stm26 := memo_ofP okP tabOk (hdW_ok hh) (orMemo_ok Sh.keysHm_ok (allMemoC_ok (l := []) trivial)) [(373, 12)] (own_of Stown52) Strun26
end Go.Proofs.YtcglbpjpbjaecaaGreat.Ru
namespace Go.Proofs.YtcglbpjpbjaecaaGreat.Ru
open Go Go.Ab Go.RowKit
set_option maxRecDepth 100000
theorem Strun27 : (exTabM Pg FT hdW (orMemo Sh.keysHm (allMemoC [])) pu 60).ex (V × HT) Stm27.f Stm27.args ⟨Stm27.H.next, Stm27.H.next, Stm27.H.tr⟩ (pairP [(387, 12)]) = some (Stm27.v, Stm27.H') := by kernel_rfl
theorem Stmok27 (hh : HdOk Pg hd) : MemoOk Pg Stm27 := memo_ofP okP tabOk (hdW_ok hh) (orMemo_ok Sh.keysHm_ok (allMemoC_ok (l := []) trivial)) [(387, 12)] (own_of Stown54) Strun27
end Go.Proofs.YtcglbpjpbjaecaaGreat.Ru
