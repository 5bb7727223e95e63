import Derived.Test.YtcglbpjpbjaecaaGreatS16
import Derived.Test.YtcglbpjpbjaecaaGreatS15
set_option linter.unusedVariables false
set_option linter.unusedSimpArgs false
namespace Go.Proofs.YtcglbpjpbjaecaaGreat.Ru
open Go Go.Ab Go.RowKit
set_option maxRecDepth 100000
theorem Strun56 : (exTabM Pg FT hdW (orMemo Sh.keysHm (allMemoC [])) pu 60).ex (V × HT) Stm56.f Stm56.args ⟨Stm56.H.next, Stm56.H.next, Stm56.H.tr⟩ (pairP [(793, 12)]) = some (Stm56.v, Stm56.H') := by kernel_rfl
theorem Stmok56 (hh : HdOk Pg hd) : MemoOk Pg Stm56 := memo_ofP okP tabOk (hdW_ok hh) (orMemo_ok Sh.keysHm_ok (allMemoC_ok (l := []) trivial)) [(793, 12)] (own_of Stown112) Strun56
end Go.Proofs.YtcglbpjpbjaecaaGreat.Ru
namespace Go.Proofs.YtcglbpjpbjaecaaGreat.Ru
open Go Go.Ab Go.RowKit
set_option maxRecDepth 100000
theorem Strun57 : (exTabM Pg FT hdW (orMemo Sh.keysHm (allMemoC [])) pu 60).ex (V × HT) Stm57.f Stm57.args ⟨Stm57.H.next, Stm57.H.next, Stm57.H.tr⟩ (pairP [(807, 12)]) = some (Stm57.v, Stm57.H') := by kernel_rfl
theorem Stmok57 (hh : HdOk Pg hd) : MemoOk Pg Stm57 := memo_ofP okP tabOk (hdW_ok hh) (orMemo_ok Sh.keysHm_ok (allMemoC_ok (l := []) trivial)) [(807, 12)] (own_of Stown114) Strun57
end Go.Proofs.YtcglbpjpbjaecaaGreat.Ru
namespace Go.Proofs.YtcglbpjpbjaecaaGreat.Ru
open Go Go.Ab Go.RowKit
set_option maxRecDepth 100000
theorem Strun58 : (exTabM Pg FT hdW (orMemo Sh.keysHm (allMemoC [])) pu 60).ex (V × HT) Stm58.f Stm58.args ⟨Stm58.H.next, Stm58.H.next, Stm58.H.tr⟩ (pairP [(821, 12)]) = some (Stm58.v, Stm58.H') := by kernel_rfl
theorem Stmok58 (hh : HdOk Pg hd) : MemoOk Pg Stm58 := memo_ofP okP tabOk (hdW_ok hh) (orMemo_ok Sh.keysHm_ok (allMemoC_ok (l := []) trivial)) [(821, 12)] (own_of Stown116) Strun58
end Go.Proofs.YtcglbpjpbjaecaaGreat.Ru
namespace Go.Proofs.YtcglbpjpbjaecaaGreat.Ru
open Go Go.Ab Go.RowKit
set_option maxRecDepth 100000
theorem Strun59 : (exTabM Pg FT hdW (orMemo Sh.keysHm (allMemoC [])) pu 60).ex (V × HT) Stm59.f Stm59.args ⟨Stm59.H.next, Stm59.H.next, Stm59.H.tr⟩ (pairP [(835, 12)]) = some (Stm59.v, Stm59.H') := by kernel_rfl
theorem Stmok59 (hh : HdOk Pg hd) : MemoOk Pg Stm59 := memo_ofP okP tabOk (hdW_ok hh) (orMemo_ok Sh.keysHm_ok (allMemoC_ok (l := []) trivial)) [(835, 12)] (own_of Stown118) Strun59
end Go.Proofs.YtcglbpjpbjaecaaGreat.Ru
namespace Go.Proofs.YtcglbpjpbjaecaaGreat.Ru
open Go Go.Ab Go.RowKit
set_option maxRecDepth 100000
theorem Strun60 : (exTabM Pg FT hdW (orMemo Sh.keysHm (allMemoC [])) pu 60).ex (V × HT) Stm60.f Stm60.args ⟨Stm60.H.next, Stm60.H.next, Stm60.H.tr⟩ (pairP [(849, 12)]) = some (Stm60.v, Stm60.H') := by kernel_rfl
theorem Stmok60 (hh : HdOk Pg hd) : MemoOk Pg Stm60 := memo_ofP okP tabOk (hdW_ok hh) (orMemo_ok Sh.keysHm_ok (allMemoC_ok (l := []) trivial)) [(849, 12)] (own_of Stown120) Strun60
end Go.Proofs.YtcglbpjpbjaecaaGreat.Ru
namespace Go.Proofs.YtcglbpjpbjaecaaGreat.Ru
open Go Go.Ab Go.RowKit
set_option maxRecDepth 100000
theorem Strun61 : (exTabM Pg FT hdW (orMemo Sh.keysHm (allMemoC [])) pu 60).ex (V × HT) Stm61.f Stm61.args ⟨Stm61.H.next, Stm61.H.next, Stm61.H.tr⟩ (pairP [(863, 12)]) = some (Stm61.v, Stm61.H') := by kernel_rfl
theorem Stmok61 (hh : HdOk Pg hd) : MemoOk Pg Stm61 := memo_ofP okP tabOk (hdW_ok hh) (orMemo_ok Sh.keysHm_ok (allMemoC_ok (l := []) trivial)) [(863, 12)] (own_of Stown122) Strun61
end Go.Proofs.YtcglbpjpbjaecaaGreat.Ru
namespace Go.Proofs.YtcglbpjpbjaecaaGreat.Ru
open Go Go.Ab Go.RowKit
set_option maxRecDepth 100000
theorem Strun62 : (exTabM Pg FT hdW (orMemo Sh.keysHm (allMemoC [])) pu 60).ex (V × HT) Stm62.f Stm62.args ⟨Stm62.H.next, Stm62.H.next, Stm62.H.tr⟩ (pairP [(877, 12)]) = some (Stm62.v, Stm62.H') := by kernel_rfl
theorem Stmok62 (hh : HdOk Pg hd) : MemoOk Pg Stm62 := memo_ofP okP tabOk (hdW_ok hh) (orMemo_ok Sh.keysHm_ok (allMemoC_ok (l := []) trivial)) [(877, 12)] (own_of Stown124) Strun62
end Go.Proofs.YtcglbpjpbjaecaaGreat.Ru
