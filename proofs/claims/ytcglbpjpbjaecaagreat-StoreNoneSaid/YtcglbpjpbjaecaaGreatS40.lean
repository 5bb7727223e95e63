import Derived.Test.YtcglbpjpbjaecaaGreatS16
import Derived.Test.YtcglbpjpbjaecaaGreatS15
set_option linter.unusedVariables false
set_option linter.unusedSimpArgs false
namespace Go.Proofs.YtcglbpjpbjaecaaGreat.Ru
open Go Go.Ab Go.RowKit
set_option maxRecDepth 100000
theorem Strun161 : (exTabM Pg FT hdW (orMemo Sh.keysHm (allMemoC [])) pu 60).ex (V × HT) Stm161.f Stm161.args ⟨Stm161.H.next, Stm161.H.next, Stm161.H.tr⟩ (pairP [(2263, 12)]) = some (Stm161.v, Stm161.H') := by kernel_rfl
theorem Stmok161 (hh : HdOk Pg hd) : MemoOk Pg Stm161 := memo_ofP okP tabOk (hdW_ok hh) (orMemo_ok Sh.keysHm_ok (allMemoC_ok (l := []) trivial)) [(2263, 12)] (own_of Stown322) Strun161
end Go.Proofs.YtcglbpjpbjaecaaGreat.Ru
namespace Go.Proofs.YtcglbpjpbjaecaaGreat.Ru
open Go Go.Ab Go.RowKit
set_option maxRecDepth 100000
theorem Strun162 : (exTabM Pg FT hdW (orMemo Sh.keysHm (allMemoC [])) pu 60).ex (V × HT) Stm162.f Stm162.args ⟨Stm162.H.next, Stm162.H.next, Stm162.H.tr⟩ (pairP [(2277, 12)]) = some (Stm162.v, Stm162.H') := by kernel_rfl
theorem Stmok162 (hh : HdOk Pg hd) : MemoOk Pg Stm162 := memo_ofP okP tabOk (hdW_ok hh) (orMemo_ok Sh.keysHm_ok (allMemoC_ok (l := []) trivial)) [(2277, 12)] (own_of Stown324) Strun162
end Go.Proofs.YtcglbpjpbjaecaaGreat.Ru
namespace Go.Proofs.YtcglbpjpbjaecaaGreat.Ru
open Go Go.Ab Go.RowKit
set_option maxRecDepth 100000
theorem Strun163 : (exTabM Pg FT hdW (orMemo Sh.keysHm (allMemoC [])) pu 60).ex (V × HT) Stm163.f Stm163.args ⟨Stm163.H.next, Stm163.H.next, Stm163.H.tr⟩ (pairP [(2291, 12)]) = some (Stm163.v, Stm163.H') := by kernel_rfl
theorem Stmok163 (hh : HdOk Pg hd) : MemoOk Pg Stm163 := memo_ofP okP tabOk (hdW_ok hh) (orMemo_ok Sh.keysHm_ok (allMemoC_ok (l := []) trivial)) [(2291, 12)] (own_of Stown326) Strun163
end Go.Proofs.YtcglbpjpbjaecaaGreat.Ru
namespace Go.Proofs.YtcglbpjpbjaecaaGreat.Ru
open Go Go.Ab Go.RowKit
set_option maxRecDepth 100000
theorem Strun164 : (exTabM Pg FT hdW (orMemo Sh.keysHm (allMemoC [])) pu 60).ex (V × HT) Stm164.f Stm164.args ⟨Stm164.H.next, Stm164.H.next, Stm164.H.tr⟩ (pairP [(2305, 12)]) = some (Stm164.v, Stm164.H') := by kernel_rfl
theorem Stmok164 (hh : HdOk Pg hd) : MemoOk Pg Stm164 := memo_ofP okP tabOk (hdW_ok hh) (orMemo_ok Sh.keysHm_ok (allMemoC_ok (l := []) trivial)) [(2305, 12)] (own_of Stown328) Strun164
end Go.Proofs.YtcglbpjpbjaecaaGreat.Ru
namespace Go.Proofs.YtcglbpjpbjaecaaGreat.Ru
open Go Go.Ab Go.RowKit
set_option maxRecDepth 100000
theorem Strun165 : (exTabM Pg FT hdW (orMemo Sh.keysHm (allMemoC [])) pu 60).ex (V × HT) Stm165.f Stm165.args ⟨Stm165.H.next, Stm165.H.next, Stm165.H.tr⟩ (pairP [(2319, 12)]) = some (Stm165.v, Stm165.H') := by kernel_rfl
theorem Stmok165 (hh : HdOk Pg hd) : MemoOk Pg Stm165 := memo_ofP okP tabOk (hdW_ok hh) (orMemo_ok Sh.keysHm_ok (allMemoC_ok (l := []) trivial)) [(2319, 12)] (own_of Stown330) Strun165
end Go.Proofs.YtcglbpjpbjaecaaGreat.Ru
namespace Go.Proofs.YtcglbpjpbjaecaaGreat.Ru
open Go Go.Ab Go.RowKit
set_option maxRecDepth 100000
theorem Strun166 : (exTabM Pg FT hdW (orMemo Sh.keysHm (allMemoC [])) pu 60).ex (V × HT) Stm166.f Stm166.args ⟨Stm166.H.next, Stm166.H.next, Stm166.H.tr⟩ (pairP [(2333, 12)]) = some (Stm166.v, Stm166.H') := by kernel_rfl
theorem Stmok166 (hh : HdOk Pg hd) : MemoOk Pg Stm166 := memo_ofP okP tabOk (hdW_ok hh) (orMemo_ok Sh.keysHm_ok (allMemoC_ok (l := []) trivial)) [(2333, 12)] (own_of Stown332) Strun166
end Go.Proofs.YtcglbpjpbjaecaaGreat.Ru
namespace Go.Proofs.YtcglbpjpbjaecaaGreat.Ru
open Go Go.Ab Go.RowKit
set_option maxRecDepth 100000
theorem Strun167 : (exTabM Pg FT hdW (orMemo Sh.keysHm (allMemoC [])) pu 60).ex (V × HT) Stm167.f Stm167.args ⟨Stm167.H.next, Stm167.H.next, Stm167.H.tr⟩ (pairP [(2347, 12)]) = some (Stm167.v, Stm167.H') := by kernel_rfl
theorem Stmok167 (hh : HdOk Pg hd) : MemoOk Pg Stm167 := memo_ofP okP tabOk (hdW_ok hh) (orMemo_ok Sh.keysHm_ok (allMemoC_ok (l := []) trivial)) [(2347, 12)] (own_of Stown334) Strun167
end Go.Proofs.YtcglbpjpbjaecaaGreat.Ru
