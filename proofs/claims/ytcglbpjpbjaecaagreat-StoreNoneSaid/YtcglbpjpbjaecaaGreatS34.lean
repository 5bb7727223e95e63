import Derived.Test.YtcglbpjpbjaecaaGreatS16
import Derived.Test.YtcglbpjpbjaecaaGreatS15
set_option linter.unusedVariables false
set_option linter.unusedSimpArgs false
namespace Go.Proofs.YtcglbpjpbjaecaaGreat.Ru
open Go Go.Ab Go.RowKit
set_option maxRecDepth 100000
theorem Strun119 : (exTabM Pg FT hdW (orMemo Sh.keysHm (allMemoC [])) pu 60).ex (V × HT) Stm119.f Stm119.args ⟨Stm119.H.next, Stm119.H.next, Stm119.H.tr⟩ (pairP [(1675, 12)]) = some (Stm119.v, Stm119.H') := by kernel_rfl
theorem Stmok119 (hh : HdOk Pg hd) : MemoOk Pg Stm119 := memo_ofP okP tabOk (hdW_ok hh) (orMemo_ok Sh.keysHm_ok (allMemoC_ok (l := []) trivial)) [(1675, 12)] (own_of Stown238) Strun119
end Go.Proofs.YtcglbpjpbjaecaaGreat.Ru
namespace Go.Proofs.YtcglbpjpbjaecaaGreat.Ru
open Go Go.Ab Go.RowKit
set_option maxRecDepth 100000
theorem Strun120 : (exTabM Pg FT hdW (orMemo Sh.keysHm (allMemoC [])) pu 60).ex (V × HT) Stm120.f Stm120.args ⟨Stm120.H.next, Stm120.H.next, Stm120.H.tr⟩ (pairP [(1689, 12)]) = some (Stm120.v, Stm120.H') := by kernel_rfl
theorem Stmok120 (hh : HdOk Pg hd) : MemoOk Pg Stm120 := memo_ofP okP tabOk (hdW_ok hh) (orMemo_ok Sh.keysHm_ok (allMemoC_ok (l := []) trivial)) [(1689, 12)] (own_of Stown240) Strun120
end Go.Proofs.YtcglbpjpbjaecaaGreat.Ru
namespace Go.Proofs.YtcglbpjpbjaecaaGreat.Ru
open Go Go.Ab Go.RowKit
set_option maxRecDepth 100000
theorem Strun121 : (exTabM Pg FT hdW (orMemo Sh.keysHm (allMemoC [])) pu 60).ex (V × HT) Stm121.f Stm121.args ⟨Stm121.H.next, Stm121.H.next, Stm121.H.tr⟩ (pairP [(1703, 12)]) = some (Stm121.v, Stm121.H') := by kernel_rfl
theorem Stmok121 (hh : HdOk Pg hd) : MemoOk Pg Stm121 := memo_ofP okP tabOk (hdW_ok hh) (orMemo_ok Sh.keysHm_ok (allMemoC_ok (l := []) trivial)) [(1703, 12)] (own_of Stown242) Strun121
end Go.Proofs.YtcglbpjpbjaecaaGreat.Ru
namespace Go.Proofs.YtcglbpjpbjaecaaGreat.Ru
open Go Go.Ab Go.RowKit
set_option maxRecDepth 100000
theorem Strun122 : (exTabM Pg FT hdW (orMemo Sh.keysHm (allMemoC [])) pu 60).ex (V × HT) Stm122.f Stm122.args ⟨Stm122.H.next, Stm122.H.next, Stm122.H.tr⟩ (pairP [(1717, 12)]) = some (Stm122.v, Stm122.H') := by kernel_rfl
theorem Stmok122 (hh : HdOk Pg hd) : MemoOk Pg Stm122 := memo_ofP okP tabOk (hdW_ok hh) (orMemo_ok Sh.keysHm_ok (allMemoC_ok (l := []) trivial)) [(1717, 12)] (own_of Stown244) Strun122
end Go.Proofs.YtcglbpjpbjaecaaGreat.Ru
namespace Go.Proofs.YtcglbpjpbjaecaaGreat.Ru
open Go Go.Ab Go.RowKit
set_option maxRecDepth 100000
theorem Strun123 : (exTabM Pg FT hdW (orMemo Sh.keysHm (allMemoC [])) pu 60).ex (V × HT) Stm123.f Stm123.args ⟨Stm123.H.next, Stm123.H.next, Stm123.H.tr⟩ (pairP [(1731, 12)]) = some (Stm123.v, Stm123.H') := by kernel_rfl
theorem Stmok123 (hh : HdOk Pg hd) : MemoOk Pg Stm123 := memo_ofP okP tabOk (hdW_ok hh) (orMemo_ok Sh.keysHm_ok (allMemoC_ok (l := []) trivial)) [(1731, 12)] (own_of Stown246) Strun123
end Go.Proofs.YtcglbpjpbjaecaaGreat.Ru
namespace Go.Proofs.YtcglbpjpbjaecaaGreat.Ru
open Go Go.Ab Go.RowKit
set_option maxRecDepth 100000
theorem Strun124 : (exTabM Pg FT hdW (orMemo Sh.keysHm (allMemoC [])) pu 60).ex (V × HT) Stm124.f Stm124.args ⟨Stm124.H.next, Stm124.H.next, Stm124.H.tr⟩ (pairP [(1745, 12)]) = some (Stm124.v, Stm124.H') := by kernel_rfl
theorem Stmok124 (hh : HdOk Pg hd) : MemoOk Pg Stm124 := memo_ofP okP tabOk (hdW_ok hh) (orMemo_ok Sh.keysHm_ok (allMemoC_ok (l := []) trivial)) [(1745, 12)] (own_of Stown248) Strun124
end Go.Proofs.YtcglbpjpbjaecaaGreat.Ru
namespace Go.Proofs.YtcglbpjpbjaecaaGreat.Ru
open Go Go.Ab Go.RowKit
set_option maxRecDepth 100000
theorem Strun125 : (exTabM Pg FT hdW (orMemo Sh.keysHm (allMemoC [])) pu 60).ex (V × HT) Stm125.f Stm125.args ⟨Stm125.H.next, Stm125.H.next, Stm125.H.tr⟩ (pairP [(1759, 12)]) = some (Stm125.v, Stm125.H') := by kernel_rfl
theorem Stmok125 (hh : HdOk Pg hd) : MemoOk Pg Stm125 := memo_ofP okP tabOk (hdW_ok hh) (orMemo_ok Sh.keysHm_ok (allMemoC_ok (l := []) trivial)) [(1759, 12)] (own_of Stown250) Strun125
end Go.Proofs.YtcglbpjpbjaecaaGreat.Ru
