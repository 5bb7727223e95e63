import Derived.Test.YtcglbpjpbjaecaaGreatS16
import Derived.Test.YtcglbpjpbjaecaaGreatS15
set_option linter.unusedVariables false
set_option linter.unusedSimpArgs false
namespace Go.Proofs.YtcglbpjpbjaecaaGreat.Ru
open Go Go.Ab Go.RowKit
set_option maxRecDepth 100000
theorem Strun126 : (exTabM Pg FT hdW (orMemo Sh.keysHm (allMemoC [])) pu 60).ex (V × HT) Stm126.f Stm126.args ⟨Stm126.H.next, Stm126.H.next, Stm126.H.tr⟩ (pairP [(1773, 12)]) = some (Stm126.v, Stm126.H') := by kernel_rfl
theorem Stmok126 (hh : HdOk Pg hd) : MemoOk Pg Stm126 := memo_ofP okP tabOk (hdW_ok hh) (orMemo_ok Sh.keysHm_ok (allMemoC_ok (l := []) trivial)) [(1773, 12)] (own_of Stown252) Strun126
end Go.Proofs.YtcglbpjpbjaecaaGreat.Ru
namespace Go.Proofs.YtcglbpjpbjaecaaGreat.Ru
open Go Go.Ab Go.RowKit
set_option maxRecDepth 100000
theorem Strun127 : (exTabM Pg FT hdW (orMemo Sh.keysHm (allMemoC [])) pu 60).ex (V × HT) Stm127.f Stm127.args ⟨Stm127.H.next, Stm127.H.next, Stm127.H.tr⟩ (pairP [(1787, 12)]) = some (Stm127.v, Stm127.H') := by kernel_rfl
theorem Stmok127 (hh : HdOk Pg hd) : MemoOk Pg Stm127 := memo_ofP okP tabOk (hdW_ok hh) (orMemo_ok Sh.keysHm_ok (allMemoC_ok (l := []) trivial)) [(1787, 12)] (own_of Stown254) Strun127
end Go.Proofs.YtcglbpjpbjaecaaGreat.Ru
namespace Go.Proofs.YtcglbpjpbjaecaaGreat.Ru
open Go Go.Ab Go.RowKit
set_option maxRecDepth 100000
theorem Strun128 : (exTabM Pg FT hdW (orMemo Sh.keysHm (allMemoC [])) pu 60).ex (V × HT) Stm128.f Stm128.args ⟨Stm128.H.next, Stm128.H.next, Stm128.H.tr⟩ (pairP [(1801, 12)]) = some (Stm128.v, Stm128.H') := by kernel_rfl
theorem Stmok128 (hh : HdOk Pg hd) : MemoOk Pg Stm128 := memo_ofP okP tabOk (hdW_ok hh) (orMemo_ok Sh.keysHm_ok (allMemoC_ok (l := []) trivial)) [(1801, 12)] (own_of Stown256) Strun128
end Go.Proofs.YtcglbpjpbjaecaaGreat.Ru
namespace Go.Proofs.YtcglbpjpbjaecaaGreat.Ru
open Go Go.Ab Go.RowKit
set_option maxRecDepth 100000
theorem Strun129 : (exTabM Pg FT hdW (orMemo Sh.keysHm (allMemoC [])) pu 60).ex (V × HT) Stm129.f Stm129.args ⟨Stm129.H.next, Stm129.H.next, Stm129.H.tr⟩ (pairP [(1815, 12)]) = some (Stm129.v, Stm129.H') := by kernel_rfl
theorem Stmok129 (hh : HdOk Pg hd) : MemoOk Pg Stm129 := memo_ofP okP tabOk (hdW_ok hh) (orMemo_ok Sh.keysHm_ok (allMemoC_ok (l := []) trivial)) [(1815, 12)] (own_of Stown258) Strun129
end Go.Proofs.YtcglbpjpbjaecaaGreat.Ru
namespace Go.Proofs.YtcglbpjpbjaecaaGreat.Ru
open Go Go.Ab Go.RowKit
set_option maxRecDepth 100000
theorem Strun130 : (exTabM Pg FT hdW (orMemo Sh.keysHm (allMemoC [])) pu 60).ex (V × HT) Stm130.f Stm130.args ⟨Stm130.H.next, Stm130.H.next, Stm130.H.tr⟩ (pairP [(1829, 12)]) = some (Stm130.v, Stm130.H') := by kernel_rfl
theorem Stmok130 (hh : HdOk Pg hd) : MemoOk Pg Stm130 := memo_ofP okP tabOk (hdW_ok hh) (orMemo_ok Sh.keysHm_ok (allMemoC_ok (l := []) trivial)) [(1829, 12)] (own_of Stown260) Strun130
end Go.Proofs.YtcglbpjpbjaecaaGreat.Ru
namespace Go.Proofs.YtcglbpjpbjaecaaGreat.Ru
open Go Go.Ab Go.RowKit
set_option maxRecDepth 100000
theorem Strun131 : (exTabM Pg FT hdW (orMemo Sh.keysHm (allMemoC [])) pu 60).ex (V × HT) Stm131.f Stm131.args ⟨Stm131.H.next, Stm131.H.next, Stm131.H.tr⟩ (pairP [(1843, 12)]) = some (Stm131.v, Stm131.H') := by kernel_rfl
theorem Stmok131 (hh : HdOk Pg hd) : MemoOk Pg Stm131 := memo_ofP okP tabOk (hdW_ok hh) (orMemo_ok Sh.keysHm_ok (allMemoC_ok (l := []) trivial)) [(1843, 12)] (own_of Stown262) Strun131
end Go.Proofs.YtcglbpjpbjaecaaGreat.Ru
namespace Go.Proofs.YtcglbpjpbjaecaaGreat.Ru
open Go Go.Ab Go.RowKit
set_option maxRecDepth 100000
theorem Strun132 : (exTabM Pg FT hdW (orMemo Sh.keysHm (allMemoC [])) pu 60).ex (V × HT) Stm132.f Stm132.args ⟨Stm132.H.next, Stm132.H.next, Stm132.H.tr⟩ (pairP [(1857, 12)]) = some (Stm132.v, Stm132.H') := by kernel_rfl
theorem Stmok132 (hh : HdOk Pg hd) : MemoOk Pg Stm132 := memo_ofP okP tabOk (hdW_ok hh) (orMemo_ok Sh.keysHm_ok (allMemoC_ok (l := []) trivial)) [(1857, 12)] (own_of Stown264) Strun132
end Go.Proofs.YtcglbpjpbjaecaaGreat.Ru
