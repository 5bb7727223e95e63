import Derived.Test.YtcglbpjpbjaecaaGreatS16
import Derived.Test.YtcglbpjpbjaecaaGreatS15
import Derived.Test.YtcglbpjpbjaecaaGreatS45
set_option linter.unusedVariables false
set_option linter.unusedSimpArgs false
namespace Go.Proofs.YtcglbpjpbjaecaaGreat.Ru
open Go Go.Ab Go.RowKit
set_option maxRecDepth 100000
theorem Strun203 : (exTabM Pg FT hdW (orMemo Sh.keysHm (allMemoC [])) pu 60).ex (V × HT) Stm203.f Stm203.args ⟨Stm203.H.next, Stm203.H.next, Stm203.H.tr⟩ (pairP [(3595, 4)]) = some (Stm203.v, Stm203.H') := by kernel_rfl
theorem Stmok203 (hh : HdOk Pg hd) : MemoOk Pg Stm203 := memo_ofP okP tabOk (hdW_ok hh) (orMemo_ok Sh.keysHm_ok (allMemoC_ok (l := []) trivial)) [(3595, 4)] (own_of Stown393) Strun203
end Go.Proofs.YtcglbpjpbjaecaaGreat.Ru
namespace Go.Proofs.YtcglbpjpbjaecaaGreat.Ru
open Go Go.Ab Go.RowKit
set_option maxRecDepth 100000
theorem Strun204 : (exTabM Pg FT hdW (orMemo Sh.keysHm (allMemoC [Stm202, Stm203])) pu 60).ex (V × HT) Stm204.f Stm204.args ⟨Stm204.H.next, Stm204.H.next, Stm204.H.tr⟩ (pairP [(3574, 27), (3602, 4)]) = some (Stm204.v, Stm204.H') := by kernel_rfl
theorem Stmok204 (hh : HdOk Pg hd) : MemoOk Pg Stm204 := memo_ofP okP tabOk (hdW_ok hh) (orMemo_ok Sh.keysHm_ok (allMemoC_ok (l := [Stm202, Stm203]) ⟨Stmok202 hh, Stmok203 hh, trivial⟩)) [(3574, 27), (3602, 4)] (own_of Stown395) Strun204
end Go.Proofs.YtcglbpjpbjaecaaGreat.Ru
namespace Go.Proofs.YtcglbpjpbjaecaaGreat.Ru
open Go Go.Ab Go.RowKit
set_option maxRecDepth 100000
theorem Strun205 : (exTabM Pg FT hdW (orMemo Sh.keysHm (allMemoC [])) pu 60).ex (V × HT) Stm205.f Stm205.args ⟨Stm205.H.next, Stm205.H.next, Stm205.H.tr⟩ (pairP [(3610, 1)]) = some (Stm205.v, Stm205.H') := by kernel_rfl
theorem Stmok205 (hh : HdOk Pg hd) : MemoOk Pg Stm205 := memo_ofP okP tabOk (hdW_ok hh) (orMemo_ok Sh.keysHm_ok (allMemoC_ok (l := []) trivial)) [(3610, 1)] (own_of Stown397) Strun205
end Go.Proofs.YtcglbpjpbjaecaaGreat.Ru
namespace Go.Proofs.YtcglbpjpbjaecaaGreat.Ru
open Go Go.Ab Go.RowKit
set_option maxRecDepth 100000
theorem Strun206 : (exTabM Pg FT hdW (orMemo Sh.keysHm (allMemoC [])) pu 60).ex (V × HT) Stm206.f Stm206.args ⟨Stm206.H.next, Stm206.H.next, Stm206.H.tr⟩ (pairP [(3612, 3), (3617, 2)]) = some (Stm206.v, Stm206.H') := by kernel_rfl
theorem Stmok206 (hh : HdOk Pg hd) : MemoOk Pg Stm206 := memo_ofP okP tabOk (hdW_ok hh) (orMemo_ok Sh.keysHm_ok (allMemoC_ok (l := []) trivial)) [(3612, 3), (3617, 2)] (own_of Stown398) Strun206
end Go.Proofs.YtcglbpjpbjaecaaGreat.Ru
namespace Go.Proofs.YtcglbpjpbjaecaaGreat.Ru
open Go Go.Ab Go.RowKit
set_option maxRecDepth 100000
theorem Strun207 : (exTabM Pg FT hdW (orMemo Sh.keysHm (allMemoC [])) pu 60).ex (V × HT) Stm207.f Stm207.args ⟨Stm207.H.next, Stm207.H.next, Stm207.H.tr⟩ (pairP [(3622, 1)]) = some (Stm207.v, Stm207.H') := by kernel_rfl
theorem Stmok207 (hh : HdOk Pg hd) : MemoOk Pg Stm207 := memo_ofP okP tabOk (hdW_ok hh) (orMemo_ok Sh.keysHm_ok (allMemoC_ok (l := []) trivial)) [(3622, 1)] (own_of Stown400) Strun207
end Go.Proofs.YtcglbpjpbjaecaaGreat.Ru
namespace Go.Proofs.YtcglbpjpbjaecaaGreat.Ru
open Go Go.Ab Go.RowKit
set_option maxRecDepth 100000
theorem Strun208 : (exTabM Pg FT hdW (orMemo Sh.keysHm (allMemoC [])) pu 60).ex (V × HT) Stm208.f Stm208.args ⟨Stm208.H.next, Stm208.H.next, Stm208.H.tr⟩ (pairP [(3631, 9)]) = some (Stm208.v, Stm208.H') := by kernel_rfl
theorem Stmok208 (hh : HdOk Pg hd) : MemoOk Pg Stm208 := memo_ofP okP tabOk (hdW_ok hh) (orMemo_ok Sh.keysHm_ok (allMemoC_ok (l := []) trivial)) [(3631, 9)] (own_of Stown402) Strun208
end Go.Proofs.YtcglbpjpbjaecaaGreat.Ru
namespace Go.Proofs.YtcglbpjpbjaecaaGreat.Ru
open Go Go.Ab Go.RowKit
set_option maxRecDepth 100000
theorem Strun209 : (exTabM Pg FT hdW (orMemo Sh.keysHm (allMemoC [Stm208])) pu 60).ex (V × HT) Stm209.f Stm209.args ⟨Stm209.H.next, Stm209.H.next, Stm209.H.tr⟩ (pairP [(3624, 20)]) = some (Stm209.v, Stm209.H') := by kernel_rfl
theorem Stmok209 (hh : HdOk Pg hd) : MemoOk Pg Stm209 := memo_ofP okP tabOk (hdW_ok hh) (orMemo_ok Sh.keysHm_ok (allMemoC_ok (l := [Stm208]) ⟨Stmok208 hh, trivial⟩)) [(3624, 20)] (own_of Stown401) Strun209
end Go.Proofs.YtcglbpjpbjaecaaGreat.Ru
