import Derived.Test.YtcglbpjpbjaecaaGreatS16
import Derived.Test.YtcglbpjpbjaecaaGreatS15
set_option linter.unusedVariables false
set_option linter.unusedSimpArgs false
namespace Go.Proofs.YtcglbpjpbjaecaaGreat.Ru
open Go Go.Ab Go.RowKit
set_option maxRecDepth 100000
theorem Strun91 : (exTabM Pg FT hdW (orMemo Sh.keysHm (allMemoC [])) pu 60).ex (V × HT) Stm91.f Stm91.args ⟨Stm91.H.next, Stm91.H.next, Stm91.H.tr⟩ (pairP [(1283, 12)]) = some (Stm91.v, Stm91.H') := by kernel_rfl
theorem Stmok91 (hh : HdOk Pg hd) : MemoOk Pg Stm91 := memo_ofP okP tabOk (hdW_ok hh) (orMemo_ok Sh.keysHm_ok (allMemoC_ok (l := []) trivial)) [(1283, 12)] (own_of Stown182) Strun91
end Go.Proofs.YtcglbpjpbjaecaaGreat.Ru
namespace Go.Proofs.YtcglbpjpbjaecaaGreat.Ru
open Go Go.Ab Go.RowKit
set_option maxRecDepth 100000
theorem Strun92 : (exTabM Pg FT hdW (orMemo Sh.keysHm (allMemoC [])) pu 60).ex (V × HT) Stm92.f Stm92.args ⟨Stm92.H.next, Stm92.H.next, Stm92.H.tr⟩ (pairP [(1297, 12)]) = some (Stm92.v, Stm92.H') := by kernel_rfl
theorem Stmok92 (hh : HdOk Pg hd) : MemoOk Pg Stm92 := memo_ofP okP tabOk (hdW_ok hh) (orMemo_ok Sh.keysHm_ok (allMemoC_ok (l := []) trivial)) [(1297, 12)] (own_of Stown184) Strun92
end Go.Proofs.YtcglbpjpbjaecaaGreat.Ru
namespace Go.Proofs.YtcglbpjpbjaecaaGreat.Ru
open Go Go.Ab Go.RowKit
set_option maxRecDepth 100000
theorem Strun93 : (exTabM Pg FT hdW (orMemo Sh.keysHm (allMemoC [])) pu 60).ex (V × HT) Stm93.f Stm93.args ⟨Stm93.H.next, Stm93.H.next, Stm93.H.tr⟩ (pairP [(1311, 12)]) = some (Stm93.v, Stm93.H') := by kernel_rfl
theorem Stmok93 (hh : HdOk Pg hd) : MemoOk Pg Stm93 := memo_ofP okP tabOk (hdW_ok hh) (orMemo_ok Sh.keysHm_ok (allMemoC_ok (l := []) trivial)) [(1311, 12)] (own_of Stown186) Strun93
end Go.Proofs.YtcglbpjpbjaecaaGreat.Ru
namespace Go.Proofs.YtcglbpjpbjaecaaGreat.Ru
open Go Go.Ab Go.RowKit
set_option maxRecDepth 100000
theorem Strun94 : (exTabM Pg FT hdW (orMemo Sh.keysHm (allMemoC [])) pu 60).ex (V × HT) Stm94.f Stm94.args ⟨Stm94.H.next, Stm94.H.next, Stm94.H.tr⟩ (pairP [(1325, 12)]) = some (Stm94.v, Stm94.H') := by kernel_rfl
theorem Stmok94 (hh : HdOk Pg hd) : MemoOk Pg Stm94 := memo_ofP okP tabOk (hdW_ok hh) (orMemo_ok Sh.keysHm_ok (allMemoC_ok (l := []) trivial)) [(1325, 12)] (own_of Stown188) Strun94
end Go.Proofs.YtcglbpjpbjaecaaGreat.Ru
namespace Go.Proofs.YtcglbpjpbjaecaaGreat.Ru
open Go Go.Ab Go.RowKit
set_option maxRecDepth 100000
theorem Strun95 : (exTabM Pg FT hdW (orMemo Sh.keysHm (allMemoC [])) pu 60).ex (V × HT) Stm95.f Stm95.args ⟨Stm95.H.next, Stm95.H.next, Stm95.H.tr⟩ (pairP [(1339, 12)]) = some (Stm95.v, Stm95.H') := by kernel_rfl
theorem Stmok95 (hh : HdOk Pg hd) : MemoOk Pg Stm95 := memo_ofP okP tabOk (hdW_ok hh) (orMemo_ok Sh.keysHm_ok (allMemoC_ok (l := []) trivial)) [(1339, 12)] (own_of Stown190) Strun95
end Go.Proofs.YtcglbpjpbjaecaaGreat.Ru
namespace Go.Proofs.YtcglbpjpbjaecaaGreat.Ru
open Go Go.Ab Go.RowKit
set_option maxRecDepth 100000
theorem Strun96 : (exTabM Pg FT hdW (orMemo Sh.keysHm (allMemoC [])) pu 60).ex (V × HT) Stm96.f Stm96.args ⟨Stm96.H.next, Stm96.H.next, Stm96.H.tr⟩ (pairP [(1353, 12)]) = some (Stm96.v, Stm96.H') := by kernel_rfl
theorem Stmok96 (hh : HdOk Pg hd) : MemoOk Pg Stm96 := memo_ofP okP tabOk (hdW_ok hh) (orMemo_ok Sh.keysHm_ok (allMemoC_ok (l := []) trivial)) [(1353, 12)] (own_of Stown192) Strun96
end Go.Proofs.YtcglbpjpbjaecaaGreat.Ru
namespace Go.Proofs.YtcglbpjpbjaecaaGreat.Ru
open Go Go.Ab Go.RowKit
set_option maxRecDepth 100000
theorem Strun97 : (exTabM Pg FT hdW (orMemo Sh.keysHm (allMemoC [])) pu 60).ex (V × HT) Stm97.f Stm97.args ⟨Stm97.H.next, Stm97.H.next, Stm97.H.tr⟩ (pairP [(1367, 12)]) = some (Stm97.v, Stm97.H') := by kernel_rfl
theorem Stmok97 (hh : HdOk Pg hd) : MemoOk Pg Stm97 := memo_ofP okP tabOk (hdW_ok hh) (orMemo_ok Sh.keysHm_ok (allMemoC_ok (l := []) trivial)) [(1367, 12)] (own_of Stown194) Strun97
end Go.Proofs.YtcglbpjpbjaecaaGreat.Ru
