import Derived.Test.YtcglbpjpbjaecaaGreatS16
import Derived.Test.YtcglbpjpbjaecaaGreatS15
set_option linter.unusedVariables false
set_option linter.unusedSimpArgs false
namespace Go.Proofs.YtcglbpjpbjaecaaGreat.Ru
open Go Go.Ab Go.RowKit
set_option maxRecDepth 100000
theorem Strun140 : (exTabM Pg FT hdW (orMemo Sh.keysHm (allMemoC [])) pu 60).ex (V × HT) Stm140.f Stm140.args ⟨Stm140.H.next, Stm140.H.next, Stm140.H.tr⟩ (pairP [(1969, 12)]) = some (Stm140.v, Stm140.H') := by kernel_rfl
theorem Stmok140 (hh : HdOk Pg hd) : MemoOk Pg Stm140 := memo_ofP okP tabOk (hdW_ok hh) (orMemo_ok Sh.keysHm_ok (allMemoC_ok (l := []) trivial)) [(1969, 12)] (own_of Stown280) Strun140
end Go.Proofs.YtcglbpjpbjaecaaGreat.Ru
namespace Go.Proofs.YtcglbpjpbjaecaaGreat.Ru
open Go Go.Ab Go.RowKit
set_option maxRecDepth 100000
theorem Strun141 : (exTabM Pg FT hdW (orMemo Sh.keysHm (allMemoC [])) pu 60).ex (V × HT) Stm141.f Stm141.args ⟨Stm141.H.next, Stm141.H.next, Stm141.H.tr⟩ (pairP [(1983, 12)]) = some (Stm141.v, Stm141.H') := by kernel_rfl
theorem Stmok141 (hh : HdOk Pg hd) : MemoOk Pg Stm141 := memo_ofP okP tabOk (hdW_ok hh) (orMemo_ok Sh.keysHm_ok (allMemoC_ok (l := []) trivial)) [(1983, 12)] (own_of Stown282) Strun141
end Go.Proofs.YtcglbpjpbjaecaaGreat.Ru
namespace Go.Proofs.YtcglbpjpbjaecaaGreat.Ru
open Go Go.Ab Go.RowKit
set_option maxRecDepth 100000
theorem Strun142 : (exTabM Pg FT hdW (orMemo Sh.keysHm (allMemoC [])) pu 60).ex (V × HT) Stm142.f Stm142.args ⟨Stm142.H.next, Stm142.H.next, Stm142.H.tr⟩ (pairP [(1997, 12)]) = some (Stm142.v, Stm142.H') := by kernel_rfl
theorem Stmok142 (hh : HdOk Pg hd) : MemoOk Pg Stm142 := memo_ofP okP tabOk (hdW_ok hh) (orMemo_ok Sh.keysHm_ok (allMemoC_ok (l := []) trivial)) [(1997, 12)] (own_of Stown284) Strun142
end Go.Proofs.YtcglbpjpbjaecaaGreat.Ru
namespace Go.Proofs.YtcglbpjpbjaecaaGreat.Ru
open Go Go.Ab Go.RowKit
set_option maxRecDepth 100000
theorem Strun143 : (exTabM Pg FT hdW (orMemo Sh.keysHm (allMemoC [])) pu 60).ex (V × HT) Stm143.f Stm143.args ⟨Stm143.H.next, Stm143.H.next, Stm143.H.tr⟩ (pairP [(2011, 12)]) = some (Stm143.v, Stm143.H') := by kernel_rfl
theorem Stmok143 (hh : HdOk Pg hd) : MemoOk Pg Stm143 := memo_ofP okP tabOk (hdW_ok hh) (orMemo_ok Sh.keysHm_ok (allMemoC_ok (l := []) trivial)) [(2011, 12)] (own_of Stown286) Strun143
end Go.Proofs.YtcglbpjpbjaecaaGreat.Ru
namespace Go.Proofs.YtcglbpjpbjaecaaGreat.Ru
open Go Go.Ab Go.RowKit
set_option maxRecDepth 100000
theorem Strun144 : (exTabM Pg FT hdW (orMemo Sh.keysHm (allMemoC [])) pu 60).ex (V × HT) Stm144.f Stm144.args ⟨Stm144.H.next, Stm144.H.next, Stm144.H.tr⟩ (pairP [(2025, 12)]) = some (Stm144.v, Stm144.H') := by kernel_rfl
theorem Stmok144 (hh : HdOk Pg hd) : MemoOk Pg Stm144 := memo_ofP okP tabOk (hdW_ok hh) (orMemo_ok Sh.keysHm_ok (allMemoC_ok (l := []) trivial)) [(2025, 12)] (own_of Stown288) Strun144
end Go.Proofs.YtcglbpjpbjaecaaGreat.Ru
namespace Go.Proofs.YtcglbpjpbjaecaaGreat.Ru
open Go Go.Ab Go.RowKit
set_option maxRecDepth 100000
theorem Strun145 : (exTabM Pg FT hdW (orMemo Sh.keysHm (allMemoC [])) pu 60).ex (V × HT) Stm145.f Stm145.args ⟨Stm145.H.next, Stm145.H.next, Stm145.H.tr⟩ (pairP [(2039, 12)]) = some (Stm145.v, Stm145.H') := by kernel_rfl
theorem Stmok145 (hh : HdOk Pg hd) : MemoOk Pg Stm145 := memo_ofP okP tabOk (hdW_ok hh) (orMemo_ok Sh.keysHm_ok (allMemoC_ok (l := []) trivial)) [(2039, 12)] (own_of Stown290) Strun145
end Go.Proofs.YtcglbpjpbjaecaaGreat.Ru
namespace Go.Proofs.YtcglbpjpbjaecaaGreat.Ru
open Go Go.Ab Go.RowKit
set_option maxRecDepth 100000
theorem Strun146 : (exTabM Pg FT hdW (orMemo Sh.keysHm (allMemoC [])) pu 60).ex (V × HT) Stm146.f Stm146.args ⟨Stm146.H.next, Stm146.H.next, Stm146.H.tr⟩ (pairP [(2053, 12)]) = some (Stm146.v, Stm146.H') := by kernel_rfl
theorem Stmok146 (hh : HdOk Pg hd) : MemoOk Pg Stm146 := memo_ofP okP tabOk (hdW_ok hh) (orMemo_ok Sh.keysHm_ok (allMemoC_ok (l := []) trivial)) [(2053, 12)] (own_of Stown292) Strun146
end Go.Proofs.YtcglbpjpbjaecaaGreat.Ru
