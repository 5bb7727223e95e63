import Derived.Test.YtcglbpjpbjaecaaGreatS16
import Derived.Test.YtcglbpjpbjaecaaGreatS15
set_option linter.unusedVariables false
set_option linter.unusedSimpArgs false
namespace Go.Proofs.YtcglbpjpbjaecaaGreat.Ru
open Go Go.Ab Go.RowKit
set_option maxRecDepth 100000
theorem Strun35 : (exTabM Pg FT hdW (orMemo Sh.keysHm (allMemoC [])) pu 60).ex (V × HT) Stm35.f Stm35.args ⟨Stm35.H.next, Stm35.H.next, Stm35.H.tr⟩ (pairP [(499, 12)]) = some (Stm35.v, Stm35.H') := by kernel_rfl
theorem Stmok35 (hh : HdOk Pg hd) : MemoOk Pg Stm35 := memo_ofP okP tabOk (hdW_ok hh) (orMemo_ok Sh.keysHm_ok (allMemoC_ok (l := []) trivial)) [(499, 12)] (own_of Stown70) Strun35
end Go.Proofs.YtcglbpjpbjaecaaGreat.Ru
namespace Go.Proofs.YtcglbpjpbjaecaaGreat.Ru
open Go Go.Ab Go.RowKit
set_option maxRecDepth 100000
theorem Strun36 : (exTabM Pg FT hdW (orMemo Sh.keysHm (allMemoC [])) pu 60).ex (V × HT) Stm36.f Stm36.args ⟨Stm36.H.next, Stm36.H.next, Stm36.H.tr⟩ (pairP [(513, 12)]) = some (Stm36.v, Stm36.H') := by kernel_rfl
theorem Stmok36 (hh : HdOk Pg hd) : MemoOk Pg Stm36 := memo_ofP okP tabOk (hdW_ok hh) (orMemo_ok Sh.keysHm_ok (allMemoC_ok (l := []) trivial)) [(513, 12)] (own_of Stown72) Strun36
end Go.Proofs.YtcglbpjpbjaecaaGreat.Ru
namespace Go.Proofs.YtcglbpjpbjaecaaGreat.Ru
open Go Go.Ab Go.RowKit
set_option maxRecDepth 100000
theorem Strun37 : (exTabM Pg FT hdW (orMemo Sh.keysHm (allMemoC [])) pu 60).ex (V × HT) Stm37.f Stm37.args ⟨Stm37.H.next, Stm37.H.next, Stm37.H.tr⟩ (pairP [(527, 12)]) = some (Stm37.v, Stm37.H') := by kernel_rfl
theorem Stmok37 (hh : HdOk Pg hd) : MemoOk Pg Stm37 := memo_ofP okP tabOk (hdW_ok hh) (orMemo_ok Sh.keysHm_ok (allMemoC_ok (l := []) trivial)) [(527, 12)] (own_of Stown74) Strun37
end Go.Proofs.YtcglbpjpbjaecaaGreat.Ru
namespace Go.Proofs.YtcglbpjpbjaecaaGreat.Ru
open Go Go.Ab Go.RowKit
set_option maxRecDepth 100000
theorem Strun38 : (exTabM Pg FT hdW (orMemo Sh.keysHm (allMemoC [])) pu 60).ex (V × HT) Stm38.f Stm38.args ⟨Stm38.H.next, Stm38.H.next, Stm38.H.tr⟩ (pairP [(541, 12)]) = some (Stm38.v, Stm38.H') := by kernel_rfl
theorem Stmok38 (hh : HdOk Pg hd) : MemoOk Pg Stm38 := memo_ofP okP tabOk (hdW_ok hh) (orMemo_ok Sh.keysHm_ok (allMemoC_ok (l := []) trivial)) [(541, 12)] (own_of Stown76) Strun38
end Go.Proofs.YtcglbpjpbjaecaaGreat.Ru
namespace Go.Proofs.YtcglbpjpbjaecaaGreat.Ru
open Go Go.Ab Go.RowKit
set_option maxRecDepth 100000
theorem Strun39 : (exTabM Pg FT hdW (orMemo Sh.keysHm (allMemoC [])) pu 60).ex (V × HT) Stm39.f Stm39.args ⟨Stm39.H.next, Stm39.H.next, Stm39.H.tr⟩ (pairP [(555, 12)]) = some (Stm39.v, Stm39.H') := by kernel_rfl
theorem Stmok39 (hh : HdOk Pg hd) : MemoOk Pg Stm39 := memo_ofP okP tabOk (hdW_ok hh) (orMemo_ok Sh.keysHm_ok (allMemoC_ok (l := []) trivial)) [(555, 12)] (own_of Stown78) Strun39
end Go.Proofs.YtcglbpjpbjaecaaGreat.Ru
namespace Go.Proofs.YtcglbpjpbjaecaaGreat.Ru
open Go Go.Ab Go.RowKit
set_option maxRecDepth 100000
theorem Strun40 : (exTabM Pg FT hdW (orMemo Sh.keysHm (allMemoC [])) pu 60).ex (V × HT) Stm40.f Stm40.args ⟨Stm40.H.next, Stm40.H.next, Stm40.H.tr⟩ (pairP [(569, 12)]) = some (Stm40.v, Stm40.H') := by kernel_rfl
theorem Stmok40 (hh : HdOk Pg hd) : MemoOk Pg Stm40 := memo_ofP okP tabOk (hdW_ok hh) (orMemo_ok Sh.keysHm_ok (allMemoC_ok (l := []) trivial)) [(569, 12)] (own_of Stown80) Strun40
end Go.Proofs.YtcglbpjpbjaecaaGreat.Ru
namespace Go.Proofs.YtcglbpjpbjaecaaGreat.Ru
open Go Go.Ab Go.RowKit
set_option maxRecDepth 100000
theorem Strun41 : (exTabM Pg FT hdW (orMemo Sh.keysHm (allMemoC [])) pu 60).ex (V × HT) Stm41.f Stm41.args ⟨Stm41.H.next, Stm41.H.next, Stm41.H.tr⟩ (pairP [(583, 12)]) = some (Stm41.v, Stm41.H') := by kernel_rfl
theorem Stmok41 (hh : HdOk Pg hd) : MemoOk Pg Stm41 := memo_ofP okP tabOk (hdW_ok hh) (orMemo_ok Sh.keysHm_ok (allMemoC_ok (l := []) trivial)) [(583, 12)] (own_of Stown82) Strun41
end Go.Proofs.YtcglbpjpbjaecaaGreat.Ru
