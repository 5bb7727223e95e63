import Derived.Test.YtcglbpjpbjaecaaGreatS16
import Derived.Test.YtcglbpjpbjaecaaGreatS15
set_option linter.unusedVariables false
set_option linter.unusedSimpArgs false
namespace Go.Proofs.YtcglbpjpbjaecaaGreat.Ru
open Go Go.Ab Go.RowKit
set_option maxRecDepth 100000
theorem Strun105 : (exTabM Pg FT hdW (orMemo Sh.keysHm (allMemoC [])) pu 60).ex (V × HT) Stm105.f Stm105.args ⟨Stm105.H.next, Stm105.H.next, Stm105.H.tr⟩ (pairP [(1479, 12)]) = some (Stm105.v, Stm105.H') := by kernel_rfl
theorem Stmok105 (hh : HdOk Pg hd) : MemoOk Pg Stm105 := memo_ofP okP tabOk (hdW_ok hh) (orMemo_ok Sh.keysHm_ok (allMemoC_ok (l := []) trivial)) [(1479, 12)] (own_of Stown210) Strun105
end Go.Proofs.YtcglbpjpbjaecaaGreat.Ru
namespace Go.Proofs.YtcglbpjpbjaecaaGreat.Ru
open Go Go.Ab Go.RowKit
set_option maxRecDepth 100000
theorem Strun106 : (exTabM Pg FT hdW (orMemo Sh.keysHm (allMemoC [])) pu 60).ex (V × HT) Stm106.f Stm106.args ⟨Stm106.H.next, Stm106.H.next, Stm106.H.tr⟩ (pairP [(1493, 12)]) = some (Stm106.v, Stm106.H') := by kernel_rfl
theorem Stmok106 (hh : HdOk Pg hd) : MemoOk Pg Stm106 := memo_ofP okP tabOk (hdW_ok hh) (orMemo_ok Sh.keysHm_ok (allMemoC_ok (l := []) trivial)) [(1493, 12)] (own_of Stown212) Strun106
end Go.Proofs.YtcglbpjpbjaecaaGreat.Ru
namespace Go.Proofs.YtcglbpjpbjaecaaGreat.Ru
open Go Go.Ab Go.RowKit
set_option maxRecDepth 100000
theorem Strun107 : (exTabM Pg FT hdW (orMemo Sh.keysHm (allMemoC [])) pu 60).ex (V × HT) Stm107.f Stm107.args ⟨Stm107.H.next, Stm107.H.next, Stm107.H.tr⟩ (pairP [(1507, 12)]) = some (Stm107.v, Stm107.H') := by kernel_rfl
theorem Stmok107 (hh : HdOk Pg hd) : MemoOk Pg Stm107 := memo_ofP okP tabOk (hdW_ok hh) (orMemo_ok Sh.keysHm_ok (allMemoC_ok (l := []) trivial)) [(1507, 12)] (own_of Stown214) Strun107
end Go.Proofs.YtcglbpjpbjaecaaGreat.Ru
namespace Go.Proofs.YtcglbpjpbjaecaaGreat.Ru
open Go Go.Ab Go.RowKit
set_option maxRecDepth 100000
theorem Strun108 : (exTabM Pg FT hdW (orMemo Sh.keysHm (allMemoC [])) pu 60).ex (V × HT) Stm108.f Stm108.args ⟨Stm108.H.next, Stm108.H.next, Stm108.H.tr⟩ (pairP [(1521, 12)]) = some (Stm108.v, Stm108.H') := by kernel_rfl
theorem Stmok108 (hh : HdOk Pg hd) : MemoOk Pg Stm108 := memo_ofP okP tabOk (hdW_ok hh) (orMemo_ok Sh.keysHm_ok (allMemoC_ok (l := []) trivial)) [(1521, 12)] (own_of Stown216) Strun108
end Go.Proofs.YtcglbpjpbjaecaaGreat.Ru
namespace Go.Proofs.YtcglbpjpbjaecaaGreat.Ru
open Go Go.Ab Go.RowKit
set_option maxRecDepth 100000
theorem Strun109 : (exTabM Pg FT hdW (orMemo Sh.keysHm (allMemoC [])) pu 60).ex (V × HT) Stm109.f Stm109.args ⟨Stm109.H.next, Stm109.H.next, Stm109.H.tr⟩ (pairP [(1535, 12)]) = some (Stm109.v, Stm109.H') := by kernel_rfl
theorem Stmok109 (hh : HdOk Pg hd) : MemoOk Pg Stm109 := memo_ofP okP tabOk (hdW_ok hh) (orMemo_ok Sh.keysHm_ok (allMemoC_ok (l := []) trivial)) [(1535, 12)] (own_of Stown218) Strun109
end Go.Proofs.YtcglbpjpbjaecaaGreat.Ru
namespace Go.Proofs.YtcglbpjpbjaecaaGreat.Ru
open Go Go.Ab Go.RowKit
set_option maxRecDepth 100000
theorem Strun110 : (exTabM Pg FT hdW (orMemo Sh.keysHm (allMemoC [])) pu 60).ex (V × HT) Stm110.f Stm110.args ⟨Stm110.H.next, Stm110.H.next, Stm110.H.tr⟩ (pairP [(1549, 12)]) = some (Stm110.v, Stm110.H') := by kernel_rfl
theorem Stmok110 (hh : HdOk Pg hd) : MemoOk Pg Stm110 := memo_ofP okP tabOk (hdW_ok hh) (orMemo_ok Sh.keysHm_ok (allMemoC_ok (l := []) trivial)) [(1549, 12)] (own_of Stown220) Strun110
end Go.Proofs.YtcglbpjpbjaecaaGreat.Ru
namespace Go.Proofs.YtcglbpjpbjaecaaGreat.Ru
open Go Go.Ab Go.RowKit
set_option maxRecDepth 100000
theorem Strun111 : (exTabM Pg FT hdW (orMemo Sh.keysHm (allMemoC [])) pu 60).ex (V × HT) Stm111.f Stm111.args ⟨Stm111.H.next, Stm111.H.next, Stm111.H.tr⟩ (pairP [(1563, 12)]) = some (Stm111.v, Stm111.H') := by kernel_rfl
theorem Stmok111 (hh : HdOk Pg hd) : MemoOk Pg Stm111 := memo_ofP okP tabOk (hdW_ok hh) (orMemo_ok Sh.keysHm_ok (allMemoC_ok (l := []) trivial)) [(1563, 12)] (own_of Stown222) Strun111
end Go.Proofs.YtcglbpjpbjaecaaGreat.Ru
