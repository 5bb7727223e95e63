import Derived.Test.YtcglbpjpbjaecaaGreatS16
import Derived.Test.YtcglbpjpbjaecaaGreatS15
set_option linter.unusedVariables false
set_option linter.unusedSimpArgs false
namespace Go.Proofs.YtcglbpjpbjaecaaGreat.Ru
open Go Go.Ab Go.RowKit
set_option maxRecDepth 100000
theorem Strun98 : (exTabM Pg FT hdW (orMemo Sh.keysHm (allMemoC [])) pu 60).ex (V × HT) Stm98.f Stm98.args ⟨Stm98.H.next, Stm98.H.next, Stm98.H.tr⟩ (pairP [(1381, 12)]) = some (Stm98.v, Stm98.H') := by kernel_rfl
theorem Stmok98 (hh : HdOk Pg hd) : MemoOk Pg Stm98 := memo_ofP okP tabOk (hdW_ok hh) (orMemo_ok Sh.keysHm_ok (allMemoC_ok (l := []) trivial)) [(1381, 12)] (own_of Stown196) Strun98
end Go.Proofs.YtcglbpjpbjaecaaGreat.Ru
namespace Go.Proofs.YtcglbpjpbjaecaaGreat.Ru
open Go Go.Ab Go.RowKit
set_option maxRecDepth 100000
theorem Strun99 : (exTabM Pg FT hdW (orMemo Sh.keysHm (allMemoC [])) pu 60).ex (V × HT) Stm99.f Stm99.args ⟨Stm99.H.next, Stm99.H.next, Stm99.H.tr⟩ (pairP [(1395, 12)]) = some (Stm99.v, Stm99.H') := by kernel_rfl
theorem Stmok99 (hh : HdOk Pg hd) : MemoOk Pg Stm99 := memo_ofP okP tabOk (hdW_ok hh) (orMemo_ok Sh.keysHm_ok (allMemoC_ok (l := []) trivial)) [(1395, 12)] (own_of Stown198) Strun99
end Go.Proofs.YtcglbpjpbjaecaaGreat.Ru
namespace Go.Proofs.YtcglbpjpbjaecaaGreat.Ru
open Go Go.Ab Go.RowKit
set_option maxRecDepth 100000
theorem Strun100 : (exTabM Pg FT hdW (orMemo Sh.keysHm (allMemoC [])) pu 60).ex (V × HT) Stm100.f Stm100.args ⟨Stm100.H.next, Stm100.H.next, Stm100.H.tr⟩ (pairP [(1409, 12)]) = some (Stm100.v, Stm100.H') := by kernel_rfl
theorem Stmok100 (hh : HdOk Pg hd) : MemoOk Pg Stm100 := memo_ofP okP tabOk (hdW_ok hh) (orMemo_ok Sh.keysHm_ok (allMemoC_ok (l := []) trivial)) [(1409, 12)] (own_of Stown200) Strun100
end Go.Proofs.YtcglbpjpbjaecaaGreat.Ru
namespace Go.Proofs.YtcglbpjpbjaecaaGreat.Ru
open Go Go.Ab Go.RowKit
set_option maxRecDepth 100000
theorem Strun101 : (exTabM Pg FT hdW (orMemo Sh.keysHm (allMemoC [])) pu 60).ex (V × HT) Stm101.f Stm101.args ⟨Stm101.H.next, Stm101.H.next, Stm101.H.tr⟩ (pairP [(1423, 12)]) = some (Stm101.v, Stm101.H') := by kernel_rfl
theorem Stmok101 (hh : HdOk Pg hd) : MemoOk Pg Stm101 := memo_ofP okP tabOk (hdW_ok hh) (orMemo_ok Sh.keysHm_ok (allMemoC_ok (l := []) trivial)) [(1423, 12)] (own_of Stown202) Strun101
end Go.Proofs.YtcglbpjpbjaecaaGreat.Ru
namespace Go.Proofs.YtcglbpjpbjaecaaGreat.Ru
open Go Go.Ab Go.RowKit
set_option maxRecDepth 100000
theorem Strun102 : (exTabM Pg FT hdW (orMemo Sh.keysHm (allMemoC [])) pu 60).ex (V × HT) Stm102.f Stm102.args ⟨Stm102.H.next, Stm102.H.next, Stm102.H.tr⟩ (pairP [(1437, 12)]) = some (Stm102.v, Stm102.H') := by kernel_rfl
theorem Stmok102 (hh : HdOk Pg hd) : MemoOk Pg Stm102 := memo_ofP okP tabOk (hdW_ok hh) (orMemo_ok Sh.keysHm_ok (allMemoC_ok (l := []) trivial)) [(1437, 12)] (own_of Stown204) Strun102
end Go.Proofs.YtcglbpjpbjaecaaGreat.Ru
namespace Go.Proofs.YtcglbpjpbjaecaaGreat.Ru
open Go Go.Ab Go.RowKit
set_option maxRecDepth 100000
theorem Strun103 : (exTabM Pg FT hdW (orMemo Sh.keysHm (allMemoC [])) pu 60).ex (V × HT) Stm103.f Stm103.args ⟨Stm103.H.next, Stm103.H.next, Stm103.H.tr⟩ (pairP [(1451, 12)]) = some (Stm103.v, Stm103.H') := by kernel_rfl
theorem Stmok103 (hh : HdOk Pg hd) : MemoOk Pg Stm103 := memo_ofP okP tabOk (hdW_ok hh) (orMemo_ok Sh.keysHm_ok (allMemoC_ok (l := []) trivial)) [(1451, 12)] (own_of Stown206) Strun103
end Go.Proofs.YtcglbpjpbjaecaaGreat.Ru
namespace Go.Proofs.YtcglbpjpbjaecaaGreat.Ru
open Go Go.Ab Go.RowKit
set_option maxRecDepth 100000
theorem Strun104 : (exTabM Pg FT hdW (orMemo Sh.keysHm (allMemoC [])) pu 60).ex (V × HT) Stm104.f Stm104.args ⟨Stm104.H.next, Stm104.H.next, Stm104.H.tr⟩ (pairP [(1465, 12)]) = some (Stm104.v, Stm104.H') := by kernel_rfl
theorem Stmok104 (hh : HdOk Pg hd) : MemoOk Pg Stm104 := memo_ofP okP tabOk (hdW_ok hh) (orMemo_ok Sh.keysHm_ok (allMemoC_ok (l := []) trivial)) [(1465, 12)] (own_of Stown208) Strun104
end Go.Proofs.YtcglbpjpbjaecaaGreat.Ru
