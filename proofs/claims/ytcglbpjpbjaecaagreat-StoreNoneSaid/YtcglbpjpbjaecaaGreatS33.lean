import Derived.Test.YtcglbpjpbjaecaaGreatS16
import Derived.Test.YtcglbpjpbjaecaaGreatS15
set_option linter.unusedVariables false
set_option linter.unusedSimpArgs false
namespace Go.Proofs.YtcglbpjpbjaecaaGreat.Ru
open Go Go.Ab Go.RowKit
set_option maxRecDepth 100000
theorem Strun112 : (exTabM Pg FT hdW (orMemo Sh.keysHm (allMemoC [])) pu 60).ex (V × HT) Stm112.f Stm112.args ⟨Stm112.H.next, Stm112.H.next, Stm112.H.tr⟩ (pairP [(1577, 12)]) = some (Stm112.v, Stm112.H') := by kernel_rfl
theorem Stmok112 (hh : HdOk Pg hd) : MemoOk Pg Stm112 := memo_ofP okP tabOk (hdW_ok hh) (orMemo_ok Sh.keysHm_ok (allMemoC_ok (l := []) trivial)) [(1577, 12)] (own_of Stown224) Strun112
end Go.Proofs.YtcglbpjpbjaecaaGreat.Ru
namespace Go.Proofs.YtcglbpjpbjaecaaGreat.Ru
open Go Go.Ab Go.RowKit
set_option maxRecDepth 100000
theorem Strun113 : (exTabM Pg FT hdW (orMemo Sh.keysHm (allMemoC [])) pu 60).ex (V × HT) Stm113.f Stm113.args ⟨Stm113.H.next, Stm113.H.next, Stm113.H.tr⟩ (pairP [(1591, 12)]) = some (Stm113.v, Stm113.H') := by kernel_rfl
theorem Stmok113 (hh : HdOk Pg hd) : MemoOk Pg Stm113 := memo_ofP okP tabOk (hdW_ok hh) (orMemo_ok Sh.keysHm_ok (allMemoC_ok (l := []) trivial)) [(1591, 12)] (own_of Stown226) Strun113
end Go.Proofs.YtcglbpjpbjaecaaGreat.Ru
namespace Go.Proofs.YtcglbpjpbjaecaaGreat.Ru
open Go Go.Ab Go.RowKit
set_option maxRecDepth 100000
theorem Strun114 : (exTabM Pg FT hdW (orMemo Sh.keysHm (allMemoC [])) pu 60).ex (V × HT) Stm114.f Stm114.args ⟨Stm114.H.next, Stm114.H.next, Stm114.H.tr⟩ (pairP [(1605, 12)]) = some (Stm114.v, Stm114.H') := by kernel_rfl
theorem Stmok114 (hh : HdOk Pg hd) : MemoOk Pg Stm114 := memo_ofP okP tabOk (hdW_ok hh) (orMemo_ok Sh.keysHm_ok (allMemoC_ok (l := []) trivial)) [(1605, 12)] (own_of Stown228) Strun114
end Go.Proofs.YtcglbpjpbjaecaaGreat.Ru
namespace Go.Proofs.YtcglbpjpbjaecaaGreat.Ru
open Go Go.Ab Go.RowKit
set_option maxRecDepth 100000
theorem Strun115 : (exTabM Pg FT hdW (orMemo Sh.keysHm (allMemoC [])) pu 60).ex (V × HT) Stm115.f Stm115.args ⟨Stm115.H.next, Stm115.H.next, Stm115.H.tr⟩ (pairP [(1619, 12)]) = some (Stm115.v, Stm115.H') := by kernel_rfl
theorem Stmok115 (hh : HdOk Pg hd) : MemoOk Pg Stm115 := memo_ofP okP tabOk (hdW_ok hh) (orMemo_ok Sh.keysHm_ok (allMemoC_ok (l := []) trivial)) [(1619, 12)] (own_of Stown230) Strun115
end Go.Proofs.YtcglbpjpbjaecaaGreat.Ru
namespace Go.Proofs.YtcglbpjpbjaecaaGreat.Ru
open Go Go.Ab Go.RowKit
set_option maxRecDepth 100000
theorem Strun116 : (exTabM Pg FT hdW (orMemo Sh.keysHm (allMemoC [])) pu 60).ex (V × HT) Stm116.f Stm116.args ⟨Stm116.H.next, Stm116.H.next, Stm116.H.tr⟩ (pairP [(1633, 12)]) = some (Stm116.v, Stm116.H') := by kernel_rfl
theorem Stmok116 (hh : HdOk Pg hd) : MemoOk Pg Stm116 := memo_ofP okP tabOk (hdW_ok hh) (orMemo_ok Sh.keysHm_ok (allMemoC_ok (l := []) trivial)) [(1633, 12)] (own_of Stown232) Strun116
end Go.Proofs.YtcglbpjpbjaecaaGreat.Ru
namespace Go.Proofs.YtcglbpjpbjaecaaGreat.Ru
open Go Go.Ab Go.RowKit
set_option maxRecDepth 100000
theorem Strun117 : (exTabM Pg FT hdW (orMemo Sh.keysHm (allMemoC [])) pu 60).ex (V × HT) Stm117.f Stm117.args ⟨Stm117.H.next, Stm117.H.next, Stm117.H.tr⟩ (pairP [(1647, 12)]) = some (Stm117.v, Stm117.H') := by kernel_rfl
theorem Stmok117 (hh : HdOk Pg hd) : MemoOk Pg Stm117 := memo_ofP okP tabOk (hdW_ok hh) (orMemo_ok Sh.keysHm_ok (allMemoC_ok (l := []) trivial)) [(1647, 12)] (own_of Stown234) Strun117
end Go.Proofs.YtcglbpjpbjaecaaGreat.Ru
namespace Go.Proofs.YtcglbpjpbjaecaaGreat.Ru
open Go Go.Ab Go.RowKit
set_option maxRecDepth 100000
theorem Strun118 : (exTabM Pg FT hdW (orMemo Sh.keysHm (allMemoC [])) pu 60).ex (V × HT) Stm118.f Stm118.args ⟨Stm118.H.next, Stm118.H.next, Stm118.H.tr⟩ (pairP [(1661, 12)]) = some (Stm118.v, Stm118.H') := by kernel_rfl
theorem Stmok118 (hh : HdOk Pg hd) : MemoOk Pg Stm118 := memo_ofP okP tabOk (hdW_ok hh) (orMemo_ok Sh.keysHm_ok (allMemoC_ok (l := []) trivial)) [(1661, 12)] (own_of Stown236) Strun118
end Go.Proofs.YtcglbpjpbjaecaaGreat.Ru
