import Derived.Test.YtcglbpjpbjaecaaGreatS16
import Derived.Test.YtcglbpjpbjaecaaGreatS15
set_option linter.unusedVariables false
set_option linter.unusedSimpArgs false
namespace Go.Proofs.YtcglbpjpbjaecaaGreat.Ru
open Go Go.Ab Go.RowKit
set_option maxRecDepth 100000
theorem Strun42 : (exTabM Pg FT hdW (orMemo Sh.keysHm (allMemoC [])) pu 60).ex (V × HT) Stm42.f Stm42.args ⟨Stm42.H.next, Stm42.H.next, Stm42.H.tr⟩ (pairP [(597, 12)]) = some (Stm42.v, Stm42.H') := by kernel_rfl
theorem Stmok42 (hh : HdOk Pg hd) : MemoOk Pg Stm42 := memo_ofP okP tabOk (hdW_ok hh) (orMemo_ok Sh.keysHm_ok (allMemoC_ok (l := []) trivial)) [(597, 12)] (own_of Stown84) Strun42
end Go.Proofs.YtcglbpjpbjaecaaGreat.Ru
namespace Go.Proofs.YtcglbpjpbjaecaaGreat.Ru
open Go Go.Ab Go.RowKit
set_option maxRecDepth 100000
theorem Strun43 : (exTabM Pg FT hdW (orMemo Sh.keysHm (allMemoC [])) pu 60).ex (V × HT) Stm43.f Stm43.args ⟨Stm43.H.next, Stm43.H.next, Stm43.H.tr⟩ (pairP [(611, 12)]) = some (Stm43.v, Stm43.H') := by kernel_rfl
theorem Stmok43 (hh : HdOk Pg hd) : MemoOk Pg Stm43 := memo_ofP okP tabOk (hdW_ok hh) (orMemo_ok Sh.keysHm_ok (allMemoC_ok (l := []) trivial)) [(611, 12)] (own_of Stown86) Strun43
end Go.Proofs.YtcglbpjpbjaecaaGreat.Ru
namespace Go.Proofs.YtcglbpjpbjaecaaGreat.Ru
open Go Go.Ab Go.RowKit
set_option maxRecDepth 100000
theorem Strun44 : (exTabM Pg FT hdW (orMemo Sh.keysHm (allMemoC [])) pu 60).ex (V × HT) Stm44.f Stm44.args ⟨Stm44.H.next, Stm44.H.next, Stm44.H.tr⟩ (pairP [(625, 12)]) = some (Stm44.v, Stm44.H') := by kernel_rfl
theorem Stmok44 (hh : HdOk Pg hd) : MemoOk Pg Stm44 := memo_ofP okP tabOk (hdW_ok hh) (orMemo_ok Sh.keysHm_ok (allMemoC_ok (l := []) trivial)) [(625, 12)] (own_of Stown88) Strun44
end Go.Proofs.YtcglbpjpbjaecaaGreat.Ru
namespace Go.Proofs.YtcglbpjpbjaecaaGreat.Ru
open Go Go.Ab Go.RowKit
set_option maxRecDepth 100000
theorem Strun45 : (exTabM Pg FT hdW (orMemo Sh.keysHm (allMemoC [])) pu 60).ex (V × HT) Stm45.f Stm45.args ⟨Stm45.H.next, Stm45.H.next, Stm45.H.tr⟩ (pairP [(639, 12)]) = some (Stm45.v, Stm45.H') := by kernel_rfl
theorem Stmok45 (hh : HdOk Pg hd) : MemoOk Pg Stm45 := memo_ofP okP tabOk (hdW_ok hh) (orMemo_ok Sh.keysHm_ok (allMemoC_ok (l := []) trivial)) [(639, 12)] (own_of Stown90) Strun45
end Go.Proofs.YtcglbpjpbjaecaaGreat.Ru
namespace Go.Proofs.YtcglbpjpbjaecaaGreat.Ru
open Go Go.Ab Go.RowKit
set_option maxRecDepth 100000
theorem Strun46 : (exTabM Pg FT hdW (orMemo Sh.keysHm (allMemoC [])) pu 60).ex (V × HT) Stm46.f Stm46.args ⟨Stm46.H.next, Stm46.H.next, Stm46.H.tr⟩ (pairP [(653, 12)]) = some (Stm46.v, Stm46.H') := by kernel_rfl
theorem Stmok46 (hh : HdOk Pg hd) : MemoOk Pg Stm46 := memo_ofP okP tabOk (hdW_ok hh) (orMemo_ok Sh.keysHm_ok (allMemoC_ok (l := []) trivial)) [(653, 12)] (own_of Stown92) Strun46
end Go.Proofs.YtcglbpjpbjaecaaGreat.Ru
namespace Go.Proofs.YtcglbpjpbjaecaaGreat.Ru
open Go Go.Ab Go.RowKit
set_option maxRecDepth 100000
theorem Strun47 : (exTabM Pg FT hdW (orMemo Sh.keysHm (allMemoC [])) pu 60).ex (V × HT) Stm47.f Stm47.args ⟨Stm47.H.next, Stm47.H.next, Stm47.H.tr⟩ (pairP [(667, 12)]) = some (Stm47.v, Stm47.H') := by kernel_rfl
theorem Stmok47 (hh : HdOk Pg hd) : MemoOk Pg Stm47 := memo_ofP okP tabOk (hdW_ok hh) (orMemo_ok Sh.keysHm_ok (allMemoC_ok (l := []) trivial)) [(667, 12)] (own_of Stown94) Strun47
end Go.Proofs.YtcglbpjpbjaecaaGreat.Ru
namespace Go.Proofs.YtcglbpjpbjaecaaGreat.Ru
open Go Go.Ab Go.RowKit
set_option maxRecDepth 100000
theorem Strun48 : (exTabM Pg FT hdW (orMemo Sh.keysHm (allMemoC [])) pu 60).ex (V × HT) Stm48.f Stm48.args ⟨Stm48.H.next, Stm48.H.next, Stm48.H.tr⟩ (pairP [(681, 12)]) = some (Stm48.v, Stm48.H') := by kernel_rfl
theorem Stmok48 (hh : HdOk Pg hd) : MemoOk Pg Stm48 := memo_ofP okP tabOk (hdW_ok hh) (orMemo_ok Sh.keysHm_ok (allMemoC_ok (l := []) trivial)) [(681, 12)] (own_of Stown96) Strun48
end Go.Proofs.YtcglbpjpbjaecaaGreat.Ru
