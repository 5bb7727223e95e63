import Derived.Test.YtcglbpjpbjaecaaGreatS16
import Derived.Test.YtcglbpjpbjaecaaGreatS15
set_option linter.unusedVariables false
set_option linter.unusedSimpArgs false
namespace Go.Proofs.YtcglbpjpbjaecaaGreat.Ru
open Go Go.Ab Go.RowKit
set_option maxRecDepth 100000
theorem Strun0 : (exTabM Pg FT hdW (orMemo Sh.keysHm (allMemoC [])) pu 60).ex (V × HT) Stm0.f Stm0.args ⟨Stm0.H.next, Stm0.H.next, Stm0.H.tr⟩ (pairP [(9, 12)]) = some (Stm0.v, Stm0.H') := by kernel_rfl
theorem Stmok0 (hh : HdOk Pg hd) : MemoOk Pg Stm0 := memo_ofP okP tabOk (hdW_ok hh) (orMemo_ok Sh.keysHm_ok (allMemoC_ok (l := []) trivial)) [(9, 12)] (own_of Stown0) Strun0
end Go.Proofs.YtcglbpjpbjaecaaGreat.Ru
namespace Go.Proofs.YtcglbpjpbjaecaaGreat.Ru
open Go Go.Ab Go.RowKit
set_option maxRecDepth 100000
theorem Strun1 : (exTabM Pg FT hdW (orMemo Sh.keysHm (allMemoC [])) pu 60).ex (V × HT) Stm1.f Stm1.args ⟨Stm1.H.next, Stm1.H.next, Stm1.H.tr⟩ (pairP [(23, 12)]) = some (Stm1.v, Stm1.H') := by kernel_rfl
theorem Stmok1 (hh : HdOk Pg hd) : MemoOk Pg Stm1 := memo_ofP okP tabOk (hdW_ok hh) (orMemo_ok Sh.keysHm_ok (allMemoC_ok (l := []) trivial)) [(23, 12)] (own_of Stown2) Strun1
end Go.Proofs.YtcglbpjpbjaecaaGreat.Ru
namespace Go.Proofs.YtcglbpjpbjaecaaGreat.Ru
open Go Go.Ab Go.RowKit
set_option maxRecDepth 100000
theorem Strun2 : (exTabM Pg FT hdW (orMemo Sh.keysHm (allMemoC [])) pu 60).ex (V × HT) Stm2.f Stm2.args ⟨Stm2.H.next, Stm2.H.next, Stm2.H.tr⟩ (pairP [(37, 12)]) = some (Stm2.v, Stm2.H') := by kernel_rfl
theorem Stmok2 (hh : HdOk Pg hd) : MemoOk Pg Stm2 := memo_ofP okP tabOk (hdW_ok hh) (orMemo_ok Sh.keysHm_ok (allMemoC_ok (l := []) trivial)) [(37, 12)] (own_of Stown4) Strun2
end Go.Proofs.YtcglbpjpbjaecaaGreat.Ru
namespace Go.Proofs.YtcglbpjpbjaecaaGreat.Ru
open Go Go.Ab Go.RowKit
set_option maxRecDepth 100000
theorem Strun3 : (exTabM Pg FT hdW (orMemo Sh.keysHm (allMemoC [])) pu 60).ex (V × HT) Stm3.f Stm3.args ⟨Stm3.H.next, Stm3.H.next, Stm3.H.tr⟩ (pairP [(51, 12)]) = some (Stm3.v, Stm3.H') := by kernel_rfl
theorem Stmok3 (hh : HdOk Pg hd) : MemoOk Pg Stm3 := memo_ofP okP tabOk (hdW_ok hh) (orMemo_ok Sh.keysHm_ok (allMemoC_ok (l := []) trivial)) [(51, 12)] (own_of Stown6) Strun3
end Go.Proofs.YtcglbpjpbjaecaaGreat.Ru
namespace Go.Proofs.YtcglbpjpbjaecaaGreat.Ru
open Go Go.Ab Go.RowKit
set_option maxRecDepth 100000
theorem Strun4 : (exTabM Pg FT hdW (orMemo Sh.keysHm (allMemoC [])) pu 60).ex (V × HT) Stm4.f Stm4.args ⟨Stm4.H.next, Stm4.H.next, Stm4.H.tr⟩ (pairP [(65, 12)]) = some (Stm4.v, Stm4.H') := by kernel_rfl
theorem Stmok4 (hh : HdOk Pg hd) : MemoOk Pg Stm4 := memo_ofP okP tabOk (hdW_ok hh) (orMemo_ok Sh.keysHm_ok (allMemoC_ok (l := []) trivial)) [(65, 12)] (own_of Stown8) Strun4
end Go.Proofs.YtcglbpjpbjaecaaGreat.Ru
namespace Go.Proofs.YtcglbpjpbjaecaaGreat.Ru
open Go Go.Ab Go.RowKit
set_option maxRecDepth 100000
theorem Strun5 : (exTabM Pg FT hdW (orMemo Sh.keysHm (allMemoC [])) pu 60).ex (V × HT) Stm5.f Stm5.args ⟨Stm5.H.next, Stm5.H.next, Stm5.H.tr⟩ (pairP [(79, 12)]) = some (Stm5.v, Stm5.H') := by kernel_rfl
theorem Stmok5 (hh : HdOk Pg hd) : MemoOk Pg Stm5 := memo_ofP okP tabOk (hdW_ok hh) (orMemo_ok Sh.keysHm_ok (allMemoC_ok (l := []) trivial)) [(79, 12)] (own_of Stown10) Strun5
end Go.Proofs.YtcglbpjpbjaecaaGreat.Ru
namespace Go.Proofs.YtcglbpjpbjaecaaGreat.Ru
open Go Go.Ab Go.RowKit
set_option maxRecDepth 100000
theorem Strun6 : (exTabM Pg FT hdW (orMemo Sh.keysHm (allMemoC [])) pu 60).ex (V × HT) Stm6.f Stm6.args ⟨Stm6.H.next, Stm6.H.next, Stm6.H.tr⟩ (pairP [(93, 12)]) = some (Stm6.v, Stm6.H') := by kernel_rfl
theorem Stmok6 (hh : HdOk Pg hd) : MemoOk Pg Stm6 := memo_ofP okP tabOk (hdW_ok hh) (orMemo_ok Sh.keysHm_ok (allMemoC_ok (l := []) trivial)) [(93, 12)] (own_of Stown12) Strun6
end Go.Proofs.YtcglbpjpbjaecaaGreat.Ru
