import Derived.Test.YtcglbpjpbjaecaaGreatS16
import Derived.Test.YtcglbpjpbjaecaaGreatS15
set_option linter.unusedVariables false
set_option linter.unusedSimpArgs false
namespace Go.Proofs.YtcglbpjpbjaecaaGreat.Ru
open Go Go.Ab Go.RowKit
set_option maxRecDepth 100000
theorem Strun14 : (exTabM Pg FT hdW (orMemo Sh.keysHm (allMemoC [])) pu 60).ex (V × HT) Stm14.f Stm14.args ⟨Stm14.H.next, Stm14.H.next, Stm14.H.tr⟩ (pairP [(205, 12)]) = some (Stm14.v, Stm14.H') := by kernel_rfl
theorem Stmok14 (hh : HdOk Pg hd) : MemoOk Pg Stm14 := memo_ofP okP tabOk (hdW_ok hh) (orMemo_ok Sh.keysHm_ok (allMemoC_ok (l := []) trivial)) [(205, 12)] (own_of Stown28) Strun14
end Go.Proofs.YtcglbpjpbjaecaaGreat.Ru
namespace Go.Proofs.YtcglbpjpbjaecaaGreat.Ru
open Go Go.Ab Go.RowKit
set_option maxRecDepth 100000
theorem Strun15 : (exTabM Pg FT hdW (orMemo Sh.keysHm (allMemoC [])) pu 60).ex (V × HT) Stm15.f Stm15.args ⟨Stm15.H.next, Stm15.H.next, Stm15.H.tr⟩ (pairP [(219, 12)]) = some (Stm15.v, Stm15.H') := by kernel_rfl
theorem Stmok15 (hh : HdOk Pg hd) : MemoOk Pg Stm15 := memo_ofP okP tabOk (hdW_ok hh) (orMemo_ok Sh.keysHm_ok (allMemoC_ok (l := []) trivial)) [(219, 12)] (own_of Stown30) Strun15
end Go.Proofs.YtcglbpjpbjaecaaGreat.Ru
namespace Go.Proofs.YtcglbpjpbjaecaaGreat.Ru
open Go Go.Ab Go.RowKit
set_option maxRecDepth 100000
theorem Strun16 : (exTabM Pg FT hdW (orMemo Sh.keysHm (allMemoC [])) pu 60).ex (V × HT) Stm16.f Stm16.args ⟨Stm16.H.next, Stm16.H.next, Stm16.H.tr⟩ (pairP [(233, 12)]) = some (Stm16.v, Stm16.H') := by kernel_rfl
theorem Stmok16 (hh : HdOk Pg hd) : MemoOk Pg Stm16 := memo_ofP okP tabOk (hdW_ok hh) (orMemo_ok Sh.keysHm_ok (allMemoC_ok (l := []) trivial)) [(233, 12)] (own_of Stown32) Strun16
end Go.Proofs.YtcglbpjpbjaecaaGreat.Ru
namespace Go.Proofs.YtcglbpjpbjaecaaGreat.Ru
open Go Go.Ab Go.RowKit
set_option maxRecDepth 100000
theorem Strun17 : (exTabM Pg FT hdW (orMemo Sh.keysHm (allMemoC [])) pu 60).ex (V × HT) Stm17.f Stm17.args ⟨Stm17.H.next, Stm17.H.next, Stm17.H.tr⟩ (pairP [(247, 12)]) = some (Stm17.v, Stm17.H') := by kernel_rfl
theorem Stmok17 (hh : HdOk Pg hd) : MemoOk Pg Stm17 := memo_ofP okP tabOk (hdW_ok hh) (orMemo_ok Sh.keysHm_ok (allMemoC_ok (l := []) trivial)) [(247, 12)] (own_of Stown34) Strun17
end Go.Proofs.YtcglbpjpbjaecaaGreat.Ru
namespace Go.Proofs.YtcglbpjpbjaecaaGreat.Ru
open Go Go.Ab Go.RowKit
set_option maxRecDepth 100000
theorem Strun18 : (exTabM Pg FT hdW (orMemo Sh.keysHm (allMemoC [])) pu 60).ex (V × HT) Stm18.f Stm18.args ⟨Stm18.H.next, Stm18.H.next, Stm18.H.tr⟩ (pairP [(261, 12)]) = some (Stm18.v, Stm18.H') := by kernel_rfl
theorem Stmok18 (hh : HdOk Pg hd) : MemoOk Pg Stm18 := memo_ofP okP tabOk (hdW_ok hh) (orMemo_ok Sh.keysHm_ok (allMemoC_ok (l := []) trivial)) [(261, 12)] (own_of Stown36) Strun18
end Go.Proofs.YtcglbpjpbjaecaaGreat.Ru
namespace Go.Proofs.YtcglbpjpbjaecaaGreat.Ru
open Go Go.Ab Go.RowKit
set_option maxRecDepth 100000
theorem Strun19 : (exTabM Pg FT hdW (orMemo Sh.keysHm (allMemoC [])) pu 60).ex (V × HT) Stm19.f Stm19.args ⟨Stm19.H.next, Stm19.H.next, Stm19.H.tr⟩ (pairP [(275, 12)]) = some (Stm19.v, Stm19.H') := by kernel_rfl
theorem Stmok19 (hh : HdOk Pg hd) : MemoOk Pg Stm19 := memo_ofP okP tabOk (hdW_ok hh) (orMemo_ok Sh.keysHm_ok (allMemoC_ok (l := []) trivial)) [(275, 12)] (own_of Stown38) Strun19
end Go.Proofs.YtcglbpjpbjaecaaGreat.Ru
namespace Go.Proofs.YtcglbpjpbjaecaaGreat.Ru
open Go Go.Ab Go.RowKit
set_option maxRecDepth 100000
theorem Strun20 : (exTabM Pg FT hdW (orMemo Sh.keysHm (allMemoC [])) pu 60).ex (V × HT) Stm20.f Stm20.args ⟨Stm20.H.next, Stm20.H.next, Stm20.H.tr⟩ (pairP [(289, 12)]) = some (Stm20.v, Stm20.H') := by kernel_rfl
theorem Stmok20 (hh : HdOk Pg hd) : MemoOk Pg Stm20 := memo_ofP okP tabOk (hdW_ok hh) (orMemo_ok Sh.keysHm_ok (allMemoC_ok (l := []) trivial)) [(289, 12)] (own_of Stown40) Strun20
end Go.Proofs.YtcglbpjpbjaecaaGreat.Ru
