import Derived.Test.YtcglbpjpbjaecaaGreatS16
import Derived.Test.YtcglbpjpbjaecaaGreatS15
set_option linter.unusedVariables false
set_option linter.unusedSimpArgs false
namespace Go.Proofs.YtcglbpjpbjaecaaGreat.Ru
open Go Go.Ab Go.RowKit
set_option maxRecDepth 100000
theorem Strun28 : (exTabM Pg FT hdW (orMemo Sh.keysHm (allMemoC [])) pu 60).ex (V × HT) Stm28.f Stm28.args ⟨Stm28.H.next, Stm28.H.next, Stm28.H.tr⟩ (pairP [(401, 12)]) = some (Stm28.v, Stm28.H') := by kernel_rfl
theorem Stmok28 (hh : HdOk Pg hd) : MemoOk Pg Stm28 := memo_ofP okP tabOk (hdW_ok hh) (orMemo_ok Sh.keysHm_ok (allMemoC_ok (l := []) trivial)) [(401, 12)] (own_of Stown56) Strun28
end Go.Proofs.YtcglbpjpbjaecaaGreat.Ru
namespace Go.Proofs.YtcglbpjpbjaecaaGreat.Ru
open Go Go.Ab Go.RowKit
set_option maxRecDepth 100000
theorem Strun29 : (exTabM Pg FT hdW (orMemo Sh.keysHm (allMemoC [])) pu 60).ex (V × HT) Stm29.f Stm29.args ⟨Stm29.H.next, Stm29.H.next, Stm29.H.tr⟩ (pairP [(415, 12)]) = some (Stm29.v, Stm29.H') := by kernel_rfl
theorem Stmok29 (hh : HdOk Pg hd) : MemoOk Pg Stm29 := memo_ofP okP tabOk (hdW_ok hh) (orMemo_ok Sh.keysHm_ok (allMemoC_ok (l := []) trivial)) [(415, 12)] (own_of Stown58) Strun29
end Go.Proofs.YtcglbpjpbjaecaaGreat.Ru
namespace Go.Proofs.YtcglbpjpbjaecaaGreat.Ru
open Go Go.Ab Go.RowKit
set_option maxRecDepth 100000
theorem Strun30 : (exTabM Pg FT hdW (orMemo Sh.keysHm (allMemoC [])) pu 60).ex (V × HT) Stm30.f Stm30.args ⟨Stm30.H.next, Stm30.H.next, Stm30.H.tr⟩ (pairP [(429, 12)]) = some (Stm30.v, Stm30.H') := by kernel_rfl
theorem Stmok30 (hh : HdOk Pg hd) : MemoOk Pg Stm30 := memo_ofP okP tabOk (hdW_ok hh) (orMemo_ok Sh.keysHm_ok (allMemoC_ok (l := []) trivial)) [(429, 12)] (own_of Stown60) Strun30
end Go.Proofs.YtcglbpjpbjaecaaGreat.Ru
namespace Go.Proofs.YtcglbpjpbjaecaaGreat.Ru
open Go Go.Ab Go.RowKit
set_option maxRecDepth 100000
theorem Strun31 : (exTabM Pg FT hdW (orMemo Sh.keysHm (allMemoC [])) pu 60).ex (V × HT) Stm31.f Stm31.args ⟨Stm31.H.next, Stm31.H.next, Stm31.H.tr⟩ (pairP [(443, 12)]) = some (Stm31.v, Stm31.H') := by kernel_rfl
theorem Stmok31 (hh : HdOk Pg hd) : MemoOk Pg Stm31 := memo_ofP okP tabOk (hdW_ok hh) (orMemo_ok Sh.keysHm_ok (allMemoC_ok (l := []) trivial)) [(443, 12)] (own_of Stown62) Strun31
end Go.Proofs.YtcglbpjpbjaecaaGreat.Ru
namespace Go.Proofs.YtcglbpjpbjaecaaGreat.Ru
open Go Go.Ab Go.RowKit
set_option maxRecDepth 100000
theorem Strun32 : (exTabM Pg FT hdW (orMemo Sh.keysHm (allMemoC [])) pu 60).ex (V × HT) Stm32.f Stm32.args ⟨Stm32.H.next, Stm32.H.next, Stm32.H.tr⟩ (pairP [(457, 12)]) = some (Stm32.v, Stm32.H') := by kernel_rfl
theorem Stmok32 (hh : HdOk Pg hd) : MemoOk Pg Stm32 := memo_ofP okP tabOk (hdW_ok hh) (orMemo_ok Sh.keysHm_ok (allMemoC_ok (l := []) trivial)) [(457, 12)] (own_of Stown64) Strun32
end Go.Proofs.YtcglbpjpbjaecaaGreat.Ru
namespace Go.Proofs.YtcglbpjpbjaecaaGreat.Ru
open Go Go.Ab Go.RowKit
set_option maxRecDepth 100000
theorem Strun33 : (exTabM Pg FT hdW (orMemo Sh.keysHm (allMemoC [])) pu 60).ex (V × HT) Stm33.f Stm33.args ⟨Stm33.H.next, Stm33.H.next, Stm33.H.tr⟩ (pairP [(471, 12)]) = some (Stm33.v, Stm33.H') := by kernel_rfl
theorem Stmok33 (hh : HdOk Pg hd) : MemoOk Pg Stm33 := memo_ofP okP tabOk (hdW_ok hh) (orMemo_ok Sh.keysHm_ok (allMemoC_ok (l := []) trivial)) [(471, 12)] (own_of Stown66) Strun33
end Go.Proofs.YtcglbpjpbjaecaaGreat.Ru
namespace Go.Proofs.YtcglbpjpbjaecaaGreat.Ru
open Go Go.Ab Go.RowKit
set_option maxRecDepth 100000
theorem Strun34 : (exTabM Pg FT hdW (orMemo Sh.keysHm (allMemoC [])) pu 60).ex (V × HT) Stm34.f Stm34.args ⟨Stm34.H.next, Stm34.H.next, Stm34.H.tr⟩ (pairP [(485, 12)]) = some (Stm34.v, Stm34.H') := by kernel_rfl
theorem Stmok34 (hh : HdOk Pg hd) : MemoOk Pg Stm34 := memo_ofP okP tabOk (hdW_ok hh) (orMemo_ok Sh.keysHm_ok (allMemoC_ok (l := []) trivial)) [(485, 12)] (own_of Stown68) Strun34
end Go.Proofs.YtcglbpjpbjaecaaGreat.Ru
