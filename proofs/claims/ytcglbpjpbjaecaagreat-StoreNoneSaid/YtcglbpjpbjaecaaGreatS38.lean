import Derived.Test.YtcglbpjpbjaecaaGreatS16
import Derived.Test.YtcglbpjpbjaecaaGreatS15
set_option linter.unusedVariables false
set_option linter.unusedSimpArgs false
namespace Go.Proofs.YtcglbpjpbjaecaaGreat.Ru
open Go Go.Ab Go.RowKit
set_option maxRecDepth 100000
theorem Strun147 : (exTabM Pg FT hdW (orMemo Sh.keysHm (allMemoC [])) pu 60).ex (V × HT) Stm147.f Stm147.args ⟨Stm147.H.next, Stm147.H.next, Stm147.H.tr⟩ (pairP [(2067, 12)]) = some (Stm147.v, Stm147.H') := by kernel_rfl
theorem Stmok147 (hh : HdOk Pg hd) : MemoOk Pg Stm147 := memo_ofP okP tabOk (hdW_ok hh) (orMemo_ok Sh.keysHm_ok (allMemoC_ok (l := []) trivial)) [(2067, 12)] (own_of Stown294) Strun147
end Go.Proofs.YtcglbpjpbjaecaaGreat.Ru
namespace Go.Proofs.YtcglbpjpbjaecaaGreat.Ru
open Go Go.Ab Go.RowKit
set_option maxRecDepth 100000
theorem Strun148 : (exTabM Pg FT hdW (orMemo Sh.keysHm (allMemoC [])) pu 60).ex (V × HT) Stm148.f Stm148.args ⟨Stm148.H.next, Stm148.H.next, Stm148.H.tr⟩ (pairP [(2081, 12)]) = some (Stm148.v, Stm148.H') := by kernel_rfl
theorem Stmok148 (hh : HdOk Pg hd) : MemoOk Pg Stm148 := memo_ofP okP tabOk (hdW_ok hh) (orMemo_ok Sh.keysHm_ok (allMemoC_ok (l := []) trivial)) [(2081, 12)] (own_of Stown296) Strun148
end Go.Proofs.YtcglbpjpbjaecaaGreat.Ru
namespace Go.Proofs.YtcglbpjpbjaecaaGreat.Ru
open Go Go.Ab Go.RowKit
set_option maxRecDepth 100000
theorem Strun149 : (exTabM Pg FT hdW (orMemo Sh.keysHm (allMemoC [])) pu 60).ex (V × HT) Stm149.f Stm149.args ⟨Stm149.H.next, Stm149.H.next, Stm149.H.tr⟩ (pairP [(2095, 12)]) = some (Stm149.v, Stm149.H') := by kernel_rfl
theorem Stmok149 (hh : HdOk Pg hd) : MemoOk Pg Stm149 := memo_ofP okP tabOk (hdW_ok hh) (orMemo_ok Sh.keysHm_ok (allMemoC_ok (l := []) trivial)) [(2095, 12)] (own_of Stown298) Strun149
end Go.Proofs.YtcglbpjpbjaecaaGreat.Ru
namespace Go.Proofs.YtcglbpjpbjaecaaGreat.Ru
open Go Go.Ab Go.RowKit
set_option maxRecDepth 100000
theorem Strun150 : (exTabM Pg FT hdW (orMemo Sh.keysHm (allMemoC [])) pu 60).ex (V × HT) Stm150.f Stm150.args ⟨Stm150.H.next, Stm150.H.next, Stm150.H.tr⟩ (pairP [(2109, 12)]) = some (Stm150.v, Stm150.H') := by kernel_rfl
theorem Stmok150 (hh : HdOk Pg hd) : MemoOk Pg Stm150 := memo_ofP okP tabOk (hdW_ok hh) (orMemo_ok Sh.keysHm_ok (allMemoC_ok (l := []) trivial)) [(2109, 12)] (own_of Stown300) Strun150
end Go.Proofs.YtcglbpjpbjaecaaGreat.Ru
namespace Go.Proofs.YtcglbpjpbjaecaaGreat.Ru
open Go Go.Ab Go.RowKit
set_option maxRecDepth 100000
theorem Strun151 : (exTabM Pg FT hdW (orMemo Sh.keysHm (allMemoC [])) pu 60).ex (V × HT) Stm151.f Stm151.args ⟨Stm151.H.next, Stm151.H.next, Stm151.H.tr⟩ (pairP [(2123, 12)]) = some (Stm151.v, Stm151.H') := by kernel_rfl
theorem Stmok151 (hh : HdOk Pg hd) : MemoOk Pg Stm151 := memo_ofP okP tabOk (hdW_ok hh) (orMemo_ok Sh.keysHm_ok (allMemoC_ok (l := []) trivial)) [(2123, 12)] (own_of Stown302) Strun151
end Go.Proofs.YtcglbpjpbjaecaaGreat.Ru
namespace Go.Proofs.YtcglbpjpbjaecaaGreat.Ru
open Go Go.Ab Go.RowKit
set_option maxRecDepth 100000
theorem Strun152 : (exTabM Pg FT hdW (orMemo Sh.keysHm (allMemoC [])) pu 60).ex (V × HT) Stm152.f Stm152.args ⟨Stm152.H.next, Stm152.H.next, Stm152.H.tr⟩ (pairP [(2137, 12)]) = some (Stm152.v, Stm152.H') := by kernel_rfl
theorem Stmok152 (hh : HdOk Pg hd) : MemoOk Pg Stm152 := memo_ofP okP tabOk (hdW_ok hh) (orMemo_ok Sh.keysHm_ok (allMemoC_ok (l := []) trivial)) [(2137, 12)] (own_of Stown304) Strun152
end Go.Proofs.YtcglbpjpbjaecaaGreat.Ru
namespace Go.Proofs.YtcglbpjpbjaecaaGreat.Ru
open Go Go.Ab Go.RowKit
set_option maxRecDepth 100000
theorem Strun153 : (exTabM Pg FT hdW (orMemo Sh.keysHm (allMemoC [])) pu 60).ex (V × HT) Stm153.f Stm153.args ⟨Stm153.H.next, Stm153.H.next, Stm153.H.tr⟩ (pairP [(2151, 12)]) = some (Stm153.v, Stm153.H') := by kernel_rfl
theorem Stmok153 (hh : HdOk Pg hd) : MemoOk Pg Stm153 := memo_ofP okP tabOk (hdW_ok hh) (orMemo_ok Sh.keysHm_ok (allMemoC_ok (l := []) trivial)) [(2151, 12)] (own_of Stown306) Strun153
end Go.Proofs.YtcglbpjpbjaecaaGreat.Ru
