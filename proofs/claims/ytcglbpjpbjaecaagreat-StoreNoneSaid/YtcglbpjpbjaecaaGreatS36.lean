import Derived.Test.YtcglbpjpbjaecaaGreatS16
import Derived.Test.YtcglbpjpbjaecaaGreatS15
set_option linter.unusedVariables false
set_option linter.unusedSimpArgs false
namespace Go.Proofs.YtcglbpjpbjaecaaGreat.Ru
open Go Go.Ab Go.RowKit
set_option maxRecDepth 100000
theorem Strun133 : (exTabM Pg FT hdW (orMemo Sh.keysHm (allMemoC [])) pu 60).ex (V × HT) Stm133.f Stm133.args ⟨Stm133.H.next, Stm133.H.next, Stm133.H.tr⟩ (pairP [(1871, 12)]) = some (Stm133.v, Stm133.H') := by kernel_rfl
theorem Stmok133 (hh : HdOk Pg hd) : MemoOk Pg Stm133 := memo_ofP okP tabOk (hdW_ok hh) (orMemo_ok Sh.keysHm_ok (allMemoC_ok (l := []) trivial)) [(1871, 12)] (own_of Stown266) Strun133
end Go.Proofs.YtcglbpjpbjaecaaGreat.Ru
namespace Go.Proofs.YtcglbpjpbjaecaaGreat.Ru
open Go Go.Ab Go.RowKit
set_option maxRecDepth 100000
theorem Strun134 : (exTabM Pg FT hdW (orMemo Sh.keysHm (allMemoC [])) pu 60).ex (V × HT) Stm134.f Stm134.args ⟨Stm134.H.next, Stm134.H.next, Stm134.H.tr⟩ (pairP [(1885, 12)]) = some (Stm134.v, Stm134.H') := by kernel_rfl
theorem Stmok134 (hh : HdOk Pg hd) : MemoOk Pg Stm134 := memo_ofP okP tabOk (hdW_ok hh) (orMemo_ok Sh.keysHm_ok (allMemoC_ok (l := []) trivial)) [(1885, 12)] (own_of Stown268) Strun134
end Go.Proofs.YtcglbpjpbjaecaaGreat.Ru
namespace Go.Proofs.YtcglbpjpbjaecaaGreat.Ru
open Go Go.Ab Go.RowKit
set_option maxRecDepth 100000
theorem Strun135 : (exTabM Pg FT hdW (orMemo Sh.keysHm (allMemoC [])) pu 60).ex (V × HT) Stm135.f Stm135.args ⟨Stm135.H.next, Stm135.H.next, Stm135.H.tr⟩ (pairP [(1899, 12)]) = some (Stm135.v, Stm135.H') := by kernel_rfl
theorem Stmok135 (hh : HdOk Pg hd) : MemoOk Pg Stm135 := memo_ofP okP tabOk (hdW_ok hh) (orMemo_ok Sh.keysHm_ok (allMemoC_ok (l := []) trivial)) [(1899, 12)] (own_of Stown270) Strun135
end Go.Proofs.YtcglbpjpbjaecaaGreat.Ru
namespace Go.Proofs.YtcglbpjpbjaecaaGreat.Ru
open Go Go.Ab Go.RowKit
set_option maxRecDepth 100000
theorem Strun136 : (exTabM Pg FT hdW (orMemo Sh.keysHm (allMemoC [])) pu 60).ex (V × HT) Stm136.f Stm136.args ⟨Stm136.H.next, Stm136.H.next, Stm136.H.tr⟩ (pairP [(1913, 12)]) = some (Stm136.v, Stm136.H') := by kernel_rfl
theorem Stmok136 (hh : HdOk Pg hd) : MemoOk Pg Stm136 := memo_ofP okP tabOk (hdW_ok hh) (orMemo_ok Sh.keysHm_ok (allMemoC_ok (l := []) trivial)) [(1913, 12)] (own_of Stown272) Strun136
end Go.Proofs.YtcglbpjpbjaecaaGreat.Ru
namespace Go.Proofs.YtcglbpjpbjaecaaGreat.Ru
open Go Go.Ab Go.RowKit
set_option maxRecDepth 100000
theorem Strun137 : (exTabM Pg FT hdW (orMemo Sh.keysHm (allMemoC [])) pu 60).ex (V × HT) Stm137.f Stm137.args ⟨Stm137.H.next, Stm137.H.next, Stm137.H.tr⟩ (pairP [(1927, 12)]) = some (Stm137.v, Stm137.H') := by kernel_rfl
theorem Stmok137 (hh : HdOk Pg hd) : MemoOk Pg Stm137 := memo_ofP okP tabOk (hdW_ok hh) (orMemo_ok Sh.keysHm_ok (allMemoC_ok (l := []) trivial)) [(1927, 12)] (own_of Stown274) Strun137
end Go.Proofs.YtcglbpjpbjaecaaGreat.Ru
namespace Go.Proofs.YtcglbpjpbjaecaaGreat.Ru
open Go Go.Ab Go.RowKit
set_option maxRecDepth 100000
theorem Strun138 : (exTabM Pg FT hdW (orMemo Sh.keysHm (allMemoC [])) pu 60).ex (V × HT) Stm138.f Stm138.args ⟨Stm138.H.next, Stm138.H.next, Stm138.H.tr⟩ (pairP [(1941, 12)]) = some (Stm138.v, Stm138.H') := by kernel_rfl
theorem Stmok138 (hh : HdOk Pg hd) : MemoOk Pg Stm138 := memo_ofP okP tabOk (hdW_ok hh) (orMemo_ok Sh.keysHm_ok (allMemoC_ok (l := []) trivial)) [(1941, 12)] (own_of Stown276) Strun138
end Go.Proofs.YtcglbpjpbjaecaaGreat.Ru
namespace Go.Proofs.YtcglbpjpbjaecaaGreat.Ru
open Go Go.Ab Go.RowKit
set_option maxRecDepth 100000
theorem Strun139 : (exTabM Pg FT hdW (orMemo Sh.keysHm (allMemoC [])) pu 60).ex (V × HT) Stm139.f Stm139.args ⟨Stm139.H.next, Stm139.H.next, Stm139.H.tr⟩ (pairP [(1955, 12)]) = some (Stm139.v, Stm139.H') := by kernel_rfl
theorem Stmok139 (hh : HdOk Pg hd) : MemoOk Pg Stm139 := memo_ofP okP tabOk (hdW_ok hh) (orMemo_ok Sh.keysHm_ok (allMemoC_ok (l := []) trivial)) [(1955, 12)] (own_of Stown278) Strun139
end Go.Proofs.YtcglbpjpbjaecaaGreat.Ru
