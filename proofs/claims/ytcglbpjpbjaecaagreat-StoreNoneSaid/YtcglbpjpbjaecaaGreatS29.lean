import Derived.Test.YtcglbpjpbjaecaaGreatS16
import Derived.Test.YtcglbpjpbjaecaaGreatS15
set_option linter.unusedVariables false
set_option linter.unusedSimpArgs false
namespace Go.Proofs.YtcglbpjpbjaecaaGreat.Ru
open Go Go.Ab Go.RowKit
set_option maxRecDepth 100000
theorem Strun84 : (exTabM Pg FT hdW (orMemo Sh.keysHm (allMemoC [])) pu 60).ex (V × HT) Stm84.f Stm84.args ⟨Stm84.H.next, Stm84.H.next, Stm84.H.tr⟩ (pairP [(1185, 12)]) = some (Stm84.v, Stm84.H') := by kernel_rfl
theorem Stmok84 (hh : HdOk Pg hd) : MemoOk Pg Stm84 := memo_ofP okP tabOk (hdW_ok hh) (orMemo_ok Sh.keysHm_ok (allMemoC_ok (l := []) trivial)) [(1185, 12)] (own_of Stown168) Strun84
end Go.Proofs.YtcglbpjpbjaecaaGreat.Ru
namespace Go.Proofs.YtcglbpjpbjaecaaGreat.Ru
open Go Go.Ab Go.RowKit
set_option maxRecDepth 100000
theorem Strun85 : (exTabM Pg FT hdW (orMemo Sh.keysHm (allMemoC [])) pu 60).ex (V × HT) Stm85.f Stm85.args ⟨Stm85.H.next, Stm85.H.next, Stm85.H.tr⟩ (pairP [(1199, 12)]) = some (Stm85.v, Stm85.H') := by kernel_rfl
theorem Stmok85 (hh : HdOk Pg hd) : MemoOk Pg Stm85 := memo_ofP okP tabOk (hdW_ok hh) (orMemo_ok Sh.keysHm_ok (allMemoC_ok (l := []) trivial)) [(1199, 12)] (own_of Stown170) Strun85
end Go.Proofs.YtcglbpjpbjaecaaGreat.Ru
namespace Go.Proofs.YtcglbpjpbjaecaaGreat.Ru
open Go Go.Ab Go.RowKit
set_option maxRecDepth 100000
theorem Strun86 : (exTabM Pg FT hdW (orMemo Sh.keysHm (allMemoC [])) pu 60).ex (V × HT) Stm86.f Stm86.args ⟨Stm86.H.next, Stm86.H.next, Stm86.H.tr⟩ (pairP [(1213, 12)]) = some (Stm86.v, Stm86.H') := by kernel_rfl
theorem Stmok86 (hh : HdOk Pg hd) : MemoOk Pg Stm86 := memo_ofP okP tabOk (hdW_ok hh) (orMemo_ok Sh.keysHm_ok (allMemoC_ok (l := []) trivial)) [(1213, 12)] (own_of Stown172) Strun86
end Go.Proofs.YtcglbpjpbjaecaaGreat.Ru
namespace Go.Proofs.YtcglbpjpbjaecaaGreat.Ru
open Go Go.Ab Go.RowKit
set_option maxRecDepth 100000
theorem Strun87 : (exTabM Pg FT hdW (orMemo Sh.keysHm (allMemoC [])) pu 60).ex (V × HT) Stm87.f Stm87.args ⟨Stm87.H.next, Stm87.H.next, Stm87.H.tr⟩ (pairP [(1227, 12)]) = some (Stm87.v, Stm87.H') := by kernel_rfl
theorem Stmok87 (hh : HdOk Pg hd) : MemoOk Pg Stm87 := memo_ofP okP tabOk (hdW_ok hh) (orMemo_ok Sh.keysHm_ok (allMemoC_ok (l := []) trivial)) [(1227, 12)] (own_of Stown174) Strun87
end Go.Proofs.YtcglbpjpbjaecaaGreat.Ru
namespace Go.Proofs.YtcglbpjpbjaecaaGreat.Ru
open Go Go.Ab Go.RowKit
set_option maxRecDepth 100000
theorem Strun88 : (exTabM Pg FT hdW (orMemo Sh.keysHm (allMemoC [])) pu 60).ex (V × HT) Stm88.f Stm88.args ⟨Stm88.H.next, Stm88.H.next, Stm88.H.tr⟩ (pairP [(1241, 12)]) = some (Stm88.v, Stm88.H') := by kernel_rfl
theorem Stmok88 (hh : HdOk Pg hd) : MemoOk Pg Stm88 := memo_ofP okP tabOk (hdW_ok hh) (orMemo_ok Sh.keysHm_ok (allMemoC_ok (l := []) trivial)) [(1241, 12)] (own_of Stown176) Strun88
end Go.Proofs.YtcglbpjpbjaecaaGreat.Ru
namespace Go.Proofs.YtcglbpjpbjaecaaGreat.Ru
open Go Go.Ab Go.RowKit
set_option maxRecDepth 100000
theorem Strun89 : (exTabM Pg FT hdW (orMemo Sh.keysHm (allMemoC [])) pu 60).ex (V × HT) Stm89.f Stm89.args ⟨Stm89.H.next, Stm89.H.next, Stm89.H.tr⟩ (pairP [(1255, 12)]) = some (Stm89.v, Stm89.H') := by kernel_rfl
theorem Stmok89 (hh : HdOk Pg hd) : MemoOk Pg Stm89 := memo_ofP okP tabOk (hdW_ok hh) (orMemo_ok Sh.keysHm_ok (allMemoC_ok (l := []) trivial)) [(1255, 12)] (own_of Stown178) Strun89
end Go.Proofs.YtcglbpjpbjaecaaGreat.Ru
namespace Go.Proofs.YtcglbpjpbjaecaaGreat.Ru
open Go Go.Ab Go.RowKit
set_option maxRecDepth 100000
theorem Strun90 : (exTabM Pg FT hdW (orMemo Sh.keysHm (allMemoC [])) pu 60).ex (V × HT) Stm90.f Stm90.args ⟨Stm90.H.next, Stm90.H.next, Stm90.H.tr⟩ (pairP [(1269, 12)]) = some (Stm90.v, Stm90.H') := by kernel_rfl
theorem Stmok90 (hh : HdOk Pg hd) : MemoOk Pg Stm90 := memo_ofP okP tabOk (hdW_ok hh) (orMemo_ok Sh.keysHm_ok (allMemoC_ok (l := []) trivial)) [(1269, 12)] (own_of Stown180) Strun90
end Go.Proofs.YtcglbpjpbjaecaaGreat.Ru
