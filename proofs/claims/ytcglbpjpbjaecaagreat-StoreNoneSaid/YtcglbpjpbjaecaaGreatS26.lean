import Derived.Test.YtcglbpjpbjaecaaGreatS16
import Derived.Test.YtcglbpjpbjaecaaGreatS15
set_option linter.unusedVariables false
set_option linter.unusedSimpArgs false
namespace Go.Proofs.YtcglbpjpbjaecaaGreat.Ru
open Go Go.Ab Go.RowKit
set_option maxRecDepth 100000
theorem Strun63 : (exTabM Pg FT hdW (orMemo Sh.keysHm (allMemoC [])) pu 60).ex (V × HT) Stm63.f Stm63.args ⟨Stm63.H.next, Stm63.H.next, Stm63.H.tr⟩ (pairP [(891, 12)]) = some (Stm63.v, Stm63.H') := by kernel_rfl
theorem Stmok63 (hh : HdOk Pg hd) : MemoOk Pg Stm63 := memo_ofP okP tabOk (hdW_ok hh) (orMemo_ok Sh.keysHm_ok (allMemoC_ok (l := []) trivial)) [(891, 12)] (own_of Stown126) Strun63
end Go.Proofs.YtcglbpjpbjaecaaGreat.Ru
namespace Go.Proofs.YtcglbpjpbjaecaaGreat.Ru
open Go Go.Ab Go.RowKit
set_option maxRecDepth 100000
theorem Strun64 : (exTabM Pg FT hdW (orMemo Sh.keysHm (allMemoC [])) pu 60).ex (V × HT) Stm64.f Stm64.args ⟨Stm64.H.next, Stm64.H.next, Stm64.H.tr⟩ (pairP [(905, 12)]) = some (Stm64.v, Stm64.H') := by kernel_rfl
theorem Stmok64 (hh : HdOk Pg hd) : MemoOk Pg Stm64 := memo_ofP okP tabOk (hdW_ok hh) (orMemo_ok Sh.keysHm_ok (allMemoC_ok (l := []) trivial)) [(905, 12)] (own_of Stown128) Strun64
end Go.Proofs.YtcglbpjpbjaecaaGreat.Ru
namespace Go.Proofs.YtcglbpjpbjaecaaGreat.Ru
open Go Go.Ab Go.RowKit
set_option maxRecDepth 100000
theorem Strun65 : (exTabM Pg FT hdW (orMemo Sh.keysHm (allMemoC [])) pu 60).ex (V × HT) Stm65.f Stm65.args ⟨Stm65.H.next, Stm65.H.next, Stm65.H.tr⟩ (pairP [(919, 12)]) = some (Stm65.v, Stm65.H') := by kernel_rfl
theorem Stmok65 (hh : HdOk Pg hd) : MemoOk Pg Stm65 := memo_ofP okP tabOk (hdW_ok hh) (orMemo_ok Sh.keysHm_ok (allMemoC_ok (l := []) trivial)) [(919, 12)] (own_of Stown130) Strun65
end Go.Proofs.YtcglbpjpbjaecaaGreat.Ru
namespace Go.Proofs.YtcglbpjpbjaecaaGreat.Ru
open Go Go.Ab Go.RowKit
set_option maxRecDepth 100000
theorem Strun66 : (exTabM Pg FT hdW (orMemo Sh.keysHm (allMemoC [])) pu 60).ex (V × HT) Stm66.f Stm66.args ⟨Stm66.H.next, Stm66.H.next, Stm66.H.tr⟩ (pairP [(933, 12)]) = some (Stm66.v, Stm66.H') := by kernel_rfl
theorem Stmok66 (hh : HdOk Pg hd) : MemoOk Pg Stm66 := memo_ofP okP tabOk (hdW_ok hh) (orMemo_ok Sh.keysHm_ok (allMemoC_ok (l := []) trivial)) [(933, 12)] (own_of Stown132) Strun66
end Go.Proofs.YtcglbpjpbjaecaaGreat.Ru
namespace Go.Proofs.YtcglbpjpbjaecaaGreat.Ru
open Go Go.Ab Go.RowKit
set_option maxRecDepth 100000
theorem Strun67 : (exTabM Pg FT hdW (orMemo Sh.keysHm (allMemoC [])) pu 60).ex (V × HT) Stm67.f Stm67.args ⟨Stm67.H.next, Stm67.H.next, Stm67.H.tr⟩ (pairP [(947, 12)]) = some (Stm67.v, Stm67.H') := by kernel_rfl
theorem Stmok67 (hh : HdOk Pg hd) : MemoOk Pg Stm67 := memo_ofP okP tabOk (hdW_ok hh) (orMemo_ok Sh.keysHm_ok (allMemoC_ok (l := []) trivial)) [(947, 12)] (own_of Stown134) Strun67
end Go.Proofs.YtcglbpjpbjaecaaGreat.Ru
namespace Go.Proofs.YtcglbpjpbjaecaaGreat.Ru
open Go Go.Ab Go.RowKit
set_option maxRecDepth 100000
theorem Strun68 : (exTabM Pg FT hdW (orMemo Sh.keysHm (allMemoC [])) pu 60).ex (V × HT) Stm68.f Stm68.args ⟨Stm68.H.next, Stm68.H.next, Stm68.H.tr⟩ (pairP [(961, 12)]) = some (Stm68.v, Stm68.H') := by kernel_rfl
theorem Stmok68 (hh : HdOk Pg hd) : MemoOk Pg Stm68 := memo_ofP okP tabOk (hdW_ok hh) (orMemo_ok Sh.keysHm_ok (allMemoC_ok (l := []) trivial)) [(961, 12)] (own_of Stown136) Strun68
end Go.Proofs.YtcglbpjpbjaecaaGreat.Ru
namespace Go.Proofs.YtcglbpjpbjaecaaGreat.Ru
open Go Go.Ab Go.RowKit
set_option maxRecDepth 100000
theorem Strun69 : (exTabM Pg FT hdW (orMemo Sh.keysHm (allMemoC [])) pu 60).ex (V × HT) Stm69.f Stm69.args ⟨Stm69.H.next, Stm69.H.next, Stm69.H.tr⟩ (pairP [(975, 12)]) = some (Stm69.v, Stm69.H') := by kernel_rfl
theorem Stmok69 (hh : HdOk Pg hd) : MemoOk Pg Stm69 := memo_ofP okP tabOk (hdW_ok hh) (orMemo_ok Sh.keysHm_ok (allMemoC_ok (l := []) trivial)) [(975, 12)] (own_of Stown138) Strun69
end Go.Proofs.YtcglbpjpbjaecaaGreat.Ru
