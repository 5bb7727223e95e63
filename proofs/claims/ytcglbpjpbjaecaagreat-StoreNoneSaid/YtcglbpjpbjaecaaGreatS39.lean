import Derived.Test.YtcglbpjpbjaecaaGreatS16
import Derived.Test.YtcglbpjpbjaecaaGreatS15
set_option linter.unusedVariables false
set_option linter.unusedSimpArgs false
namespace Go.Proofs.YtcglbpjpbjaecaaGreat.Ru
open Go Go.Ab Go.RowKit
set_option maxRecDepth 100000
theorem Strun154 : (exTabM Pg FT hdW (orMemo Sh.keysHm (allMemoC [])) pu 60).ex (V × HT) Stm154.f Stm154.args ⟨Stm154.H.next, Stm154.H.next, Stm154.H.tr⟩ (pairP [(2165, 12)]) = some (Stm154.v, Stm154.H') := by kernel_rfl
theorem Stmok154 (hh : HdOk Pg hd) : MemoOk Pg Stm154 := memo_ofP okP tabOk (hdW_ok hh) (orMemo_ok Sh.keysHm_ok (allMemoC_ok (l := []) trivial)) [(2165, 12)] (own_of Stown308) Strun154
end Go.Proofs.YtcglbpjpbjaecaaGreat.Ru
namespace Go.Proofs.YtcglbpjpbjaecaaGreat.Ru
open Go Go.Ab Go.RowKit
set_option maxRecDepth 100000
theorem Strun155 : (exTabM Pg FT hdW (orMemo Sh.keysHm (allMemoC [])) pu 60).ex (V × HT) Stm155.f Stm155.args ⟨Stm155.H.next, Stm155.H.next, Stm155.H.tr⟩ (pairP [(2179, 12)]) = some (Stm155.v, Stm155.H') := by kernel_rfl
theorem Stmok155 (hh : HdOk Pg hd) : MemoOk Pg Stm155 := memo_ofP okP tabOk (hdW_ok hh) (orMemo_ok Sh.keysHm_ok (allMemoC_ok (l := []) trivial)) [(2179, 12)] (own_of Stown310) Strun155
end Go.Proofs.YtcglbpjpbjaecaaGreat.Ru
namespace Go.Proofs.YtcglbpjpbjaecaaGreat.Ru
open Go Go.Ab Go.RowKit
set_option maxRecDepth 100000
theorem Strun156 : (exTabM Pg FT hdW (orMemo Sh.keysHm (allMemoC [])) pu 60).ex (V × HT) Stm156.f Stm156.args ⟨Stm156.H.next, Stm156.H.next, Stm156.H.tr⟩ (pairP [(2193, 12)]) = some (Stm156.v, Stm156.H') := by kernel_rfl
theorem Stmok156 (hh : HdOk Pg hd) : MemoOk Pg Stm156 := memo_ofP okP tabOk (hdW_ok hh) (orMemo_ok Sh.keysHm_ok (allMemoC_ok (l := []) trivial)) [(2193, 12)] (own_of Stown312) Strun156
end Go.Proofs.YtcglbpjpbjaecaaGreat.Ru
namespace Go.Proofs.YtcglbpjpbjaecaaGreat.Ru
open Go Go.Ab Go.RowKit
set_option maxRecDepth 100000
theorem Strun157 : (exTabM Pg FT hdW (orMemo Sh.keysHm (allMemoC [])) pu 60).ex (V × HT) Stm157.f Stm157.args ⟨Stm157.H.next, Stm157.H.next, Stm157.H.tr⟩ (pairP [(2207, 12)]) = some (Stm157.v, Stm157.H') := by kernel_rfl
theorem Stmok157 (hh : HdOk Pg hd) : MemoOk Pg Stm157 := memo_ofP okP tabOk (hdW_ok hh) (orMemo_ok Sh.keysHm_ok (allMemoC_ok (l := []) trivial)) [(2207, 12)] (own_of Stown314) Strun157
end Go.Proofs.YtcglbpjpbjaecaaGreat.Ru
namespace Go.Proofs.YtcglbpjpbjaecaaGreat.Ru
open Go Go.Ab Go.RowKit
set_option maxRecDepth 100000
theorem Strun158 : (exTabM Pg FT hdW (orMemo Sh.keysHm (allMemoC [])) pu 60).ex (V × HT) Stm158.f Stm158.args ⟨Stm158.H.next, Stm158.H.next, Stm158.H.tr⟩ (pairP [(2221, 12)]) = some (Stm158.v, Stm158.H') := by kernel_rfl
theorem Stmok158 (hh : HdOk Pg hd) : MemoOk Pg Stm158 := memo_ofP okP tabOk (hdW_ok hh) (orMemo_ok Sh.keysHm_ok (allMemoC_ok (l := []) trivial)) [(2221, 12)] (own_of Stown316) Strun158
end Go.Proofs.YtcglbpjpbjaecaaGreat.Ru
namespace Go.Proofs.YtcglbpjpbjaecaaGreat.Ru
open Go Go.Ab Go.RowKit
set_option maxRecDepth 100000
theorem Strun159 : (exTabM Pg FT hdW (orMemo Sh.keysHm (allMemoC [])) pu 60).ex (V × HT) Stm159.f Stm159.args ⟨Stm159.H.next, Stm159.H.next, Stm159.H.tr⟩ (pairP [(2235, 12)]) = some (Stm159.v, Stm159.H') := by kernel_rfl
theorem Stmok159 (hh : HdOk Pg hd) : MemoOk Pg Stm159 := memo_ofP okP tabOk (hdW_ok hh) (orMemo_ok Sh.keysHm_ok (allMemoC_ok (l := []) trivial)) [(2235, 12)] (own_of Stown318) Strun159
end Go.Proofs.YtcglbpjpbjaecaaGreat.Ru
namespace Go.Proofs.YtcglbpjpbjaecaaGreat.Ru
open Go Go.Ab Go.RowKit
set_option maxRecDepth 100000
theorem Strun160 : (exTabM Pg FT hdW (orMemo Sh.keysHm (allMemoC [])) pu 60).ex (V × HT) Stm160.f Stm160.args ⟨Stm160.H.next, Stm160.H.next, Stm160.H.tr⟩ (pairP [(2249, 12)]) = some (Stm160.v, Stm160.H') := by kernel_rfl
theorem Stmok160 (hh : HdOk Pg hd) : MemoOk Pg Stm160 := memo_ofP okP tabOk (hdW_ok hh) (orMemo_ok Sh.keysHm_ok (allMemoC_ok (l := []) trivial)) [(2249, 12)] (own_of Stown320) Strun160
end Go.Proofs.YtcglbpjpbjaecaaGreat.Ru
