import Derived.Test.YtcglbpjpbjaecaaGreatS16
import Derived.Test.YtcglbpjpbjaecaaGreatS15
import Derived.Test.YtcglbpjpbjaecaaGreatS42
set_option linter.unusedVariables false
set_option linter.unusedSimpArgs false
namespace Go.Proofs.YtcglbpjpbjaecaaGreat.Ru
open Go Go.Ab Go.RowKit
set_option maxRecDepth 100000
theorem Strun182 : (exTabM Pg FT hdW (orMemo Sh.keysHm (allMemoC [])) pu 60).ex (V × HT) Stm182.f Stm182.args ⟨Stm182.H.next, Stm182.H.next, Stm182.H.tr⟩ (pairP [(3292, 14)]) = some (Stm182.v, Stm182.H') := by kernel_rfl
theorem Stmok182 (hh : HdOk Pg hd) : MemoOk Pg Stm182 := memo_ofP okP tabOk (hdW_ok hh) (orMemo_ok Sh.keysHm_ok (allMemoC_ok (l := []) trivial)) [(3292, 14)] (own_of Stown358) Strun182
end Go.Proofs.YtcglbpjpbjaecaaGreat.Ru
namespace Go.Proofs.YtcglbpjpbjaecaaGreat.Ru
open Go Go.Ab Go.RowKit
set_option maxRecDepth 100000
theorem Strun183 : (exTabM Pg FT hdW (orMemo Sh.keysHm (allMemoC [Stm180, Stm181, Stm182])) pu 60).ex (V × HT) Stm183.f Stm183.args ⟨Stm183.H.next, Stm183.H.next, Stm183.H.tr⟩ (pairP [(3156, 115), (3272, 35)]) = some (Stm183.v, Stm183.H') := by kernel_rfl
theorem Stmok183 (hh : HdOk Pg hd) : MemoOk Pg Stm183 := memo_ofP okP tabOk (hdW_ok hh) (orMemo_ok Sh.keysHm_ok (allMemoC_ok (l := [Stm180, Stm181, Stm182]) ⟨Stmok180 hh, Stmok181 hh, Stmok182 hh, trivial⟩)) [(3156, 115), (3272, 35)] (own_of Stown360) Strun183
end Go.Proofs.YtcglbpjpbjaecaaGreat.Ru
namespace Go.Proofs.YtcglbpjpbjaecaaGreat.Ru
open Go Go.Ab Go.RowKit
set_option maxRecDepth 100000
theorem Strun184 : (exTabM Pg FT hdW (orMemo Sh.keysHm (allMemoC [])) pu 60).ex (V × HT) Stm184.f Stm184.args ⟨Stm184.H.next, Stm184.H.next, Stm184.H.tr⟩ (pairP [(3330, 12)]) = some (Stm184.v, Stm184.H') := by kernel_rfl
theorem Stmok184 (hh : HdOk Pg hd) : MemoOk Pg Stm184 := memo_ofP okP tabOk (hdW_ok hh) (orMemo_ok Sh.keysHm_ok (allMemoC_ok (l := []) trivial)) [(3330, 12)] (own_of Stown362) Strun184
end Go.Proofs.YtcglbpjpbjaecaaGreat.Ru
namespace Go.Proofs.YtcglbpjpbjaecaaGreat.Ru
open Go Go.Ab Go.RowKit
set_option maxRecDepth 100000
theorem Strun185 : (exTabM Pg FT hdW (orMemo Sh.keysHm (allMemoC [])) pu 60).ex (V × HT) Stm185.f Stm185.args ⟨Stm185.H.next, Stm185.H.next, Stm185.H.tr⟩ (pairP [(3343, 4)]) = some (Stm185.v, Stm185.H') := by kernel_rfl
theorem Stmok185 (hh : HdOk Pg hd) : MemoOk Pg Stm185 := memo_ofP okP tabOk (hdW_ok hh) (orMemo_ok Sh.keysHm_ok (allMemoC_ok (l := []) trivial)) [(3343, 4)] (own_of Stown363) Strun185
end Go.Proofs.YtcglbpjpbjaecaaGreat.Ru
namespace Go.Proofs.YtcglbpjpbjaecaaGreat.Ru
open Go Go.Ab Go.RowKit
set_option maxRecDepth 100000
theorem Strun186 : (exTabM Pg FT hdW (orMemo Sh.keysHm (allMemoC [Stm184, Stm185])) pu 60).ex (V × HT) Stm186.f Stm186.args ⟨Stm186.H.next, Stm186.H.next, Stm186.H.tr⟩ (pairP [(3322, 25)]) = some (Stm186.v, Stm186.H') := by kernel_rfl
theorem Stmok186 (hh : HdOk Pg hd) : MemoOk Pg Stm186 := memo_ofP okP tabOk (hdW_ok hh) (orMemo_ok Sh.keysHm_ok (allMemoC_ok (l := [Stm184, Stm185]) ⟨Stmok184 hh, Stmok185 hh, trivial⟩)) [(3322, 25)] (own_of Stown365) Strun186
end Go.Proofs.YtcglbpjpbjaecaaGreat.Ru
namespace Go.Proofs.YtcglbpjpbjaecaaGreat.Ru
open Go Go.Ab Go.RowKit
set_option maxRecDepth 100000
theorem Strun187 : (exTabM Pg FT hdW (orMemo Sh.keysHm (allMemoC [Stm186])) pu 60).ex (V × HT) Stm187.f Stm187.args ⟨Stm187.H.next, Stm187.H.next, Stm187.H.tr⟩ (pairP [(3314, 33)]) = some (Stm187.v, Stm187.H') := by kernel_rfl
theorem Stmok187 (hh : HdOk Pg hd) : MemoOk Pg Stm187 := memo_ofP okP tabOk (hdW_ok hh) (orMemo_ok Sh.keysHm_ok (allMemoC_ok (l := [Stm186]) ⟨Stmok186 hh, trivial⟩)) [(3314, 33)] (own_of Stown367) Strun187
end Go.Proofs.YtcglbpjpbjaecaaGreat.Ru
namespace Go.Proofs.YtcglbpjpbjaecaaGreat.Ru
open Go Go.Ab Go.RowKit
set_option maxRecDepth 100000
theorem Strun188 : (exTabM Pg FT hdW (orMemo Sh.keysHm (allMemoC [Stm175, Stm178, Stm179, Stm183, Stm187])) pu 60).ex (V × HT) Stm188.f Stm188.args ⟨Stm188.H.next, Stm188.H.next, Stm188.H.tr⟩ (pairP [(3075, 63), (3139, 7), (3156, 115), (3272, 75)]) = some (Stm188.v, Stm188.H') := by kernel_rfl
theorem Stmok188 (hh : HdOk Pg hd) : MemoOk Pg Stm188 := memo_ofP okP tabOk (hdW_ok hh) (orMemo_ok Sh.keysHm_ok (allMemoC_ok (l := [Stm175, Stm178, Stm179, Stm183, Stm187]) ⟨Stmok175 hh, Stmok178 hh, Stmok179 hh, Stmok183 hh, Stmok187 hh, trivial⟩)) [(3075, 63), (3139, 7), (3156, 115), (3272, 75)] (own_of Stown344) Strun188
end Go.Proofs.YtcglbpjpbjaecaaGreat.Ru
