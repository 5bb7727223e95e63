import Derived.Test.YtcglbpjpbjaecaaGreatS16
import Derived.Test.YtcglbpjpbjaecaaGreatS15
import Derived.Test.YtcglbpjpbjaecaaGreatS43
set_option linter.unusedVariables false
set_option linter.unusedSimpArgs false
namespace Go.Proofs.YtcglbpjpbjaecaaGreat.Ru
open Go Go.Ab Go.RowKit
set_option maxRecDepth 100000
theorem Strun189 : (exTabM Pg FT hdW (orMemo Sh.keysHm (allMemoC [Stm188])) pu 60).ex (V × HT) Stm189.f Stm189.args ⟨Stm189.H.next, Stm189.H.next, Stm189.H.tr⟩ (pairP [(3075, 63), (3139, 7), (3156, 115), (3272, 77)]) = some (Stm189.v, Stm189.H') := by kernel_rfl
theorem Stmok189 (hh : HdOk Pg hd) : MemoOk Pg Stm189 := memo_ofP okP tabOk (hdW_ok hh) (orMemo_ok Sh.keysHm_ok (allMemoC_ok (l := [Stm188]) ⟨Stmok188 hh, trivial⟩)) [(3075, 63), (3139, 7), (3156, 115), (3272, 77)] (own_of Stown344) Strun189
end Go.Proofs.YtcglbpjpbjaecaaGreat.Ru
namespace Go.Proofs.YtcglbpjpbjaecaaGreat.Ru
open Go Go.Ab Go.RowKit
set_option maxRecDepth 100000
theorem Strun190 : (exTabM Pg FT hdW (orMemo Sh.keysHm (allMemoC [])) pu 60).ex (V × HT) Stm190.f Stm190.args ⟨Stm190.H.next, Stm190.H.next, Stm190.H.tr⟩ (pairP [(3357, 1)]) = some (Stm190.v, Stm190.H') := by kernel_rfl
theorem Stmok190 (hh : HdOk Pg hd) : MemoOk Pg Stm190 := memo_ofP okP tabOk (hdW_ok hh) (orMemo_ok Sh.keysHm_ok (allMemoC_ok (l := []) trivial)) [(3357, 1)] (own_of Stown371) Strun190
end Go.Proofs.YtcglbpjpbjaecaaGreat.Ru
namespace Go.Proofs.YtcglbpjpbjaecaaGreat.Ru
open Go Go.Ab Go.RowKit
set_option maxRecDepth 100000
theorem Strun191 : (exTabM Pg FT hdW (orMemo Sh.keysHm (allMemoC [])) pu 60).ex (V × HT) Stm191.f Stm191.args ⟨Stm191.H.next, Stm191.H.next, Stm191.H.tr⟩ (pairP [(3359, 3), (3364, 2)]) = some (Stm191.v, Stm191.H') := by kernel_rfl
theorem Stmok191 (hh : HdOk Pg hd) : MemoOk Pg Stm191 := memo_ofP okP tabOk (hdW_ok hh) (orMemo_ok Sh.keysHm_ok (allMemoC_ok (l := []) trivial)) [(3359, 3), (3364, 2)] (own_of Stown372) Strun191
end Go.Proofs.YtcglbpjpbjaecaaGreat.Ru
namespace Go.Proofs.YtcglbpjpbjaecaaGreat.Ru
open Go Go.Ab Go.RowKit
set_option maxRecDepth 100000
theorem Strun192 : (exTabM Pg FT hdW (orMemo Sh.keysHm (allMemoC [])) pu 60).ex (V × HT) Stm192.f Stm192.args ⟨Stm192.H.next, Stm192.H.next, Stm192.H.tr⟩ (pairP [(3370, 1)]) = some (Stm192.v, Stm192.H') := by kernel_rfl
theorem Stmok192 (hh : HdOk Pg hd) : MemoOk Pg Stm192 := memo_ofP okP tabOk (hdW_ok hh) (orMemo_ok Sh.keysHm_ok (allMemoC_ok (l := []) trivial)) [(3370, 1)] (own_of Stown374) Strun192
end Go.Proofs.YtcglbpjpbjaecaaGreat.Ru
namespace Go.Proofs.YtcglbpjpbjaecaaGreat.Ru
open Go Go.Ab Go.RowKit
set_option maxRecDepth 100000
theorem Strun193 : (exTabM Pg FT hdW (orMemo Sh.keysHm (allMemoC [])) pu 60).ex (V × HT) Stm193.f Stm193.args ⟨Stm193.H.next, Stm193.H.next, Stm193.H.tr⟩ (pairP [(3379, 9)]) = some (Stm193.v, Stm193.H') := by kernel_rfl
theorem Stmok193 (hh : HdOk Pg hd) : MemoOk Pg Stm193 := memo_ofP okP tabOk (hdW_ok hh) (orMemo_ok Sh.keysHm_ok (allMemoC_ok (l := []) trivial)) [(3379, 9)] (own_of Stown376) Strun193
end Go.Proofs.YtcglbpjpbjaecaaGreat.Ru
namespace Go.Proofs.YtcglbpjpbjaecaaGreat.Ru
open Go Go.Ab Go.RowKit
set_option maxRecDepth 100000
theorem Strun194 : (exTabM Pg FT hdW (orMemo Sh.keysHm (allMemoC [Stm193])) pu 60).ex (V × HT) Stm194.f Stm194.args ⟨Stm194.H.next, Stm194.H.next, Stm194.H.tr⟩ (pairP [(3372, 22)]) = some (Stm194.v, Stm194.H') := by kernel_rfl
theorem Stmok194 (hh : HdOk Pg hd) : MemoOk Pg Stm194 := memo_ofP okP tabOk (hdW_ok hh) (orMemo_ok Sh.keysHm_ok (allMemoC_ok (l := [Stm193]) ⟨Stmok193 hh, trivial⟩)) [(3372, 22)] (own_of Stown375) Strun194
end Go.Proofs.YtcglbpjpbjaecaaGreat.Ru
namespace Go.Proofs.YtcglbpjpbjaecaaGreat.Ru
open Go Go.Ab Go.RowKit
set_option maxRecDepth 100000
theorem Strun195 : (exTabM Pg FT hdW (orMemo Sh.keysHm (allMemoC [])) pu 60).ex (V × HT) Stm195.f Stm195.args ⟨Stm195.H.next, Stm195.H.next, Stm195.H.tr⟩ (pairP [(3398, 1)]) = some (Stm195.v, Stm195.H') := by kernel_rfl
theorem Stmok195 (hh : HdOk Pg hd) : MemoOk Pg Stm195 := memo_ofP okP tabOk (hdW_ok hh) (orMemo_ok Sh.keysHm_ok (allMemoC_ok (l := []) trivial)) [(3398, 1)] (own_of Stown379) Strun195
end Go.Proofs.YtcglbpjpbjaecaaGreat.Ru
