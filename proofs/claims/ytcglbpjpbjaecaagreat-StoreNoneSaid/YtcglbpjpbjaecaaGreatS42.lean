import Derived.Test.YtcglbpjpbjaecaaGreatS16
import Derived.Test.YtcglbpjpbjaecaaGreatS15
import Derived.Test.YtcglbpjpbjaecaaGreatS41
set_option linter.unusedVariables false
set_option linter.unusedSimpArgs false
namespace Go.Proofs.YtcglbpjpbjaecaaGreat.Ru
open Go Go.Ab Go.RowKit
set_option maxRecDepth 100000
theorem Strun175 : (exTabM Pg FT hdW (orMemo Sh.keysHm (allMemoC [Stm174])) pu 60).ex (V × HT) Stm175.f Stm175.args ⟨Stm175.H.next, Stm175.H.next, Stm175.H.tr⟩ (pairP [(3075, 34)]) = some (Stm175.v, Stm175.H') := by kernel_rfl
theorem Stmok175 (hh : HdOk Pg hd) : MemoOk Pg Stm175 := memo_ofP okP tabOk (hdW_ok hh) (orMemo_ok Sh.keysHm_ok (allMemoC_ok (l := [Stm174]) ⟨Stmok174 hh, trivial⟩)) [(3075, 34)] (own_of Stown345) Strun175
end Go.Proofs.YtcglbpjpbjaecaaGreat.Ru
namespace Go.Proofs.YtcglbpjpbjaecaaGreat.Ru
open Go Go.Ab Go.RowKit
set_option maxRecDepth 100000
theorem Strun176 : (exTabM Pg FT hdW (orMemo Sh.keysHm (allMemoC [])) pu 60).ex (V × HT) Stm176.f Stm176.args ⟨Stm176.H.next, Stm176.H.next, Stm176.H.tr⟩ (pairP [(3121, 12)]) = some (Stm176.v, Stm176.H') := by kernel_rfl
theorem Stmok176 (hh : HdOk Pg hd) : MemoOk Pg Stm176 := memo_ofP okP tabOk (hdW_ok hh) (orMemo_ok Sh.keysHm_ok (allMemoC_ok (l := []) trivial)) [(3121, 12)] (own_of Stown347) Strun176
end Go.Proofs.YtcglbpjpbjaecaaGreat.Ru
namespace Go.Proofs.YtcglbpjpbjaecaaGreat.Ru
open Go Go.Ab Go.RowKit
set_option maxRecDepth 100000
theorem Strun177 : (exTabM Pg FT hdW (orMemo Sh.keysHm (allMemoC [])) pu 60).ex (V × HT) Stm177.f Stm177.args ⟨Stm177.H.next, Stm177.H.next, Stm177.H.tr⟩ (pairP [(3134, 4)]) = some (Stm177.v, Stm177.H') := by kernel_rfl
theorem Stmok177 (hh : HdOk Pg hd) : MemoOk Pg Stm177 := memo_ofP okP tabOk (hdW_ok hh) (orMemo_ok Sh.keysHm_ok (allMemoC_ok (l := []) trivial)) [(3134, 4)] (own_of Stown348) Strun177
end Go.Proofs.YtcglbpjpbjaecaaGreat.Ru
namespace Go.Proofs.YtcglbpjpbjaecaaGreat.Ru
open Go Go.Ab Go.RowKit
set_option maxRecDepth 100000
theorem Strun178 : (exTabM Pg FT hdW (orMemo Sh.keysHm (allMemoC [Stm176, Stm177])) pu 60).ex (V × HT) Stm178.f Stm178.args ⟨Stm178.H.next, Stm178.H.next, Stm178.H.tr⟩ (pairP [(3113, 25)]) = some (Stm178.v, Stm178.H') := by kernel_rfl
theorem Stmok178 (hh : HdOk Pg hd) : MemoOk Pg Stm178 := memo_ofP okP tabOk (hdW_ok hh) (orMemo_ok Sh.keysHm_ok (allMemoC_ok (l := [Stm176, Stm177]) ⟨Stmok176 hh, Stmok177 hh, trivial⟩)) [(3113, 25)] (own_of Stown350) Strun178
end Go.Proofs.YtcglbpjpbjaecaaGreat.Ru
namespace Go.Proofs.YtcglbpjpbjaecaaGreat.Ru
open Go Go.Ab Go.RowKit
set_option maxRecDepth 100000
theorem Strun179 : (exTabM Pg FT hdW (orMemo Sh.keysHm (allMemoC [])) pu 60).ex (V × HT) Stm179.f Stm179.args ⟨Stm179.H.next, Stm179.H.next, Stm179.H.tr⟩ (pairP [(3140, 5)]) = some (Stm179.v, Stm179.H') := by kernel_rfl
theorem Stmok179 (hh : HdOk Pg hd) : MemoOk Pg Stm179 := memo_ofP okP tabOk (hdW_ok hh) (orMemo_ok Sh.keysHm_ok (allMemoC_ok (l := []) trivial)) [(3140, 5)] (own_of Stown352) Strun179
end Go.Proofs.YtcglbpjpbjaecaaGreat.Ru
namespace Go.Proofs.YtcglbpjpbjaecaaGreat.Ru
open Go Go.Ab Go.RowKit
set_option maxRecDepth 100000
theorem Strun180 : (exTabM Pg FT hdW (orMemo Sh.keysHm (allMemoC [])) pu 60).ex (V × HT) Stm180.f Stm180.args ⟨Stm180.H.next, Stm180.H.next, Stm180.H.tr⟩ (pairP [(3260, 11), (3272, 4)]) = some (Stm180.v, Stm180.H') := by kernel_rfl
theorem Stmok180 (hh : HdOk Pg hd) : MemoOk Pg Stm180 := memo_ofP okP tabOk (hdW_ok hh) (orMemo_ok Sh.keysHm_ok (allMemoC_ok (l := []) trivial)) [(3260, 11), (3272, 4)] (own_of Stown354) Strun180
end Go.Proofs.YtcglbpjpbjaecaaGreat.Ru
namespace Go.Proofs.YtcglbpjpbjaecaaGreat.Ru
open Go Go.Ab Go.RowKit
set_option maxRecDepth 100000
theorem Strun181 : (exTabM Pg FT hdW (orMemo Sh.keysHm (allMemoC [])) pu 60).ex (V × HT) Stm181.f Stm181.args ⟨Stm181.H.next, Stm181.H.next, Stm181.H.tr⟩ (pairP [(3277, 14)]) = some (Stm181.v, Stm181.H') := by kernel_rfl
theorem Stmok181 (hh : HdOk Pg hd) : MemoOk Pg Stm181 := memo_ofP okP tabOk (hdW_ok hh) (orMemo_ok Sh.keysHm_ok (allMemoC_ok (l := []) trivial)) [(3277, 14)] (own_of Stown356) Strun181
end Go.Proofs.YtcglbpjpbjaecaaGreat.Ru
