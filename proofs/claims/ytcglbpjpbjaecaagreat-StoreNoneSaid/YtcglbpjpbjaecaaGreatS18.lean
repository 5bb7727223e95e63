import Derived.Test.YtcglbpjpbjaecaaGreatS16
import Derived.Test.YtcglbpjpbjaecaaGreatS15
set_option linter.unusedVariables false
set_option linter.unusedSimpArgs false
namespace Go.Proofs.YtcglbpjpbjaecaaGreat.Ru
open Go Go.Ab Go.RowKit
set_option maxRecDepth 100000
theorem Strun7 : (exTabM Pg FT hdW (orMemo Sh.keysHm (allMemoC [])) pu 60).ex (V × HT) Stm7.f Stm7.args ⟨Stm7.H.next, Stm7.H.next, Stm7.H.tr⟩ (pairP [(107, 12)]) = some (Stm7.v, Stm7.H') := by kernel_rfl
theorem Stmok7 (hh : HdOk Pg hd) : MemoOk Pg Stm7 := memo_ofP okP tabOk (hdW_ok hh) (orMemo_ok Sh.keysHm_ok (allMemoC_ok (l := []) trivial)) [(107, 12)] (own_of Stown14) Strun7
end Go.Proofs.YtcglbpjpbjaecaaGreat.Ru
namespace Go.Proofs.YtcglbpjpbjaecaaGreat.Ru
open Go Go.Ab Go.RowKit
set_option maxRecDepth 100000
theorem Strun8 : (exTabM Pg FT hdW (orMemo Sh.keysHm (allMemoC [])) pu 60).ex (V × HT) Stm8.f Stm8.args ⟨Stm8.H.next, Stm8.H.next, Stm8.H.tr⟩ (pairP [(121, 12)]) = some (Stm8.v, Stm8.H') := by kernel_rfl
theorem Stmok8 (hh : HdOk Pg hd) : MemoOk Pg Stm8 := memo_ofP okP tabOk (hdW_ok hh) (orMemo_ok Sh.keysHm_ok (allMemoC_ok (l := []) trivial)) [(121, 12)] (own_of Stown16) Strun8
end Go.Proofs.YtcglbpjpbjaecaaGreat.Ru
namespace Go.Proofs.YtcglbpjpbjaecaaGreat.Ru
open Go Go.Ab Go.RowKit
set_option maxRecDepth 100000
theorem Strun9 : (exTabM Pg FT hdW (orMemo Sh.keysHm (allMemoC [])) pu 60).ex (V × HT) Stm9.f Stm9.args ⟨Stm9.H.next, Stm9.H.next, Stm9.H.tr⟩ (pairP [(135, 12)]) = some (Stm9.v, Stm9.H') := by kernel_rfl
theorem Stmok9 (hh : HdOk Pg hd) : MemoOk Pg Stm9 := memo_ofP okP tabOk (hdW_ok hh) (orMemo_ok Sh.keysHm_ok (allMemoC_ok (l := []) trivial)) [(135, 12)] (own_of Stown18) Strun9
end Go.Proofs.YtcglbpjpbjaecaaGreat.Ru
namespace Go.Proofs.YtcglbpjpbjaecaaGreat.Ru
open Go Go.Ab Go.RowKit
set_option maxRecDepth 100000
theorem Strun10 : (exTabM Pg FT hdW (orMemo Sh.keysHm (allMemoC [])) pu 60).ex (V × HT) Stm10.f Stm10.args ⟨Stm10.H.next, Stm10.H.next, Stm10.H.tr⟩ (pairP [(149, 12)]) = some (Stm10.v, Stm10.H') := by kernel_rfl
theorem Stmok10 (hh : HdOk Pg hd) : MemoOk Pg Stm10 := memo_ofP okP tabOk (hdW_ok hh) (orMemo_ok Sh.keysHm_ok (allMemoC_ok (l := []) trivial)) [(149, 12)] (own_of Stown20) Strun10
end Go.Proofs.YtcglbpjpbjaecaaGreat.Ru
namespace Go.Proofs.YtcglbpjpbjaecaaGreat.Ru
open Go Go.Ab Go.RowKit
set_option maxRecDepth 100000
theorem Strun11 : (exTabM Pg FT hdW (orMemo Sh.keysHm (allMemoC [])) pu 60).ex (V × HT) Stm11.f Stm11.args ⟨Stm11.H.next, Stm11.H.next, Stm11.H.tr⟩ (pairP [(163, 12)]) = some (Stm11.v, Stm11.H') := by kernel_rfl
theorem Stmok11 (hh : HdOk Pg hd) : MemoOk Pg Stm11 := memo_ofP okP tabOk (hdW_ok hh) (orMemo_ok Sh.keysHm_ok (allMemoC_ok (l := []) trivial)) [(163, 12)] (own_of Stown22) Strun11
end Go.Proofs.YtcglbpjpbjaecaaGreat.Ru
namespace Go.Proofs.YtcglbpjpbjaecaaGreat.Ru
open Go Go.Ab Go.RowKit
set_option maxRecDepth 100000
theorem Strun12 : (exTabM Pg FT hdW (orMemo Sh.keysHm (allMemoC [])) pu 60).ex (V × HT) Stm12.f Stm12.args ⟨Stm12.H.next, Stm12.H.next, Stm12.H.tr⟩ (pairP [(177, 12)]) = some (Stm12.v, Stm12.H') := by kernel_rfl
theorem Stmok12 (hh : HdOk Pg hd) : MemoOk Pg Stm12 := memo_ofP okP tabOk (hdW_ok hh) (orMemo_ok Sh.keysHm_ok (allMemoC_ok (l := []) trivial)) [(177, 12)] (own_of Stown24) Strun12
end Go.Proofs.YtcglbpjpbjaecaaGreat.Ru
namespace Go.Proofs.YtcglbpjpbjaecaaGreat.Ru
open Go Go.Ab Go.RowKit
set_option maxRecDepth 100000
theorem Strun13 : (exTabM Pg FT hdW (orMemo Sh.keysHm (allMemoC [])) pu 60).ex (V × HT) Stm13.f Stm13.args ⟨Stm13.H.next, Stm13.H.next, Stm13.H.tr⟩ (pairP [(191, 12)]) = some (Stm13.v, Stm13.H') := by kernel_rfl
theorem Stmok13 (hh : HdOk Pg hd) : MemoOk Pg Stm13 := memo_ofP okP tabOk (hdW_ok hh) (orMemo_ok Sh.keysHm_ok (allMemoC_ok (l := []) trivial)) [(191, 12)] (own_of Stown26) Strun13
end Go.Proofs.YtcglbpjpbjaecaaGreat.Ru
