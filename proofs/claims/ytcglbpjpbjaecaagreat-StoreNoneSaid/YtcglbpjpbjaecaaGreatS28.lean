import Derived.Test.YtcglbpjpbjaecaaGreatS16
import Derived.Test.YtcglbpjpbjaecaaGreatS15
set_option linter.unusedVariables false
set_option linter.unusedSimpArgs false
namespace Go.Proofs.YtcglbpjpbjaecaaGreat.Ru
open Go Go.Ab Go.RowKit
set_option maxRecDepth 100000
theorem Strun77 : (exTabM Pg FT hdW (orMemo Sh.keysHm (allMemoC [])) pu 60).ex (V × HT) Stm77.f Stm77.args ⟨Stm77.H.next, Stm77.H.next, Stm77.H.tr⟩ (pairP [(1087, 12)]) = some (Stm77.v, Stm77.H') := by kernel_rfl
theorem Stmok77 (hh : HdOk Pg hd) : MemoOk Pg Stm77 := memo_ofP okP tabOk (hdW_ok hh) (orMemo_ok Sh.keysHm_ok (allMemoC_ok (l := []) trivial)) [(1087, 12)] (own_of Stown154) Strun77
end Go.Proofs.YtcglbpjpbjaecaaGreat.Ru
namespace Go.Proofs.YtcglbpjpbjaecaaGreat.Ru
open Go Go.Ab Go.RowKit
set_option maxRecDepth 100000
theorem Strun78 : (exTabM Pg FT hdW (orMemo Sh.keysHm (allMemoC [])) pu 60).ex (V × HT) Stm78.f Stm78.args ⟨Stm78.H.next, Stm78.H.next, Stm78.H.tr⟩ (pairP [(1101, 12)]) = some (Stm78.v, Stm78.H') := by kernel_rfl
theorem Stmok78 (hh : HdOk Pg hd) : MemoOk Pg Stm78 := memo_ofP okP tabOk (hdW_ok hh) (orMemo_ok Sh.keysHm_ok (allMemoC_ok (l := []) trivial)) [(1101, 12)] (own_of Stown156) Strun78
end Go.Proofs.YtcglbpjpbjaecaaGreat.Ru
namespace Go.Proofs.YtcglbpjpbjaecaaGreat.Ru
open Go Go.Ab Go.RowKit
set_option maxRecDepth 100000
theorem Strun79 : (exTabM Pg FT hdW (orMemo Sh.keysHm (allMemoC [])) pu 60).ex (V × HT) Stm79.f Stm79.args ⟨Stm79.H.next, Stm79.H.next, Stm79.H.tr⟩ (pairP [(1115, 12)]) = some (Stm79.v, Stm79.H') := by kernel_rfl
theorem Stmok79 (hh : HdOk Pg hd) : MemoOk Pg Stm79 := memo_ofP okP tabOk (hdW_ok hh) (orMemo_ok Sh.keysHm_ok (allMemoC_ok (l := []) trivial)) [(1115, 12)] (own_of Stown158) Strun79
end Go.Proofs.YtcglbpjpbjaecaaGreat.Ru
namespace Go.Proofs.YtcglbpjpbjaecaaGreat.Ru
open Go Go.Ab Go.RowKit
set_option maxRecDepth 100000
theorem Strun80 : (exTabM Pg FT hdW (orMemo Sh.keysHm (allMemoC [])) pu 60).ex (V × HT) Stm80.f Stm80.args ⟨Stm80.H.next, Stm80.H.next, Stm80.H.tr⟩ (pairP [(1129, 12)]) = some (Stm80.v, Stm80.H') := by kernel_rfl
theorem Stmok80 (hh : HdOk Pg hd) : MemoOk Pg Stm80 := memo_ofP okP tabOk (hdW_ok hh) (orMemo_ok Sh.keysHm_ok (allMemoC_ok (l := []) trivial)) [(1129, 12)] (own_of Stown160) Strun80
end Go.Proofs.YtcglbpjpbjaecaaGreat.Ru
namespace Go.Proofs.YtcglbpjpbjaecaaGreat.Ru
open Go Go.Ab Go.RowKit
set_option maxRecDepth 100000
theorem Strun81 : (exTabM Pg FT hdW (orMemo Sh.keysHm (allMemoC [])) pu 60).ex (V × HT) Stm81.f Stm81.args ⟨Stm81.H.next, Stm81.H.next, Stm81.H.tr⟩ (pairP [(1143, 12)]) = some (Stm81.v, Stm81.H') := by kernel_rfl
theorem Stmok81 (hh : HdOk Pg hd) : MemoOk Pg Stm81 := memo_ofP okP tabOk (hdW_ok hh) (orMemo_ok Sh.keysHm_ok (allMemoC_ok (l := []) trivial)) [(1143, 12)] (own_of Stown162) Strun81
end Go.Proofs.YtcglbpjpbjaecaaGreat.Ru
namespace Go.Proofs.YtcglbpjpbjaecaaGreat.Ru
open Go Go.Ab Go.RowKit
set_option maxRecDepth 100000
theorem Strun82 : (exTabM Pg FT hdW (orMemo Sh.keysHm (allMemoC [])) pu 60).ex (V × HT) Stm82.f Stm82.args ⟨Stm82.H.next, Stm82.H.next, Stm82.H.tr⟩ (pairP [(1157, 12)]) = some (Stm82.v, Stm82.H') := by kernel_rfl
theorem Stmok82 (hh : HdOk Pg hd) : MemoOk Pg Stm82 := memo_ofP okP tabOk (hdW_ok hh) (orMemo_ok Sh.keysHm_ok (allMemoC_ok (l := []) trivial)) [(1157, 12)] (own_of Stown164) Strun82
end Go.Proofs.YtcglbpjpbjaecaaGreat.Ru
namespace Go.Proofs.YtcglbpjpbjaecaaGreat.Ru
open Go Go.Ab Go.RowKit
set_option maxRecDepth 100000
theorem Strun83 : (exTabM Pg FT hdW (orMemo Sh.keysHm (allMemoC [])) pu 60).ex (V × HT) Stm83.f Stm83.args ⟨Stm83.H.next, Stm83.H.next, Stm83.H.tr⟩ (pairP [(1171, 12)]) = some (Stm83.v, Stm83.H') := by kernel_rfl
theorem Stmok83 (hh : HdOk Pg hd) : MemoOk Pg Stm83 := memo_ofP okP tabOk (hdW_ok hh) (orMemo_ok Sh.keysHm_ok (allMemoC_ok (l := []) trivial)) [(1171, 12)] (own_of Stown166) Strun83
end Go.Proofs.YtcglbpjpbjaecaaGreat.Ru
