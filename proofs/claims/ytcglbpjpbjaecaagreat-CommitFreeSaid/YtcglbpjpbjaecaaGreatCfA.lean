import Derived.Test.YtcglbpjpbjaecaaGreatCf
import Derived.Test.YtcglbpjpbjaecaaGreatFH
set_option linter.unusedVariables false
set_option linter.unusedSimpArgs false
namespace Go.Proofs.YtcglbpjpbjaecaaGreat.Ru
open Go Go.Ab Go.RowKit
set_option maxRecDepth 100000
set_option linter.unusedVariables false
theorem Cfrun0 (k m : Nat) (r : V) : (exTabM Pg FT Sh.hd2 noMemo pu 60).ex (V × HT) (Cfm0 k m r).f (Cfm0 k m r).args ⟨(Cfm0 k m r).H.next, (Cfm0 k m r).H.next, (Cfm0 k m r).H.tr⟩ pairK = some ((Cfm0 k m r).v, (Cfm0 k m r).H') := by kernel_rfl
theorem Cfmok0 (hh : HdOk Pg hd) (k m : Nat) (r : V) : MemoOk Pg (Cfm0 k m r) := memo_of okP tabOk (Sh.hd2_ok hh) noMemo_ok (own_of (Cfown0 k m r)) (Cfrun0 k m r)
end Go.Proofs.YtcglbpjpbjaecaaGreat.Ru
namespace Go.Proofs.YtcglbpjpbjaecaaGreat.Ru
open Go Go.Ab Go.RowKit
set_option maxRecDepth 100000
set_option linter.unusedVariables false
theorem Cfrun1 (k m : Nat) (r : V) : (exTabM Pg FT Sh.hd2 noMemo pu 60).ex (V × HT) (Cfm1 k m r).f (Cfm1 k m r).args ⟨(Cfm1 k m r).H.next, (Cfm1 k m r).H.next, (Cfm1 k m r).H.tr⟩ pairK = some ((Cfm1 k m r).v, (Cfm1 k m r).H') := by kernel_rfl
theorem Cfmok1 (hh : HdOk Pg hd) (k m : Nat) (r : V) : MemoOk Pg (Cfm1 k m r) := memo_of okP tabOk (Sh.hd2_ok hh) noMemo_ok (own_of (Cfown2 k m r)) (Cfrun1 k m r)
end Go.Proofs.YtcglbpjpbjaecaaGreat.Ru
