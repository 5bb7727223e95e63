import Derived.Test.YtcglbpjpbjaecaaGreatCf
import Derived.Test.YtcglbpjpbjaecaaGreatFH
set_option linter.unusedVariables false
set_option linter.unusedSimpArgs false
namespace Go.Proofs.YtcglbpjpbjaecaaGreat.Ru
open Go Go.Ab Go.RowKit
set_option maxRecDepth 100000
set_option linter.unusedVariables false
theorem Cfrun7 (k m : Nat) (r : V) : (exTabM Pg FT Sh.hd2 noMemo pu 60).ex (V × HT) (Cfm7 k m r).f (Cfm7 k m r).args ⟨(Cfm7 k m r).H.next, (Cfm7 k m r).H.next, (Cfm7 k m r).H.tr⟩ pairK = some ((Cfm7 k m r).v, (Cfm7 k m r).H') := by kernel_rfl
theorem Cfmok7 (hh : HdOk Pg hd) (k m : Nat) (r : V) : MemoOk Pg (Cfm7 k m r) := memo_of okP tabOk (Sh.hd2_ok hh) noMemo_ok (own_of (Cfown9 k m r)) (Cfrun7 k m r)
end Go.Proofs.YtcglbpjpbjaecaaGreat.Ru
