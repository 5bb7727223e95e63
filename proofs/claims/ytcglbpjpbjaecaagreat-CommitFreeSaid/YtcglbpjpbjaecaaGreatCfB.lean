import Derived.Test.YtcglbpjpbjaecaaGreatCf
import Derived.Test.YtcglbpjpbjaecaaGreatFH
set_option linter.unusedVariables false
set_option linter.unusedSimpArgs false
namespace Go.Proofs.YtcglbpjpbjaecaaGreat.Ru
open Go Go.Ab Go.RowKit
set_option maxRecDepth 100000
set_option linter.unusedVariables false
theorem Cfrun2 (k m : Nat) (r : V) : (exTabM Pg FT Sh.hd2 noMemo pu 60).ex (V × HT) (Cfm2 k m r).f (Cfm2 k m r).args ⟨(Cfm2 k m r).H.next, (Cfm2 k m r).H.next, (Cfm2 k m r).H.tr⟩ pairK = some ((Cfm2 k m r).v, (Cfm2 k m r).H') := by kernel_rfl
theorem Cfmok2 (hh : HdOk Pg hd) (k m : Nat) (r : V) : MemoOk Pg (Cfm2 k m r) := memo_of okP tabOk (Sh.hd2_ok hh) noMemo_ok (own_of (Cfown4 k m r)) (Cfrun2 k m r)
end Go.Proofs.YtcglbpjpbjaecaaGreat.Ru
