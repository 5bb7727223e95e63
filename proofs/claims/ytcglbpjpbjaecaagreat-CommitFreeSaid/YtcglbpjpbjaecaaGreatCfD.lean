import Derived.Test.YtcglbpjpbjaecaaGreatCf
import Derived.Test.YtcglbpjpbjaecaaGreatFH
set_option linter.unusedVariables false
set_option linter.unusedSimpArgs false
namespace Go.Proofs.YtcglbpjpbjaecaaGreat.Ru
open Go Go.Ab Go.RowKit
set_option maxRecDepth 100000
set_option linter.unusedVariables false
theorem Cfrun11 (k m : Nat) (r : V) : (exTabM Pg FT Sh.hd2 Sh.getHm pu 60).ex (V × HT) (Cfm11 k m r).f (Cfm11 k m r).args ⟨(Cfm11 k m r).H.next, (Cfm11 k m r).H.next, (Cfm11 k m r).H.tr⟩ pairK = bif Sh.gd 1 (.succ k) then some ((Cfm11 k m r).v, (Cfm11 k m r).H') else none := by kernel_rfl
theorem Cfmok11 (hh : HdOk Pg hd) (k m : Nat) (r : V) (hg : Sh.gd 1 (.succ k) = true) : MemoOk Pg (Cfm11 k m r) := memo_of okP tabOk (Sh.hd2_ok hh) Sh.getHm_ok (own_of (Cfown7 k m r)) (Cfrun11 k m r |>.trans (by rw [hg]; rfl))
end Go.Proofs.YtcglbpjpbjaecaaGreat.Ru
namespace Go.Proofs.YtcglbpjpbjaecaaGreat.Ru
open Go Go.Ab Go.RowKit
set_option maxRecDepth 100000
set_option linter.unusedVariables false
theorem Cfrun14 (k m : Nat) (r : V) : (exTabM Pg FT Sh.hd2 Sh.getHm pu 60).ex (V × HT) (Cfm14 k m r).f (Cfm14 k m r).args ⟨(Cfm14 k m r).H.next, (Cfm14 k m r).H.next, (Cfm14 k m r).H.tr⟩ pairK = bif Sh.gd 0 k then some ((Cfm14 k m r).v, (Cfm14 k m r).H') else none := by kernel_rfl
theorem Cfmok14 (hh : HdOk Pg hd) (k m : Nat) (r : V) (hg : Sh.gd 0 k = true) : MemoOk Pg (Cfm14 k m r) := memo_of okP tabOk (Sh.hd2_ok hh) Sh.getHm_ok (own_of (Cfown7 k m r)) (Cfrun14 k m r |>.trans (by rw [hg]; rfl))
end Go.Proofs.YtcglbpjpbjaecaaGreat.Ru
