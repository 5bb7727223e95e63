import Derived.Test.YtcglbpjpbjaecaaGreatCf
import Derived.Test.YtcglbpjpbjaecaaGreatFH
set_option linter.unusedVariables false
set_option linter.unusedSimpArgs false
namespace Go.Proofs.YtcglbpjpbjaecaaGreat.Ru
open Go Go.Ab Go.RowKit
set_option maxRecDepth 100000
set_option linter.unusedVariables false
theorem Cfrun20 (k m : Nat) (r : V) : (exTabM Pg FT Sh.hd2 Sh.isHm pu 60).ex (V × HT) (Cfm20 k m r).f (Cfm20 k m r).args ⟨(Cfm20 k m r).H.next, (Cfm20 k m r).H.next, (Cfm20 k m r).H.tr⟩ pairK = bif Sh.gd2 2 m then some ((Cfm20 k m r).v, (Cfm20 k m r).H') else none := by kernel_rfl
theorem Cfmok20 (hh : HdOk Pg hd) (k m : Nat) (r : V) (hg : Sh.gd2 2 m = true) : MemoOk Pg (Cfm20 k m r) := memo_of okP tabOk (Sh.hd2_ok hh) Sh.isHm_ok (own_of (Cfown18 k m r)) (Cfrun20 k m r |>.trans (by rw [hg]; rfl))
end Go.Proofs.YtcglbpjpbjaecaaGreat.Ru
namespace Go.Proofs.YtcglbpjpbjaecaaGreat.Ru
open Go Go.Ab Go.RowKit
set_option maxRecDepth 100000
set_option linter.unusedVariables false
theorem Cfrun17 (k m : Nat) (r : V) : (exTabM Pg FT Sh.hd2 noMemo pu 60).ex (V × HT) (Cfm17 k m r).f (Cfm17 k m r).args ⟨(Cfm17 k m r).H.next, (Cfm17 k m r).H.next, (Cfm17 k m r).H.tr⟩ pairK = some ((Cfm17 k m r).v, (Cfm17 k m r).H') := by kernel_rfl
theorem Cfmok17 (hh : HdOk Pg hd) (k m : Nat) (r : V) : MemoOk Pg (Cfm17 k m r) := memo_of okP tabOk (Sh.hd2_ok hh) noMemo_ok (own_of (Cfown7 k m r)) (Cfrun17 k m r)
end Go.Proofs.YtcglbpjpbjaecaaGreat.Ru
namespace Go.Proofs.YtcglbpjpbjaecaaGreat.Ru
open Go Go.Ab Go.RowKit
set_option maxRecDepth 100000
set_option linter.unusedVariables false
theorem Cfrun5 (k m : Nat) (r : V) : (exTabM Pg FT Sh.hd2 noMemo pu 60).ex (V × HT) (Cfm5 k m r).f (Cfm5 k m r).args ⟨(Cfm5 k m r).H.next, (Cfm5 k m r).H.next, (Cfm5 k m r).H.tr⟩ pairK = some ((Cfm5 k m r).v, (Cfm5 k m r).H') := by kernel_rfl
theorem Cfmok5 (hh : HdOk Pg hd) (k m : Nat) (r : V) : MemoOk Pg (Cfm5 k m r) := memo_of okP tabOk (Sh.hd2_ok hh) noMemo_ok (own_of (Cfown7 k m r)) (Cfrun5 k m r)
end Go.Proofs.YtcglbpjpbjaecaaGreat.Ru
namespace Go.Proofs.YtcglbpjpbjaecaaGreat.Ru
open Go Go.Ab Go.RowKit
set_option maxRecDepth 100000
set_option linter.unusedVariables false
theorem Cfrun6 (k m : Nat) (r : V) : (exTabM Pg FT Sh.hd2 noMemo pu 60).ex (V × HT) (Cfm6 k m r).f (Cfm6 k m r).args ⟨(Cfm6 k m r).H.next, (Cfm6 k m r).H.next, (Cfm6 k m r).H.tr⟩ pairK = some ((Cfm6 k m r).v, (Cfm6 k m r).H') := by kernel_rfl
theorem Cfmok6 (hh : HdOk Pg hd) (k m : Nat) (r : V) : MemoOk Pg (Cfm6 k m r) := memo_of okP tabOk (Sh.hd2_ok hh) noMemo_ok (own_of (Cfown7 k m r)) (Cfrun6 k m r)
end Go.Proofs.YtcglbpjpbjaecaaGreat.Ru
