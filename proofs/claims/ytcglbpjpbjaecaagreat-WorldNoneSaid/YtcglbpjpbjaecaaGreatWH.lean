import Derived.Test.YtcglbpjpbjaecaaGreatWI
import Derived.Test.YtcglbpjpbjaecaaGreatWS
import Derived.Test.YtcglbpjpbjaecaaGreatFC
set_option linter.unusedVariables false
set_option linter.unusedSimpArgs false
namespace Go.Proofs.YtcglbpjpbjaecaaGreat.Ru
open Go Go.Ab Go.RowKit
set_option maxRecDepth 10000
set_option linter.unusedVariables false
noncomputable def hdW : HdF := fun f a => match Nat.beq f 161 with
  | true => (match a with
    | [.ifc t (.slc p n), .fn g x y] => bif Nat.beq t 167 && Nat.ble n 1 then some (.tup []) else none
    | _ => none)
  | false => match Nat.beq f 155 with
    | true => bif sameVs a It.args then some (.tup [.slc none 0, .int .u64 1]) else none
    | false => hd f a
theorem hdW_ok (hh : HdOk Pg hd) : HdOk Pg hdW := by
  intro f args v hv
  unfold hdW at hv
  split at hv
  · rename_i hf
    obtain rfl := Nat.eq_of_beq_eq_true hf
    split at hv
    · obtain ⟨hc, hv2⟩ := bif_some hv
      clear hv
      rw [Bool.and_eq_true] at hc
      have h1 := Nat.eq_of_beq_eq_true hc.1
      subst h1
      simp only [Option.some.injEq] at hv2; subst hv2
      exact ⟨by kernel_rfl, fun h => So.sortP _ _ (Nat.le_of_ble_eq_true hc.2) _ _ _ h⟩
    · cases hv
  · split at hv
    · rename_i hf
      obtain rfl := Nat.eq_of_beq_eq_true hf
      obtain ⟨hc, hv2⟩ := bif_some hv
      clear hv
      have h1 := sameVs_eq _ _ hc
      subst h1
      simp only [Option.some.injEq] at hv2; subst hv2
      exact ⟨by kernel_rfl, fun h => It.itemsP hh h⟩
    · exact hh f args v hv
end Go.Proofs.YtcglbpjpbjaecaaGreat.Ru
