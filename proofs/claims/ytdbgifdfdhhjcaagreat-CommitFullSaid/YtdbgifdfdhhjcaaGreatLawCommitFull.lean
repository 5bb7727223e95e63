/- When there is no room for an undo record nothing is installed and nothing changes, and behind a record's leaving there is room again: for all lists of bodies. -/
import Derived.Test.YtdbgifdfdhhjcaaGreatRows
import Derived.Test.YtdbgifdfdhhjcaaGreatC00
import Derived.Test.YtdbgifdfdhhjcaaGreatC01
import Derived.Test.YtdbgifdfdhhjcaaGreatC02
import Derived.Test.YtdbgifdfdhhjcaaGreatC03
import Derived.Test.YtdbgifdfdhhjcaaGreatC04
import Derived.Test.YtdbgifdfdhhjcaaGreatC05
import Derived.Test.YtdbgifdfdhhjcaaGreatC06
import Derived.Test.YtdbgifdfdhhjcaaGreatC07
import Derived.Test.YtdbgifdfdhhjcaaGreatC08
import Derived.Test.YtdbgifdfdhhjcaaGreatC09
import Derived.Test.YtdbgifdfdhhjcaaGreatC10
import Derived.Test.YtdbgifdfdhhjcaaGreatC11
import Derived.Test.YtdbgifdfdhhjcaaGreatC12
import Derived.Test.YtdbgifdfdhhjcaaGreatC13
import Derived.Test.YtdbgifdfdhhjcaaGreatC14
import Derived.Test.YtdbgifdfdhhjcaaGreatC15
import Derived.Test.YtdbgifdfdhhjcaaGreatC16
import Derived.Test.YtdbgifdfdhhjcaaGreatC17
import Derived.Test.YtdbgifdfdhhjcaaGreatFJA
import Derived.Test.YtdbgifdfdhhjcaaGreatFJCommitFull
import Derived.WalkKit
import Derived.ProofKit
import Derived.OpenShut
import Derived.ShutString
import Derived.ChangeOld
import Derived.Below
import Derived.Carry
import Derived.SizedLaws
namespace Go.Proofs.YtdbgifdfdhhjcaaGreat.commitFull
open Go.ChangeShapes Go.WideShapes Go.ChangeAt Go.RowKit Go.Ab
open Go.ChangeMaps (open_string shut_string)
set_option linter.unusedVariables false
set_option linter.unusedSimpArgs false
theorem own : ownKnob Tryz.prog.godebug = none := by kernel_rfl
set_option maxRecDepth 100000 in
theorem lifted (os : Os) (started : os.Started) (H : Type) (enc : TypeId × Value → H) :
    ReturnsInHanded {} Tryz.checked os 6 .any (Rows.commitFullSpec.pre6 enc Tryz.prog Tryz.f6 Rows.commitFullRow.domain false) (Rows.commitFullSpec.post enc Tryz.prog Tryz.f6 false true false false) := by
  refine returnsInHanded_of_change_sized (C := Tryz.checked) own started (by kernel_rfl) Tryz.func6
    (ChangeSpec.witness6 (enc := enc) (C := Tryz.checked) false ⟨#[], #[.slice none 0 0], []⟩ 8 (by kernel_rfl) (by kernel_rfl) (by kernel_rfl) (by kernel_rfl)) ?_
  intro W base args ds gs before hval0 hW hcnd hsz0 _
  have hsz : (DataW.weightsEach Tryz.prog (Tryz.f6.params.toList ++ Rows.commitFullSpec.plain.varTypes Tryz.prog) (ds ++ gs)).all (· ≤ reachBytes) = true := hsz0
  have hval : ∀ (j : Nat) t v, Tryz.f6.params[j]? = some t → args[j]? = some v → Value.okWide Tryz.prog W .any base t v := hval0
  have hW' := hW
  obtain ⟨p, q, hA0, hV, rfl, hfz, hnd⟩ := hW
  have hA : DataW.TrodAll enc Tryz.prog W 0 (fun _ => true) true Tryz.f6.params.toList args.toList ds p := hA0
  rw [Tryz.params6] at hA hval hsz
  obtain ⟨v0, vs0, d0, ds0, p0, q0, hargs, rfl, rfl, h0, r0⟩ := trodAll_cons hA
  obtain ⟨rfl, rfl, rfl⟩ := trodAll_nil r0
  obtain rfl : args = #[v0] := by cases args; simp_all
  obtain ⟨rfl, rfl⟩ := trodVars_none hV
  have hlt : ∀ x ∈ p0, x.block < W.heap.size := fun x hx => hW'.lt x (by simpa using hx)
  obtain ⟨l, hh, x, ι0, hok, hsc, F, r⟩ := Op.open_bodies (hval 0 82 v0 rfl rfl) h0 (fun n hn => by simpa using List.all_eq_true.1 hsz _ (DataW.weights_mem_each (j := 0) rfl rfl n hn))
  clear hA0 hval0 hsz0 hsz
  have walk : Calls Ru.Pg 6 #[v0] W fun e w' => Below W.heap.size W w' ∧ ∃ x ι, e = .returned x ∧ rel Ru.Pg ι (.bool true) x := by
    have c := Sh.commitFullLaw hok hsc
    refine (c _ ι0 W [v0] F (relL_cons r relL_nil)).mono ?_
    rintro e w' ⟨ι', h', ae, g1, g2, g3, rfl⟩
    refine ⟨⟨g2.os, g2.tape, g2.output, g2.size, fun b hb => (g2.frame b hb).1⟩, ?_⟩
    cases e with
    | returned x => exact ⟨x, ι', rfl, g3⟩
    | panicked c => exact g3.elim
    | outgrown => exact g3.elim
  refine walk.mono fun e W' ⟨bel, x, ι, he, hx⟩ => ?_
  obtain rfl := rel_bool hx
  subst he
  have h0' := Below.trod (t := 82) jf1 (by kernel_rfl) (of_decide_eq_true (by kernel_rfl)) h0 bel hlt
  exact ⟨_, rfl, _, _, _, [], _, [], hW', trodAll_mk1 (shut_bool Tryz.underlying4 _), (trodAll_cons_mk h0' trodAll_mk0), rfl, bel.frame _, fun h => by cases h⟩
theorem closed : joinedFacts Tryz.pinned.checked.prog 6 Tryz.f6 Rows.commitFullSpec Rows.commitFullRow = true := by
  show joinedFacts Tryz.prog 6 Tryz.f6 Rows.commitFullSpec Rows.commitFullRow = true
  unfold joinedFacts
  rw [jf1, jf2, jg3, jg4, jg5, jg6]
  kernel_rfl
theorem named : Tryz.pinned.checked.prog.funcNamed Rows.commitFullRow.func = some 6 := by kernel_rfl
theorem over : Rows.commitFullRow.holds Tryz.pinned (OpenSpec.ofChange Rows.commitFullSpec) :=
  OpenClaim.holds_of_wide 6 Tryz.f6 rfl rfl rfl rfl rfl rfl rfl ⟨rfl, rfl, rfl, rfl, rfl⟩ rfl rfl rfl rfl rfl named Tryz.func6 closed
    (of_decide_eq_true (by kernel_rfl)) (by unfold Func.isWrapper; first | (rw [if_pos (by decide +kernel)]; kernel_rfl) | (rw [if_neg (by decide +kernel)]; exact ⟨rfl, rfl⟩))
    (fun os started H enc _ => lifted os started H enc)
theorem proved : Rows.CommitFullSaid := over
end Go.Proofs.YtdbgifdfdhhjcaaGreat.commitFull
namespace Go.Proofs.YtdbgifdfdhhjcaaGreat
/-- The row, under a short name, for the claim. -/
theorem commitFull_holds : Rows.CommitFullSaid := commitFull.proved
#print axioms commitFull_holds
end Go.Proofs.YtdbgifdfdhhjcaaGreat
