/- Changes come to where the log is full, and the store says so and keeps what it took: for all lists of records. -/
import Derived.Test.YtdfgfbammkojoaaRows
import Derived.Test.YtdfgfbammkojoaaF00
import Derived.Test.YtdfgfbammkojoaaF01
import Derived.Test.YtdfgfbammkojoaaF02
import Derived.Test.YtdfgfbammkojoaaF03
import Derived.Test.YtdfgfbammkojoaaF04
import Derived.Test.YtdfgfbammkojoaaF05
import Derived.Test.YtdfgfbammkojoaaF06
import Derived.Test.YtdfgfbammkojoaaF07
import Derived.Test.YtdfgfbammkojoaaF08
import Derived.Test.YtdfgfbammkojoaaF09
import Derived.Test.YtdfgfbammkojoaaF10
import Derived.Test.YtdfgfbammkojoaaF11
import Derived.Test.YtdfgfbammkojoaaF12
import Derived.Test.YtdfgfbammkojoaaF13
import Derived.Test.YtdfgfbammkojoaaF14
import Derived.Test.YtdfgfbammkojoaaF15
import Derived.Test.YtdfgfbammkojoaaF16
import Derived.Test.YtdfgfbammkojoaaF17
import Derived.Test.YtdfgfbammkojoaaF18
import Derived.Test.YtdfgfbammkojoaaFJA
import Derived.Test.YtdfgfbammkojoaaFJBaseFull
import Derived.WalkKit
import Derived.ProofKit
import Derived.OpenShut
import Derived.ShutString
import Derived.ChangeOld
import Derived.Below
import Derived.Carry
import Derived.SizedLaws
namespace Go.Proofs.Ytdfgfbammkojoaa.baseFull
open Go.ChangeShapes Go.WideShapes Go.ChangeAt Go.RowKit Go.Ab
open Go.ChangeMaps (open_string shut_string)
set_option linter.unusedVariables false
set_option linter.unusedSimpArgs false
theorem own : ownKnob Try.prog.godebug = none := by kernel_rfl
set_option maxRecDepth 100000 in
theorem lifted (os : Os) (started : os.Started) (H : Type) (enc : TypeId × Value → H) :
    ReturnsInHanded {} Try.checked os 3 .any (Rows.baseFullSpec.pre6 enc Try.prog Try.f3 Rows.baseFullRow.domain false) (Rows.baseFullSpec.post enc Try.prog Try.f3 false true false false) := by
  refine returnsInHanded_of_change_sized (C := Try.checked) own started (by kernel_rfl) Try.func3
    (ChangeSpec.witness6 (enc := enc) (C := Try.checked) false ⟨#[], #[.slice none 0 0], []⟩ 8 (by kernel_rfl) (by kernel_rfl) (by kernel_rfl) (by kernel_rfl)) ?_
  intro W base args ds gs before hval0 hW hcnd hsz0 _
  have hsz : (DataW.weightsEach Try.prog (Try.f3.params.toList ++ Rows.baseFullSpec.plain.varTypes Try.prog) (ds ++ gs)).all (· ≤ reachBytes) = true := hsz0
  have hval : ∀ (j : Nat) t v, Try.f3.params[j]? = some t → args[j]? = some v → Value.okWide Try.prog W .any base t v := hval0
  have hW' := hW
  obtain ⟨p, q, hA0, hV, rfl, hfz, hnd⟩ := hW
  have hA : DataW.TrodAll enc Try.prog W 0 (fun _ => true) true Try.f3.params.toList args.toList ds p := hA0
  rw [Try.params3] at hA hval hsz
  obtain ⟨v0, vs0, d0, ds0, p0, q0, hargs, rfl, rfl, h0, r0⟩ := trodAll_cons hA
  obtain ⟨rfl, rfl, rfl⟩ := trodAll_nil r0
  obtain rfl : args = #[v0] := by cases args; simp_all
  obtain ⟨rfl, rfl⟩ := trodVars_none hV
  have hlt : ∀ x ∈ p0, x.block < W.heap.size := fun x hx => hW'.lt x (by simpa using hx)
  obtain ⟨l, hh, x, ι0, hok, hsc, F, r⟩ := Op.open_recs (hval 0 22 v0 rfl rfl) h0 (fun n hn => by simpa using List.all_eq_true.1 hsz _ (DataW.weights_mem_each (j := 0) rfl rfl n hn))
  clear hA0 hval0 hsz0 hsz
  have walk : Calls Ru.Pg 3 #[v0] W fun e w' => Below W.heap.size W w' ∧ ∃ x ι, e = .returned x ∧ rel Ru.Pg ι (.bool true) x := by
    have c := Sh.baseFullLaw hok hsc
    refine (c _ ι0 W [v0] F (relL_cons r relL_nil)).mono ?_
    rintro e w' ⟨ι', h', ae, g1, g2, g3, rfl⟩
    refine ⟨⟨g2.os, g2.tape, g2.output, g2.size, fun b hb => (g2.frame b hb).1⟩, ?_⟩
    cases e with
    | returned x => exact ⟨x, ι', rfl, g3⟩
    | panicked c => exact g3.elim
    | outgrown => exact g3.elim
  refine walk.mono fun e W' ⟨bel, x, ι, he, hx⟩ => ?_
  obtain rfl := rel_bool hx
  subst he
  have h0' := Below.trod (t := 22) jf1 (by kernel_rfl) (of_decide_eq_true (by kernel_rfl)) h0 bel hlt
  exact ⟨_, rfl, _, _, _, [], _, [], hW', trodAll_mk1 (shut_bool Try.underlying4 _), (trodAll_cons_mk h0' trodAll_mk0), rfl, bel.frame _, fun h => by cases h⟩
theorem closed : joinedFacts Try.pinned.checked.prog 3 Try.f3 Rows.baseFullSpec Rows.baseFullRow = true := by
  show joinedFacts Try.prog 3 Try.f3 Rows.baseFullSpec Rows.baseFullRow = true
  unfold joinedFacts
  rw [jf1, jf2, jg3, jg4, jg5, jg6]
  kernel_rfl
theorem named : Try.pinned.checked.prog.funcNamed Rows.baseFullRow.func = some 3 := by kernel_rfl
theorem over : Rows.baseFullRow.holds Try.pinned (OpenSpec.ofChange Rows.baseFullSpec) :=
  OpenClaim.holds_of_wide 3 Try.f3 rfl rfl rfl rfl rfl rfl rfl ⟨rfl, rfl, rfl, rfl, rfl⟩ rfl rfl rfl rfl rfl named Try.func3 closed
    (of_decide_eq_true (by kernel_rfl)) (by unfold Func.isWrapper; first | (rw [if_pos (by decide +kernel)]; kernel_rfl) | (rw [if_neg (by decide +kernel)]; exact ⟨rfl, rfl⟩))
    (fun os started H enc _ => lifted os started H enc)
theorem proved : Rows.BaseFullSaid := over
end Go.Proofs.Ytdfgfbammkojoaa.baseFull
namespace Go.Proofs.Ytdfgfbammkojoaa
/-- The row, under a short name, for the claim. -/
theorem baseFull_holds : Rows.BaseFullSaid := baseFull.proved
#print axioms baseFull_holds
end Go.Proofs.Ytdfgfbammkojoaa
