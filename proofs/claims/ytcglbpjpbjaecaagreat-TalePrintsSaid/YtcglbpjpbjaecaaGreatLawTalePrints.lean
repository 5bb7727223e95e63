/- A script's text is the document's, and the tale is awake: for all scripts. -/
import Derived.Test.YtcglbpjpbjaecaaGreatRows
import Derived.Test.YtcglbpjpbjaecaaGreatP00
import Derived.Test.YtcglbpjpbjaecaaGreatP01
import Derived.Test.YtcglbpjpbjaecaaGreatP02
import Derived.Test.YtcglbpjpbjaecaaGreatP03
import Derived.Test.YtcglbpjpbjaecaaGreatP04
import Derived.Test.YtcglbpjpbjaecaaGreatP05
import Derived.Test.YtcglbpjpbjaecaaGreatP06
import Derived.Test.YtcglbpjpbjaecaaGreatP07
import Derived.Test.YtcglbpjpbjaecaaGreatP08
import Derived.Test.YtcglbpjpbjaecaaGreatP09
import Derived.Test.YtcglbpjpbjaecaaGreatP10
import Derived.Test.YtcglbpjpbjaecaaGreatP11
import Derived.Test.YtcglbpjpbjaecaaGreatP12
import Derived.Test.YtcglbpjpbjaecaaGreatP13
import Derived.Test.YtcglbpjpbjaecaaGreatP14
import Derived.Test.YtcglbpjpbjaecaaGreatP15
import Derived.Test.YtcglbpjpbjaecaaGreatP16
import Derived.Test.YtcglbpjpbjaecaaGreatP17
import Derived.Test.YtcglbpjpbjaecaaGreatP18
import Derived.Test.YtcglbpjpbjaecaaGreatP19
import Derived.Test.YtcglbpjpbjaecaaGreatP20
import Derived.Test.YtcglbpjpbjaecaaGreatP21
import Derived.Test.YtcglbpjpbjaecaaGreatP22
import Derived.Test.YtcglbpjpbjaecaaGreatP23
import Derived.Test.YtcglbpjpbjaecaaGreatP24
import Derived.Test.YtcglbpjpbjaecaaGreatP25
import Derived.Test.YtcglbpjpbjaecaaGreatP26
import Derived.Test.YtcglbpjpbjaecaaGreatP27
import Derived.Test.YtcglbpjpbjaecaaGreatP28
import Derived.Test.YtcglbpjpbjaecaaGreatP29
import Derived.Test.YtcglbpjpbjaecaaGreatP30
import Derived.Test.YtcglbpjpbjaecaaGreatFJA
import Derived.Test.YtcglbpjpbjaecaaGreatFJTalePrints
import Derived.WalkKit
import Derived.ProofKit
import Derived.OpenShut
import Derived.ShutString
import Derived.ChangeOld
import Derived.Below
import Derived.Carry
import Derived.SizedLaws
namespace Go.Proofs.YtcglbpjpbjaecaaGreat.talePrints
open Go.ChangeShapes Go.WideShapes Go.ChangeAt Go.RowKit Go.Ab
open Go.ChangeMaps (open_string shut_string)
set_option linter.unusedVariables false
set_option linter.unusedSimpArgs false
theorem own : ownKnob Tryz.prog.godebug = none := by kernel_rfl
set_option maxRecDepth 100000 in
theorem lifted (os : Os) (started : os.Started) (H : Type) (enc : TypeId × Value → H) :
    ReturnsInHanded {} Tryz.checked os 10 .any (Rows.talePrintsSpec.pre6 enc Tryz.prog Tryz.f10 Rows.talePrintsRow.domain false) (Rows.talePrintsSpec.post enc Tryz.prog Tryz.f10 false true false false) := by
  refine returnsInHanded_of_change_sized (C := Tryz.checked) own started (by kernel_rfl) Tryz.func10
    (ChangeSpec.witness6 (enc := enc) (C := Tryz.checked) false ⟨#[], #[.slice none 0 0], []⟩ 8 (by kernel_rfl) (by kernel_rfl) (by kernel_rfl) (by kernel_rfl)) ?_
  intro W base args ds gs before hval0 hW hcnd hsz0 _
  have hsz : (DataW.weightsEach Tryz.prog (Tryz.f10.params.toList ++ Rows.talePrintsSpec.plain.varTypes Tryz.prog) (ds ++ gs)).all (· ≤ reachBytes) = true := hsz0
  have hval : ∀ (j : Nat) t v, Tryz.f10.params[j]? = some t → args[j]? = some v → Value.okWide Tryz.prog W .any base t v := hval0
  have hW' := hW
  obtain ⟨p, q, hA0, hV, rfl, hfz, hnd⟩ := hW
  have hA : DataW.TrodAll enc Tryz.prog W 0 (fun _ => true) true Tryz.f10.params.toList args.toList ds p := hA0
  rw [Tryz.params10] at hA hval hsz
  obtain ⟨v0, vs0, d0, ds0, p0, q0, hargs, rfl, rfl, h0, r0⟩ := trodAll_cons hA
  obtain ⟨rfl, rfl, rfl⟩ := trodAll_nil r0
  obtain rfl : args = #[v0] := by cases args; simp_all
  obtain ⟨rfl, rfl⟩ := trodVars_none hV
  have hlt : ∀ x ∈ p0, x.block < W.heap.size := fun x hx => hW'.lt x (by simpa using hx)
  obtain ⟨l, hh, x, ι0, hok, hsc, F, r⟩ := Op.open_script (hval 0 84 v0 rfl rfl) h0 (fun n hn => by simpa using List.all_eq_true.1 hsz _ (DataW.weights_mem_each (j := 0) rfl rfl n hn))
  clear hA0 hval0 hsz0 hsz
  have walk : Calls Ru.Pg 10 #[v0] W fun e w' => Below W.heap.size W w' ∧ ∃ x ι, e = .returned x ∧ rel Ru.Pg ι (.bool true) x := by
    have c := Sh.printsLaw l hok hsc
    refine (c _ ι0 W [v0] F (relL_cons r relL_nil)).mono ?_
    rintro e w' ⟨ι', h', ae, g1, g2, g3, rfl⟩
    refine ⟨⟨g2.os, g2.tape, g2.output, g2.size, fun b hb => (g2.frame b hb).1⟩, ?_⟩
    cases e with
    | returned x => exact ⟨x, ι', rfl, g3⟩
    | panicked c => exact g3.elim
    | outgrown => exact g3.elim
  refine walk.mono fun e W' ⟨bel, x, ι, he, hx⟩ => ?_
  obtain rfl := rel_bool hx
  subst he
  have h0' := Below.trod (t := 84) jf1 (by kernel_rfl) (of_decide_eq_true (by kernel_rfl)) h0 bel hlt
  exact ⟨_, rfl, _, _, _, [], _, [], hW', trodAll_mk1 (shut_bool Tryz.underlying4 _), (trodAll_cons_mk h0' trodAll_mk0), rfl, bel.frame _, fun h => by cases h⟩
theorem closed : joinedFacts Tryz.pinned.checked.prog 10 Tryz.f10 Rows.talePrintsSpec Rows.talePrintsRow = true := by
  show joinedFacts Tryz.prog 10 Tryz.f10 Rows.talePrintsSpec Rows.talePrintsRow = true
  unfold joinedFacts
  rw [jf1, jf2, jg3, jg4, jg5, jg6]
  kernel_rfl
theorem named : Tryz.pinned.checked.prog.funcNamed Rows.talePrintsRow.func = some 10 := by kernel_rfl
theorem over : Rows.talePrintsRow.holds Tryz.pinned (OpenSpec.ofChange Rows.talePrintsSpec) :=
  OpenClaim.holds_of_wide 10 Tryz.f10 rfl rfl rfl rfl rfl rfl rfl ⟨rfl, rfl, rfl, rfl, rfl⟩ rfl rfl rfl rfl rfl named Tryz.func10 closed
    (of_decide_eq_true (by kernel_rfl)) (by unfold Func.isWrapper; first | (rw [if_pos (by decide +kernel)]; kernel_rfl) | (rw [if_neg (by decide +kernel)]; exact ⟨rfl, rfl⟩))
    (fun os started H enc _ => lifted os started H enc)
theorem proved : Rows.TalePrintsSaid := over
end Go.Proofs.YtcglbpjpbjaecaaGreat.talePrints
namespace Go.Proofs.YtcglbpjpbjaecaaGreat
/-- The row, under a short name, for the claim. -/
theorem talePrints_holds : Rows.TalePrintsSaid := talePrints.proved
#print axioms talePrints_holds
end Go.Proofs.YtcglbpjpbjaecaaGreat
