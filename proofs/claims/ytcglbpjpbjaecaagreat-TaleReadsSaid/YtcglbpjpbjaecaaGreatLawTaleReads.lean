/- A text is the document's script, or none, and the first wrong line is told: for all texts. -/
import Derived.Test.YtcglbpjpbjaecaaGreatRows
import Derived.Test.YtcglbpjpbjaecaaGreatQ00
import Derived.Test.YtcglbpjpbjaecaaGreatQ01
import Derived.Test.YtcglbpjpbjaecaaGreatQ02
import Derived.Test.YtcglbpjpbjaecaaGreatQ03
import Derived.Test.YtcglbpjpbjaecaaGreatQ04
import Derived.Test.YtcglbpjpbjaecaaGreatQ05
import Derived.Test.YtcglbpjpbjaecaaGreatQ06
import Derived.Test.YtcglbpjpbjaecaaGreatQ07
import Derived.Test.YtcglbpjpbjaecaaGreatQ08
import Derived.Test.YtcglbpjpbjaecaaGreatQ09
import Derived.Test.YtcglbpjpbjaecaaGreatQ10
import Derived.Test.YtcglbpjpbjaecaaGreatQ11
import Derived.Test.YtcglbpjpbjaecaaGreatQ12
import Derived.Test.YtcglbpjpbjaecaaGreatQ13
import Derived.Test.YtcglbpjpbjaecaaGreatQ14
import Derived.Test.YtcglbpjpbjaecaaGreatQ15
import Derived.Test.YtcglbpjpbjaecaaGreatQ16
import Derived.Test.YtcglbpjpbjaecaaGreatQ17
import Derived.Test.YtcglbpjpbjaecaaGreatQ18
import Derived.Test.YtcglbpjpbjaecaaGreatQ19
import Derived.Test.YtcglbpjpbjaecaaGreatQ20
import Derived.Test.YtcglbpjpbjaecaaGreatQ21
import Derived.Test.YtcglbpjpbjaecaaGreatQ22
import Derived.Test.YtcglbpjpbjaecaaGreatQ23
import Derived.Test.YtcglbpjpbjaecaaGreatQ24
import Derived.Test.YtcglbpjpbjaecaaGreatQ25
import Derived.Test.YtcglbpjpbjaecaaGreatQ26
import Derived.Test.YtcglbpjpbjaecaaGreatQ27
import Derived.Test.YtcglbpjpbjaecaaGreatQ28
import Derived.Test.YtcglbpjpbjaecaaGreatQ29
import Derived.Test.YtcglbpjpbjaecaaGreatQ30
import Derived.Test.YtcglbpjpbjaecaaGreatQ31
import Derived.Test.YtcglbpjpbjaecaaGreatFJA
import Derived.Test.YtcglbpjpbjaecaaGreatFJTaleReads
import Derived.WalkKit
import Derived.ProofKit
import Derived.OpenShut
import Derived.ShutString
import Derived.ChangeOld
import Derived.Below
import Derived.Carry
import Derived.SizedLaws
namespace Go.Proofs.YtcglbpjpbjaecaaGreat.taleReads
open Go.ChangeShapes Go.WideShapes Go.ChangeAt Go.RowKit Go.Ab
open Go.ChangeMaps (open_string shut_string)
set_option linter.unusedVariables false
set_option linter.unusedSimpArgs false
theorem own : ownKnob Tryz.prog.godebug = none := by kernel_rfl
set_option maxRecDepth 100000 in
theorem lifted (os : Os) (started : os.Started) (H : Type) (enc : TypeId × Value → H) :
    ReturnsInHanded {} Tryz.checked os 7 .any (Rows.taleReadsSpec.pre6 enc Tryz.prog Tryz.f7 Rows.taleReadsRow.domain false) (Rows.taleReadsSpec.post enc Tryz.prog Tryz.f7 false true false false) := by
  refine returnsInHanded_of_change_sized (C := Tryz.checked) own started (by kernel_rfl) Tryz.func7
    (ChangeSpec.witness6 (enc := enc) (C := Tryz.checked) false ⟨#[], #[.string ByteArray.empty], []⟩ 8 (by kernel_rfl) (by kernel_rfl) (by kernel_rfl) (by kernel_rfl)) ?_
  intro W base args ds gs before hval0 hW hcnd hsz0 _
  have hsz : (DataW.weightsEach Tryz.prog (Tryz.f7.params.toList ++ Rows.taleReadsSpec.plain.varTypes Tryz.prog) (ds ++ gs)).all (· ≤ reachBytes) = true := hsz0
  have hval : ∀ (j : Nat) t v, Tryz.f7.params[j]? = some t → args[j]? = some v → Value.okWide Tryz.prog W .any base t v := hval0
  have hW' := hW
  obtain ⟨p, q, hA0, hV, rfl, hfz, hnd⟩ := hW
  have hA : DataW.TrodAll enc Tryz.prog W 0 (fun _ => true) true Tryz.f7.params.toList args.toList ds p := hA0
  rw [Tryz.params7] at hA hval hsz
  obtain ⟨v0, vs0, d0, ds0, p0, q0, hargs, rfl, rfl, h0, r0⟩ := trodAll_cons hA
  obtain ⟨rfl, rfl, rfl⟩ := trodAll_nil r0
  obtain rfl : args = #[v0] := by cases args; simp_all
  obtain ⟨rfl, rfl⟩ := trodVars_none hV
  obtain ⟨a0, rfl, rfl, rfl, y0⟩ := open_string Tryz.underlying9 (hval 0 9 v0 rfl rfl) h0
  have w0 : a0.size ≤ 140737488351232 := by
    have z := sized_string hsz (j := 0) (t := 9) rfl rfl
    rw [Array.length_toList] at z
    exact z
  clear hA0 hval0 hsz0 hsz
  have walk : Calls Ru.Pg 7 #[.string a0] W fun e w' => Below W.heap.size W w' ∧ ∃ x ι, e = .returned x ∧ rel Ru.Pg ι (.bool true) x := by
    have c : ACalls Ru.Pg 7 [.str a0.data.toList] AH0 fun e _ => e = .ret (.bool true) := Sh.readsLaw _ _
    have r : ∀ ι, relL Ru.Pg ι [.str a0.data.toList] [.string ⟨a0.data.toList.toArray⟩] := fun ι => (relL_cons (mk_str _) relL_nil)
    exact calls_flat (P := Ru.Pg) (W := W) r c
  refine walk.mono fun e W' ⟨bel, x, ι, he, hx⟩ => ?_
  obtain rfl := rel_bool hx
  subst he
  exact ⟨_, rfl, _, _, _, [], _, [], hW', trodAll_mk1 (shut_bool Tryz.underlying4 _), (trodAll_cons_mk (shut_string Tryz.underlying9 y0) trodAll_mk0), rfl, bel.frame _, fun h => by cases h⟩
theorem closed : joinedFacts Tryz.pinned.checked.prog 7 Tryz.f7 Rows.taleReadsSpec Rows.taleReadsRow = true := by
  show joinedFacts Tryz.prog 7 Tryz.f7 Rows.taleReadsSpec Rows.taleReadsRow = true
  unfold joinedFacts
  rw [jf1, jf2, jg3, jg4, jg5, jg6]
  kernel_rfl
theorem named : Tryz.pinned.checked.prog.funcNamed Rows.taleReadsRow.func = some 7 := by kernel_rfl
theorem over : Rows.taleReadsRow.holds Tryz.pinned (OpenSpec.ofChange Rows.taleReadsSpec) :=
  OpenClaim.holds_of_wide 7 Tryz.f7 rfl rfl rfl rfl rfl rfl rfl ⟨rfl, rfl, rfl, rfl, rfl⟩ rfl rfl rfl rfl rfl named Tryz.func7 closed
    (of_decide_eq_true (by kernel_rfl)) (by unfold Func.isWrapper; first | (rw [if_pos (by decide +kernel)]; kernel_rfl) | (rw [if_neg (by decide +kernel)]; exact ⟨rfl, rfl⟩))
    (fun os started H enc _ => lifted os started H enc)
theorem proved : Rows.TaleReadsSaid := over
end Go.Proofs.YtcglbpjpbjaecaaGreat.taleReads
namespace Go.Proofs.YtcglbpjpbjaecaaGreat
/-- The row, under a short name, for the claim. -/
theorem taleReads_holds : Rows.TaleReadsSaid := taleReads.proved
#print axioms taleReads_holds
end Go.Proofs.YtcglbpjpbjaecaaGreat
