/- Two texts one behind the other are the two scripts one behind the other: for all texts. -/
import Derived.Test.YtcglbpjpbjaecaaGreatRows
import Derived.Test.YtcglbpjpbjaecaaGreatJ00
import Derived.Test.YtcglbpjpbjaecaaGreatJ01
import Derived.Test.YtcglbpjpbjaecaaGreatJ02
import Derived.Test.YtcglbpjpbjaecaaGreatJ03
import Derived.Test.YtcglbpjpbjaecaaGreatJ04
import Derived.Test.YtcglbpjpbjaecaaGreatJ05
import Derived.Test.YtcglbpjpbjaecaaGreatJ06
import Derived.Test.YtcglbpjpbjaecaaGreatJ07
import Derived.Test.YtcglbpjpbjaecaaGreatJ08
import Derived.Test.YtcglbpjpbjaecaaGreatJ09
import Derived.Test.YtcglbpjpbjaecaaGreatJ10
import Derived.Test.YtcglbpjpbjaecaaGreatJ11
import Derived.Test.YtcglbpjpbjaecaaGreatJ12
import Derived.Test.YtcglbpjpbjaecaaGreatJ13
import Derived.Test.YtcglbpjpbjaecaaGreatJ14
import Derived.Test.YtcglbpjpbjaecaaGreatJ15
import Derived.Test.YtcglbpjpbjaecaaGreatJ16
import Derived.Test.YtcglbpjpbjaecaaGreatJ17
import Derived.Test.YtcglbpjpbjaecaaGreatJ18
import Derived.Test.YtcglbpjpbjaecaaGreatJ19
import Derived.Test.YtcglbpjpbjaecaaGreatJ20
import Derived.Test.YtcglbpjpbjaecaaGreatJ21
import Derived.Test.YtcglbpjpbjaecaaGreatJ22
import Derived.Test.YtcglbpjpbjaecaaGreatJ23
import Derived.Test.YtcglbpjpbjaecaaGreatJ24
import Derived.Test.YtcglbpjpbjaecaaGreatJ25
import Derived.Test.YtcglbpjpbjaecaaGreatJ26
import Derived.Test.YtcglbpjpbjaecaaGreatJ27
import Derived.Test.YtcglbpjpbjaecaaGreatJ28
import Derived.Test.YtcglbpjpbjaecaaGreatJ29
import Derived.Test.YtcglbpjpbjaecaaGreatJ30
import Derived.Test.YtcglbpjpbjaecaaGreatFJA
import Derived.Test.YtcglbpjpbjaecaaGreatFJTaleJoins
import Derived.WalkKit
import Derived.ProofKit
import Derived.OpenShut
import Derived.ShutString
import Derived.ChangeOld
import Derived.Below
import Derived.Carry
import Derived.SizedLaws
namespace Go.Proofs.YtcglbpjpbjaecaaGreat.taleJoins
open Go.ChangeShapes Go.WideShapes Go.ChangeAt Go.RowKit Go.Ab
open Go.ChangeMaps (open_string shut_string)
set_option linter.unusedVariables false
set_option linter.unusedSimpArgs false
theorem own : ownKnob Tryz.prog.godebug = none := by kernel_rfl
set_option maxRecDepth 100000 in
theorem lifted (os : Os) (started : os.Started) (H : Type) (enc : TypeId × Value → H) :
    ReturnsInHanded {} Tryz.checked os 8 .any (Rows.taleJoinsSpec.pre6 enc Tryz.prog Tryz.f8 Rows.taleJoinsRow.domain false) (Rows.taleJoinsSpec.post enc Tryz.prog Tryz.f8 false true false false) := by
  refine returnsInHanded_of_change_sized (C := Tryz.checked) own started (by kernel_rfl) Tryz.func8
    (ChangeSpec.witness6 (enc := enc) (C := Tryz.checked) false ⟨#[], #[.string ByteArray.empty, .string ByteArray.empty], []⟩ 8 (by kernel_rfl) (by kernel_rfl) (by kernel_rfl) (by kernel_rfl)) ?_
  intro W base args ds gs before hval0 hW hcnd hsz0 _
  have hsz : (DataW.weightsEach Tryz.prog (Tryz.f8.params.toList ++ Rows.taleJoinsSpec.plain.varTypes Tryz.prog) (ds ++ gs)).all (· ≤ reachBytes) = true := hsz0
  have hval : ∀ (j : Nat) t v, Tryz.f8.params[j]? = some t → args[j]? = some v → Value.okWide Tryz.prog W .any base t v := hval0
  have hW' := hW
  obtain ⟨p, q, hA0, hV, rfl, hfz, hnd⟩ := hW
  have hA : DataW.TrodAll enc Tryz.prog W 0 (fun _ => true) true Tryz.f8.params.toList args.toList ds p := hA0
  rw [Tryz.params8] at hA hval hsz
  obtain ⟨v0, vs0, d0, ds0, p0, q0, hargs, rfl, rfl, h0, r0⟩ := trodAll_cons hA
  obtain ⟨v1, vs1, d1, ds1, p1, q1, rfl, rfl, rfl, h1, r1⟩ := trodAll_cons r0
  obtain ⟨rfl, rfl, rfl⟩ := trodAll_nil r1
  obtain rfl : args = #[v0, v1] := by cases args; simp_all
  obtain ⟨rfl, rfl⟩ := trodVars_none hV
  obtain ⟨a0, rfl, rfl, rfl, y0⟩ := open_string Tryz.underlying9 (hval 0 9 v0 rfl rfl) h0
  obtain ⟨a1, rfl, rfl, rfl, y1⟩ := open_string Tryz.underlying9 (hval 1 9 v1 rfl rfl) h1
  have w0 : a0.size ≤ 140737488351232 := by
    have z := sized_string hsz (j := 0) (t := 9) rfl rfl
    rw [Array.length_toList] at z
    exact z
  have w1 : a1.size ≤ 140737488351232 := by
    have z := sized_string hsz (j := 1) (t := 9) rfl rfl
    rw [Array.length_toList] at z
    exact z
  clear hA0 hval0 hsz0 hsz
  have walk : Calls Ru.Pg 8 #[.string a0, .string a1] W fun e w' => Below W.heap.size W w' ∧ ∃ x ι, e = .returned x ∧ rel Ru.Pg ι (.bool true) x := by
    have c : ACalls Ru.Pg 8 [.str a0.data.toList, .str a1.data.toList] AH0 fun e _ => e = .ret (.bool true) := Sh.joinsLaw _ _ _
    have r : ∀ ι, relL Ru.Pg ι [.str a0.data.toList, .str a1.data.toList] [.string ⟨a0.data.toList.toArray⟩, .string ⟨a1.data.toList.toArray⟩] := fun ι => (relL_cons (mk_str _) (relL_cons (mk_str _) relL_nil))
    exact calls_flat (P := Ru.Pg) (W := W) r c
  refine walk.mono fun e W' ⟨bel, x, ι, he, hx⟩ => ?_
  obtain rfl := rel_bool hx
  subst he
  exact ⟨_, rfl, _, _, _, [], _, [], hW', trodAll_mk1 (shut_bool Tryz.underlying4 _), (trodAll_cons_mk (shut_string Tryz.underlying9 y0) (trodAll_cons_mk (shut_string Tryz.underlying9 y1) trodAll_mk0)), rfl, bel.frame _, fun h => by cases h⟩
theorem closed : joinedFacts Tryz.pinned.checked.prog 8 Tryz.f8 Rows.taleJoinsSpec Rows.taleJoinsRow = true := by
  show joinedFacts Tryz.prog 8 Tryz.f8 Rows.taleJoinsSpec Rows.taleJoinsRow = true
  unfold joinedFacts
  rw [jf1, jf2, jg3, jg4, jg5, jg6]
  kernel_rfl
theorem named : Tryz.pinned.checked.prog.funcNamed Rows.taleJoinsRow.func = some 8 := by kernel_rfl
theorem over : Rows.taleJoinsRow.holds Tryz.pinned (OpenSpec.ofChange Rows.taleJoinsSpec) :=
  OpenClaim.holds_of_wide 8 Tryz.f8 rfl rfl rfl rfl rfl rfl rfl ⟨rfl, rfl, rfl, rfl, rfl⟩ rfl rfl rfl rfl rfl named Tryz.func8 closed
    (of_decide_eq_true (by kernel_rfl)) (by unfold Func.isWrapper; first | (rw [if_pos (by decide +kernel)]; kernel_rfl) | (rw [if_neg (by decide +kernel)]; exact ⟨rfl, rfl⟩))
    (fun os started H enc _ => lifted os started H enc)
theorem proved : Rows.TaleJoinsSaid := over
end Go.Proofs.YtcglbpjpbjaecaaGreat.taleJoins
namespace Go.Proofs.YtcglbpjpbjaecaaGreat
/-- The row, under a short name, for the claim. -/
theorem taleJoins_holds : Rows.TaleJoinsSaid := taleJoins.proved
#print axioms taleJoins_holds
end Go.Proofs.YtcglbpjpbjaecaaGreat
