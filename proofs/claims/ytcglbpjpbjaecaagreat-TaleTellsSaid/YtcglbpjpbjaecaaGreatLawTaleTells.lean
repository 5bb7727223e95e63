/- A tale's line of a call is the document's, and the tale is awake: for all calls. -/
import Derived.Test.YtcglbpjpbjaecaaGreatRows
import Derived.Test.YtcglbpjpbjaecaaGreatT31
import Derived.Test.YtcglbpjpbjaecaaGreatFJA
import Derived.Test.YtcglbpjpbjaecaaGreatFJT
import Derived.WalkKit
import Derived.ProofKit
import Derived.OpenShut
import Derived.ShutString
import Derived.ChangeOld
import Derived.Below
import Derived.SizedLaws
namespace Go.Proofs.YtcglbpjpbjaecaaGreat.taleTells
open Go.ChangeShapes Go.WideShapes Go.ChangeAt Go.RowKit Go.Ab
open Go.ChangeMaps (open_string shut_string)
set_option linter.unusedVariables false
set_option linter.unusedSimpArgs false
theorem own : ownKnob Tryz.prog.godebug = none := by kernel_rfl
def exRec : Value := .agg (#[.int .i64 0, .int .u8 0, .int .u64 0, .int .u16 0, .int .i64 0, .string ByteArray.empty, .int .i64 0, .int .i64 0, .int .i64 0, .bool false, .int .i64 0, .int .u64 0, .int .u32 0] ++ Array.replicate 64 (.int .u8 0))
set_option maxRecDepth 100000 in
theorem lifted (os : Os) (started : os.Started) (H : Type) (enc : TypeId × Value → H) :
    ReturnsInHanded {} Tryz.checked os 9 .any (Rows.taleTellsSpec.pre6 enc Tryz.prog Tryz.f9 Rows.taleTellsRow.domain false) (Rows.taleTellsSpec.post enc Tryz.prog Tryz.f9 false true false false) := by
  refine returnsInHanded_of_change_sized (C := Tryz.checked) own started (by kernel_rfl) Tryz.func9
    (ChangeSpec.witness6 (enc := enc) (C := Tryz.checked) false ⟨#[], #[exRec], []⟩ 8 (by kernel_rfl) (by kernel_rfl) (by kernel_rfl) (by kernel_rfl)) ?_
  intro W base args ds gs before hval0 hW hcnd hsz0 _
  have hsz : (DataW.weightsEach Tryz.prog (Tryz.f9.params.toList ++ Rows.taleTellsSpec.plain.varTypes Tryz.prog) (ds ++ gs)).all (· ≤ reachBytes) = true := hsz0
  have hval : ∀ (j : Nat) t v, Tryz.f9.params[j]? = some t → args[j]? = some v → Value.okWide Tryz.prog W .any base t v := hval0
  have hW' := hW
  obtain ⟨p, q, hA0, hV, rfl, hfz, hnd⟩ := hW
  have hA : DataW.TrodAll enc Tryz.prog W 0 (fun _ => true) true Tryz.f9.params.toList args.toList ds p := hA0
  rw [Tryz.params9] at hA hval hsz
  obtain ⟨v0, vs0, d0, ds0, p0, q0, hargs, rfl, rfl, h0, r0⟩ := trodAll_cons hA
  obtain ⟨rfl, rfl, rfl⟩ := trodAll_nil r0
  obtain rfl : args = #[v0] := by cases args; simp_all
  obtain ⟨rfl, rfl⟩ := trodVars_none hV
  obtain ⟨rfl, ⟨y0, sh0, gd0, rl0⟩, same0⟩ := open_flat (P := Ru.Pg) Ru.okP.lay (M := reachBytes) (Sh.flat94) h0 (fun n hn => by simpa using List.all_eq_true.1 hsz _ (DataW.weights_mem_each (j := 0) rfl rfl n hn))
  have rel0 : ∀ ι, rel Ru.Pg ι y0 v0 := by
    have z := hval 0 94 v0 rfl rfl
    simp only [Value.okWide, Tryz.underlying94] at z
    obtain ⟨cs, rfl, _⟩ := z
    obtain ⟨l, rfl⟩ := Sh.agg94 sh0
    exact fun ι => .inr ⟨rfl, rl0 ι⟩
  clear hA0 hval0 hsz0 hsz
  have walk : Calls Ru.Pg 9 #[v0] W fun e w' => Below W.heap.size W w' ∧ ∃ x ι, e = .returned x ∧ rel Ru.Pg ι (.bool true) x := by
    have c : ACalls Ru.Pg 9 [y0] AH0 fun e _ => e = .ret (.bool true) := by
      exact Sh.tellLaw y0 sh0 gd0
    have r : ∀ ι, relL Ru.Pg ι [y0] [v0] := fun ι => (relL_cons (rel0 _) relL_nil)
    exact calls_flat (P := Ru.Pg) (W := W) r c
  refine walk.mono fun e W' ⟨bel, x, ι, he, hx⟩ => ?_
  obtain rfl := rel_bool hx
  subst he
  exact ⟨_, rfl, _, _, _, [], _, [], hW', trodAll_mk1 (shut_bool Tryz.underlying4 _), (trodAll_cons_mk (same0 _ _ _ _) trodAll_mk0), rfl, bel.frame _, fun h => by cases h⟩
theorem closed : joinedFacts Tryz.pinned.checked.prog 9 Tryz.f9 Rows.taleTellsSpec Rows.taleTellsRow = true := by
  show joinedFacts Tryz.prog 9 Tryz.f9 Rows.taleTellsSpec Rows.taleTellsRow = true
  unfold joinedFacts
  rw [jf1, jf2, jg3, jg4, jg5, jg6]
  kernel_rfl
theorem named : Tryz.pinned.checked.prog.funcNamed Rows.taleTellsRow.func = some 9 := by kernel_rfl
theorem over : Rows.taleTellsRow.holds Tryz.pinned (OpenSpec.ofChange Rows.taleTellsSpec) :=
  OpenClaim.holds_of_wide 9 Tryz.f9 rfl rfl rfl rfl rfl rfl rfl ⟨rfl, rfl, rfl, rfl, rfl⟩ rfl rfl rfl rfl rfl named Tryz.func9 closed
    (of_decide_eq_true (by kernel_rfl)) (by unfold Func.isWrapper; first | (rw [if_pos (by decide +kernel)]; kernel_rfl) | (rw [if_neg (by decide +kernel)]; exact ⟨rfl, rfl⟩))
    (fun os started H enc _ => lifted os started H enc)
theorem proved : Rows.TaleTellsSaid := over
end Go.Proofs.YtcglbpjpbjaecaaGreat.taleTells
namespace Go.Proofs.YtcglbpjpbjaecaaGreat
/-- The row, under a short name, for the claim. -/
theorem taleTells_holds : Rows.TaleTellsSaid := taleTells.proved
#print axioms taleTells_holds
end Go.Proofs.YtcglbpjpbjaecaaGreat
