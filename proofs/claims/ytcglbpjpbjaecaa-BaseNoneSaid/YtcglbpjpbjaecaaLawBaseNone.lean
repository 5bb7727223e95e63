/- Parts that are not there change nothing, and the parts that are there are awake: for all records and ints. -/
import Derived.Test.YtcglbpjpbjaecaaRows
import Derived.Test.YtcglbpjpbjaecaaBL
import Derived.WalkKit
import Derived.ProofKit
import Derived.OpenShut
import Derived.ShutString
import Derived.ChangeOld
import Derived.Below
import Derived.SizedLaws
namespace Go.Proofs.Ytcglbpjpbjaecaa.baseNone
open Go.ChangeShapes Go.WideShapes Go.ChangeAt Go.RowKit Go.Ab
open Go.ChangeMaps (open_string shut_string)
set_option linter.unusedVariables false
set_option linter.unusedSimpArgs false
theorem own : ownKnob Try.prog.godebug = none := by kernel_rfl
def exRec : Value := .agg (#[.int .u8 0, .bool false, .int .u16 0] ++ Array.replicate 224 (.int .u8 0) ++ #[.int .u32 0, .int .u16 0, .int .u8 0, .string ByteArray.empty, .int .u8 0, .bool false, .int .u16 0, .int .u32 0, .int .u16 0, .int .u8 0, .string ByteArray.empty])
set_option maxRecDepth 100000 in
theorem lifted (os : Os) (started : os.Started) (H : Type) (enc : TypeId × Value → H) :
    ReturnsInHanded {} Try.checked os 3 .any (Rows.baseNoneSpec.pre6 enc Try.prog Try.f3 Rows.baseNoneRow.domain false) (Rows.baseNoneSpec.post enc Try.prog Try.f3 false true false false) := by
  refine returnsInHanded_of_change_sized (C := Try.checked) own started (by kernel_rfl) Try.func3
    (ChangeSpec.witness6 (enc := enc) (C := Try.checked) false ⟨#[], #[exRec, .int .i64 0], []⟩ 8 (by kernel_rfl) (by kernel_rfl) (by kernel_rfl) (by kernel_rfl)) ?_
  intro W base args ds gs before hval0 hW hcnd hsz0 _
  have hsz : (DataW.weightsEach Try.prog (Try.f3.params.toList ++ Rows.baseNoneSpec.plain.varTypes Try.prog) (ds ++ gs)).all (· ≤ reachBytes) = true := hsz0
  have hval : ∀ (j : Nat) t v, Try.f3.params[j]? = some t → args[j]? = some v → Value.okWide Try.prog W .any base t v := hval0
  have hW' := hW
  obtain ⟨p, q, hA0, hV, rfl, hfz, hnd⟩ := hW
  have hA : DataW.TrodAll enc Try.prog W 0 (fun _ => true) true Try.f3.params.toList args.toList ds p := hA0
  rw [Try.params3] at hA hval hsz
  obtain ⟨v0, vs0, d0, ds0, p0, q0, hargs, rfl, rfl, h0, r0⟩ := trodAll_cons hA
  obtain ⟨v1, vs1, d1, ds1, p1, q1, rfl, rfl, rfl, h1, r1⟩ := trodAll_cons r0
  obtain ⟨rfl, rfl, rfl⟩ := trodAll_nil r1
  obtain rfl : args = #[v0, v1] := by cases args; simp_all
  obtain ⟨rfl, rfl⟩ := trodVars_none hV
  obtain ⟨rfl, ⟨y0, sh0, gd0, rl0⟩, same0⟩ := open_flat (P := Sh.Pg) Sh.okP.lay (M := reachBytes) (Sh.flat33) h0 (fun n hn => by simpa using List.all_eq_true.1 hsz _ (DataW.weights_mem_each (j := 0) rfl rfl n hn))
  have rel0 : ∀ ι, rel Sh.Pg ι y0 v0 := by
    have z := hval 0 33 v0 rfl rfl
    simp only [Value.okWide, Try.underlying33] at z
    obtain ⟨cs, rfl, _⟩ := z
    obtain ⟨l, rfl⟩ := Sh.agg33 sh0
    exact fun ι => .inr ⟨rfl, rl0 ι⟩
  obtain ⟨a1, rfl, rfl, rfl, w1⟩ := open_int Try.underlying3 (hval 1 3 v1 rfl rfl) h1
  clear hA0 hval0 hsz0 hsz
  have walk : Calls Sh.Pg 3 #[v0, .int .i64 a1] W fun e w' => Below W.heap.size W w' ∧ ∃ x ι, e = .returned x ∧ rel Sh.Pg ι (.bool true) x := by
    have c : ACalls Sh.Pg 3 [y0, .int .i64 a1] AH0 fun e _ => e = .ret (.bool true) := by
      exact Sh.noneLaw2 y0 (.int .i64 a1) sh0
    have r : ∀ ι, relL Sh.Pg ι [y0, .int .i64 a1] [v0, .int .i64 a1] := fun ι => (relL_cons (rel0 _) (relL_cons (mk_int _ _) relL_nil))
    exact calls_flat (P := Sh.Pg) (W := W) r c
  refine walk.mono fun e W' ⟨bel, x, ι, he, hx⟩ => ?_
  obtain rfl := rel_bool hx
  subst he
  exact ⟨_, rfl, _, _, _, [], _, [], hW', trodAll_mk1 (shut_bool Try.underlying4 _), (trodAll_cons_mk (same0 _ _ _ _) (trodAll_cons_mk (shut_int Try.underlying3 w1) trodAll_mk0)), rfl, bel.frame _, fun h => by cases h⟩
theorem over : Rows.baseNoneRow.holds Try.pinned (OpenSpec.ofChange Rows.baseNoneSpec) :=
  OpenClaim.holds_of_wide 3 Try.f3 rfl rfl rfl rfl rfl rfl rfl ⟨rfl, rfl, rfl, rfl, rfl⟩ rfl rfl rfl rfl rfl (by kernel_rfl) Try.func3 (by kernel_rfl)
    (of_decide_eq_true (by kernel_rfl)) (by unfold Func.isWrapper; first | (rw [if_pos (by decide +kernel)]; kernel_rfl) | (rw [if_neg (by decide +kernel)]; exact ⟨rfl, rfl⟩))
    (fun os started H enc _ => lifted os started H enc)
theorem proved : Rows.BaseNoneSaid := over
end Go.Proofs.Ytcglbpjpbjaecaa.baseNone
namespace Go.Proofs.Ytcglbpjpbjaecaa
/-- The row, under a short name, for the claim. -/
theorem baseNone_holds : Rows.BaseNoneSaid := baseNone.proved
#print axioms baseNone_holds
end Go.Proofs.Ytcglbpjpbjaecaa
