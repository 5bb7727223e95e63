/- The program reads what the document's own reader reads, or nothing: for all texts. -/
import Derived.Test.YtdhlolcpcgpcnaaRows
import Derived.Test.YtdhlolcpcgpcnaaSk
import Derived.WalkKit
import Derived.ProofKit
import Derived.OpenShut
import Derived.ShutString
import Derived.ChangeOld
import Derived.Below
import Derived.SizedLaws
namespace Go.Proofs.Ytdhlolcpcgpcnaa.recDecodes
open Go.ChangeShapes Go.WideShapes Go.ChangeAt Go.RowKit Go.Ab
open Go.ChangeMaps (open_string shut_string)
set_option linter.unusedVariables false
set_option linter.unusedSimpArgs false
theorem own : ownKnob Try.prog.godebug = none := by kernel_rfl
set_option maxRecDepth 100000 in
theorem lifted (os : Os) (started : os.Started) (H : Type) (enc : TypeId × Value → H) :
    ReturnsInHanded {} Try.checked os 12 .any (Rows.recDecodesSpec.pre6 enc Try.prog Try.f12 Rows.recDecodesRow.domain false) (Rows.recDecodesSpec.post enc Try.prog Try.f12 false true false false) := by
  refine returnsInHanded_of_change_sized (C := Try.checked) own started (by kernel_rfl) Try.func12
    (ChangeSpec.witness6 (enc := enc) (C := Try.checked) false ⟨#[], #[.string ByteArray.empty], []⟩ 8 (by kernel_rfl) (by kernel_rfl) (by kernel_rfl) (by kernel_rfl)) ?_
  intro W base args ds gs before hval0 hW hcnd hsz0 _
  have hsz : (DataW.weightsEach Try.prog (Try.f12.params.toList ++ Rows.recDecodesSpec.plain.varTypes Try.prog) (ds ++ gs)).all (· ≤ reachBytes) = true := hsz0
  have hval : ∀ (j : Nat) t v, Try.f12.params[j]? = some t → args[j]? = some v → Value.okWide Try.prog W .any base t v := hval0
  have hW' := hW
  obtain ⟨p, q, hA0, hV, rfl, hfz, hnd⟩ := hW
  have hA : DataW.TrodAll enc Try.prog W 0 (fun _ => true) true Try.f12.params.toList args.toList ds p := hA0
  rw [Try.params12] at hA hval hsz
  obtain ⟨v0, vs0, d0, ds0, p0, q0, hargs, rfl, rfl, h0, r0⟩ := trodAll_cons hA
  obtain ⟨rfl, rfl, rfl⟩ := trodAll_nil r0
  obtain rfl : args = #[v0] := by cases args; simp_all
  obtain ⟨rfl, rfl⟩ := trodVars_none hV
  obtain ⟨a0, rfl, rfl, rfl, y0⟩ := open_string Try.underlying9 (hval 0 9 v0 rfl rfl) h0
  have w0 : a0.size ≤ 140737488351232 := by
    have z := sized_string hsz (j := 0) (t := 9) rfl rfl
    rw [Array.length_toList] at z
    exact z
  clear hA0 hval0 hsz0 hsz
  have walk : Calls Sh.Pg 12 #[.string a0] W fun e w' => Below W.heap.size W w' ∧ ∃ x ι, e = .returned x ∧ rel Sh.Pg ι (.bool true) x := by
    have c : ACalls Sh.Pg 12 [.str a0.data.toList] AH0 fun e _ => e = .ret (.bool true) := by
      have s0 : a0.data.toList.length < 140737488355328 := by
        have w := w0
        rw [Array.length_toList]; exact Nat.lt_of_le_of_lt w (by decide)
      exact Sh.decodesLaw _ s0
    have r : ∀ ι, relL Sh.Pg ι [.str a0.data.toList] [.string ⟨a0.data.toList.toArray⟩] := fun ι => (relL_cons (mk_str _) relL_nil)
    exact calls_flat (P := Sh.Pg) (W := W) r c
  refine walk.mono fun e W' ⟨bel, x, ι, he, hx⟩ => ?_
  obtain rfl := rel_bool hx
  subst he
  exact ⟨_, rfl, _, _, _, [], _, [], hW', trodAll_mk1 (shut_bool Try.underlying4 _), (trodAll_cons_mk (shut_string Try.underlying9 y0) trodAll_mk0), rfl, bel.frame _, fun h => by cases h⟩
theorem over : Rows.recDecodesRow.holds Try.pinned (OpenSpec.ofChange Rows.recDecodesSpec) :=
  OpenClaim.holds_of_wide 12 Try.f12 rfl rfl rfl rfl rfl rfl rfl ⟨rfl, rfl, rfl, rfl, rfl⟩ rfl rfl rfl rfl rfl (by kernel_rfl) Try.func12 (by kernel_rfl)
    (of_decide_eq_true (by kernel_rfl)) (by unfold Func.isWrapper; first | (rw [if_pos (by decide +kernel)]; kernel_rfl) | (rw [if_neg (by decide +kernel)]; exact ⟨rfl, rfl⟩))
    (fun os started H enc _ => lifted os started H enc)
theorem proved : Rows.RecDecodesSaid := over
end Go.Proofs.Ytdhlolcpcgpcnaa.recDecodes
namespace Go.Proofs.Ytdhlolcpcgpcnaa
/-- The row, under a short name, for the claim. -/
theorem recDecodes_holds : Rows.RecDecodesSaid := recDecodes.proved
#print axioms recDecodes_holds
end Go.Proofs.Ytdhlolcpcgpcnaa
