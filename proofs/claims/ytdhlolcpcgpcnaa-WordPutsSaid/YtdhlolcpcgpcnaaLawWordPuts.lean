/- Any number is laid in any number of bytes as the document says; so is the number of how many it takes: for all numbers of 64 bits and all ints. -/
import Derived.Test.YtdhlolcpcgpcnaaRows
import Derived.Test.YtdhlolcpcgpcnaaWb
import Derived.WalkKit
import Derived.ProofKit
import Derived.OpenShut
import Derived.ShutString
import Derived.ChangeOld
import Derived.Below
import Derived.SizedLaws
namespace Go.Proofs.Ytdhlolcpcgpcnaa.wordPuts
open Go.ChangeShapes Go.WideShapes Go.ChangeAt Go.RowKit Go.Ab
open Go.ChangeMaps (open_string shut_string)
set_option linter.unusedVariables false
set_option linter.unusedSimpArgs false
theorem own : ownKnob Try.prog.godebug = none := by kernel_rfl
set_option maxRecDepth 100000 in
theorem lifted (os : Os) (started : os.Started) (H : Type) (enc : TypeId × Value → H) :
    ReturnsInHanded {} Try.checked os 6 .any (Rows.wordPutsSpec.pre6 enc Try.prog Try.f6 Rows.wordPutsRow.domain false) (Rows.wordPutsSpec.post enc Try.prog Try.f6 false true false false) := by
  refine returnsInHanded_of_change_sized (C := Try.checked) own started (by kernel_rfl) Try.func6
    (ChangeSpec.witness6 (enc := enc) (C := Try.checked) false ⟨#[], #[.int .u64 0, .int .i64 0], []⟩ 8 (by kernel_rfl) (by kernel_rfl) (by kernel_rfl) (by kernel_rfl)) ?_
  intro W base args ds gs before hval0 hW hcnd hsz0 _
  have hsz : (DataW.weightsEach Try.prog (Try.f6.params.toList ++ Rows.wordPutsSpec.plain.varTypes Try.prog) (ds ++ gs)).all (· ≤ reachBytes) = true := hsz0
  have hval : ∀ (j : Nat) t v, Try.f6.params[j]? = some t → args[j]? = some v → Value.okWide Try.prog W .any base t v := hval0
  have hW' := hW
  obtain ⟨p, q, hA0, hV, rfl, hfz, hnd⟩ := hW
  have hA : DataW.TrodAll enc Try.prog W 0 (fun _ => true) true Try.f6.params.toList args.toList ds p := hA0
  rw [Try.params6] at hA hval hsz
  obtain ⟨v0, vs0, d0, ds0, p0, q0, hargs, rfl, rfl, h0, r0⟩ := trodAll_cons hA
  obtain ⟨v1, vs1, d1, ds1, p1, q1, rfl, rfl, rfl, h1, r1⟩ := trodAll_cons r0
  obtain ⟨rfl, rfl, rfl⟩ := trodAll_nil r1
  obtain rfl : args = #[v0, v1] := by cases args; simp_all
  obtain ⟨rfl, rfl⟩ := trodVars_none hV
  obtain ⟨a0, rfl, rfl, rfl, w0⟩ := open_int Try.underlying22 (hval 0 22 v0 rfl rfl) h0
  obtain ⟨a1, rfl, rfl, rfl, w1⟩ := open_int Try.underlying3 (hval 1 3 v1 rfl rfl) h1
  clear hA0 hval0 hsz0 hsz
  have walk : Calls Sh.Pg 6 #[.int .u64 a0, .int .i64 a1] W fun e w' => Below W.heap.size W w' ∧ ∃ x ι, e = .returned x ∧ rel Sh.Pg ι (.bool true) x := by
    have c : ACalls Sh.Pg 6 [.int .u64 a0, .int .i64 a1] AH0 fun e _ => e = .ret (.bool true) := by
      have z0 : 0 ≤ a0 ∧ a0 < 18446744073709551616 := by
        have w := w0
        simp [Lit.wf, IntKind.min, IntKind.max, IntKind.signed, IntKind.bits] at w; omega
      obtain ⟨n0, hn0⟩ := Int.eq_ofNat_of_zero_le z0.1
      rw [hn0]
      exact Sh.putsLaw n0 a1 (by omega)
    have r : ∀ ι, relL Sh.Pg ι [.int .u64 a0, .int .i64 a1] [.int .u64 a0, .int .i64 a1] := fun ι => (relL_cons (mk_int _ _) (relL_cons (mk_int _ _) relL_nil))
    exact calls_flat (P := Sh.Pg) (W := W) r c
  refine walk.mono fun e W' ⟨bel, x, ι, he, hx⟩ => ?_
  obtain rfl := rel_bool hx
  subst he
  exact ⟨_, rfl, _, _, _, [], _, [], hW', trodAll_mk1 (shut_bool Try.underlying4 _), (trodAll_cons_mk (shut_int Try.underlying22 w0) (trodAll_cons_mk (shut_int Try.underlying3 w1) trodAll_mk0)), rfl, bel.frame _, fun h => by cases h⟩
theorem over : Rows.wordPutsRow.holds Try.pinned (OpenSpec.ofChange Rows.wordPutsSpec) :=
  OpenClaim.holds_of_wide 6 Try.f6 rfl rfl rfl rfl rfl rfl rfl ⟨rfl, rfl, rfl, rfl, rfl⟩ rfl rfl rfl rfl rfl (by kernel_rfl) Try.func6 (by kernel_rfl)
    (of_decide_eq_true (by kernel_rfl)) (by unfold Func.isWrapper; first | (rw [if_pos (by decide +kernel)]; kernel_rfl) | (rw [if_neg (by decide +kernel)]; exact ⟨rfl, rfl⟩))
    (fun os started H enc _ => lifted os started H enc)
theorem proved : Rows.WordPutsSaid := over
end Go.Proofs.Ytdhlolcpcgpcnaa.wordPuts
namespace Go.Proofs.Ytdhlolcpcgpcnaa
/-- The row, under a short name, for the claim. -/
theorem wordPuts_holds : Rows.WordPutsSaid := wordPuts.proved
#print axioms wordPuts_holds
end Go.Proofs.Ytdhlolcpcgpcnaa
