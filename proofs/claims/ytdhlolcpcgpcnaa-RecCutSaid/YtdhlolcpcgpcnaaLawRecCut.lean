/- No part ahead of a record's bytes, and nothing longer, is read as a record: for all records, ints and texts. -/
import Derived.Test.YtdhlolcpcgpcnaaRows
import Derived.Test.YtdhlolcpcgpcnaaSj
import Derived.WalkKit
import Derived.ProofKit
import Derived.OpenShut
import Derived.ShutString
import Derived.ChangeOld
import Derived.Below
import Derived.SizedLaws
namespace Go.Proofs.Ytdhlolcpcgpcnaa.recCut
open Go.ChangeShapes Go.WideShapes Go.ChangeAt Go.RowKit Go.Ab
open Go.ChangeMaps (open_string shut_string)
set_option linter.unusedVariables false
set_option linter.unusedSimpArgs false
theorem own : ownKnob Try.prog.godebug = none := by kernel_rfl
def exRec : Value := .agg (#[.int .u8 0, .bool false, .int .u16 0] ++ Array.replicate 224 (.int .u8 0) ++ #[.int .u32 0, .int .u16 0, .int .u8 0, .string ByteArray.empty, .int .u8 0, .bool false, .int .u16 0, .int .u32 0, .int .u16 0, .int .u8 0, .string ByteArray.empty])
set_option maxRecDepth 100000 in
theorem lifted (os : Os) (started : os.Started) (H : Type) (enc : TypeId × Value → H) :
    ReturnsInHanded {} Try.checked os 14 .any (Rows.recCutSpec.pre6 enc Try.prog Try.f14 Rows.recCutRow.domain false) (Rows.recCutSpec.post enc Try.prog Try.f14 false true false false) := by
  refine returnsInHanded_of_change_sized (C := Try.checked) own started (by kernel_rfl) Try.func14
    (ChangeSpec.witness6 (enc := enc) (C := Try.checked) false ⟨#[], #[exRec, .int .i64 0, .string ByteArray.empty], []⟩ 8 (by kernel_rfl) (by kernel_rfl) (by kernel_rfl) (by kernel_rfl)) ?_
  intro W base args ds gs before hval0 hW hcnd hsz0 _
  have hsz : (DataW.weightsEach Try.prog (Try.f14.params.toList ++ Rows.recCutSpec.plain.varTypes Try.prog) (ds ++ gs)).all (· ≤ reachBytes) = true := hsz0
  have hval : ∀ (j : Nat) t v, Try.f14.params[j]? = some t → args[j]? = some v → Value.okWide Try.prog W .any base t v := hval0
  have hW' := hW
  obtain ⟨p, q, hA0, hV, rfl, hfz, hnd⟩ := hW
  have hA : DataW.TrodAll enc Try.prog W 0 (fun _ => true) true Try.f14.params.toList args.toList ds p := hA0
  rw [Try.params14] at hA hval hsz
  obtain ⟨v0, vs0, d0, ds0, p0, q0, hargs, rfl, rfl, h0, r0⟩ := trodAll_cons hA
  obtain ⟨v1, vs1, d1, ds1, p1, q1, rfl, rfl, rfl, h1, r1⟩ := trodAll_cons r0
  obtain ⟨v2, vs2, d2, ds2, p2, q2, rfl, rfl, rfl, h2, r2⟩ := trodAll_cons r1
  obtain ⟨rfl, rfl, rfl⟩ := trodAll_nil r2
  obtain rfl : args = #[v0, v1, v2] := by cases args; simp_all
  obtain ⟨rfl, rfl⟩ := trodVars_none hV
  obtain ⟨rfl, ⟨y0, sh0, gd0, rl0⟩, same0⟩ := open_flat (P := Sh.Pg) Sh.okP.lay (M := reachBytes) Sh.flat51 h0 (fun n hn => by simpa using List.all_eq_true.1 hsz _ (DataW.weights_mem_each (j := 0) rfl rfl n hn))
  obtain ⟨a0, rfl, ok0⟩ := Sh.rc_of (by decide) sh0 gd0
  have rel0 : ∀ ι, rel Sh.Pg ι a0.v v0 := by
    have z := hval 0 51 v0 rfl rfl
    simp only [Value.okWide, Try.underlying51] at z
    obtain ⟨cs, rfl, _⟩ := z
    exact fun ι => .inr ⟨rfl, rl0 ι⟩
  obtain ⟨a1, rfl, rfl, rfl, w1⟩ := open_int Try.underlying3 (hval 1 3 v1 rfl rfl) h1
  obtain ⟨a2, rfl, rfl, rfl, y2⟩ := open_string Try.underlying9 (hval 2 9 v2 rfl rfl) h2
  have w2 : a2.size ≤ 140737488351232 := by
    have z := sized_string hsz (j := 2) (t := 9) rfl rfl
    rw [Array.length_toList] at z
    exact z
  clear hA0 hval0 hsz0 hsz
  have walk : Calls Sh.Pg 14 #[v0, .int .i64 a1, .string a2] W fun e w' => Below W.heap.size W w' ∧ ∃ x ι, e = .returned x ∧ rel Sh.Pg ι (.bool true) x := by
    have c : ACalls Sh.Pg 14 [a0.v, .int .i64 a1, .str a2.data.toList] AH0 fun e _ => e = .ret (.bool true) := by
      have s2 : a2.data.toList.length ≤ 140737488351232 := by
        have w := w2
        rw [Array.length_toList]; exact w
      exact Sh.cutLaw a0 ok0 a1 _ s2
    have r : ∀ ι, relL Sh.Pg ι [a0.v, .int .i64 a1, .str a2.data.toList] [v0, .int .i64 a1, .string ⟨a2.data.toList.toArray⟩] := fun ι => (relL_cons (rel0 _) (relL_cons (mk_int _ _) (relL_cons (mk_str _) relL_nil)))
    exact calls_flat (P := Sh.Pg) (W := W) r c
  refine walk.mono fun e W' ⟨bel, x, ι, he, hx⟩ => ?_
  obtain rfl := rel_bool hx
  subst he
  exact ⟨_, rfl, _, _, _, [], _, [], hW', trodAll_mk1 (shut_bool Try.underlying4 _), (trodAll_cons_mk (same0 _ _ _ _) (trodAll_cons_mk (shut_int Try.underlying3 w1) (trodAll_cons_mk (shut_string Try.underlying9 y2) trodAll_mk0))), rfl, bel.frame _, fun h => by cases h⟩
theorem over : Rows.recCutRow.holds Try.pinned (OpenSpec.ofChange Rows.recCutSpec) :=
  OpenClaim.holds_of_wide 14 Try.f14 rfl rfl rfl rfl rfl rfl rfl ⟨rfl, rfl, rfl, rfl, rfl⟩ rfl rfl rfl rfl rfl (by kernel_rfl) Try.func14 (by kernel_rfl)
    (of_decide_eq_true (by kernel_rfl)) (by unfold Func.isWrapper; first | (rw [if_pos (by decide +kernel)]; kernel_rfl) | (rw [if_neg (by decide +kernel)]; exact ⟨rfl, rfl⟩))
    (fun os started H enc _ => lifted os started H enc)
theorem proved : Rows.RecCutSaid := over
end Go.Proofs.Ytdhlolcpcgpcnaa.recCut
namespace Go.Proofs.Ytdhlolcpcgpcnaa
/-- The row, under a short name, for the claim. -/
theorem recCut_holds : Rows.RecCutSaid := recCut.proved
#print axioms recCut_holds
end Go.Proofs.Ytdhlolcpcgpcnaa
