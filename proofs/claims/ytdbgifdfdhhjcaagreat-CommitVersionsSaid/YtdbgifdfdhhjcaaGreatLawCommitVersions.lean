/- Whatever versions are installed and taken back, each page has just those that were installed and not taken back: for all steps. -/
import Derived.Test.YtdbgifdfdhhjcaaGreatRows
import Derived.Test.YtdbgifdfdhhjcaaGreatV00
import Derived.Test.YtdbgifdfdhhjcaaGreatV01
import Derived.Test.YtdbgifdfdhhjcaaGreatV02
import Derived.Test.YtdbgifdfdhhjcaaGreatV03
import Derived.Test.YtdbgifdfdhhjcaaGreatV04
import Derived.Test.YtdbgifdfdhhjcaaGreatV05
import Derived.Test.YtdbgifdfdhhjcaaGreatV06
import Derived.Test.YtdbgifdfdhhjcaaGreatV07
import Derived.Test.YtdbgifdfdhhjcaaGreatV08
import Derived.Test.YtdbgifdfdhhjcaaGreatV09
import Derived.Test.YtdbgifdfdhhjcaaGreatV10
import Derived.Test.YtdbgifdfdhhjcaaGreatV11
import Derived.Test.YtdbgifdfdhhjcaaGreatV12
import Derived.Test.YtdbgifdfdhhjcaaGreatV13
import Derived.Test.YtdbgifdfdhhjcaaGreatV14
import Derived.Test.YtdbgifdfdhhjcaaGreatV15
import Derived.Test.YtdbgifdfdhhjcaaGreatV16
import Derived.Test.YtdbgifdfdhhjcaaGreatV17
import Derived.Test.YtdbgifdfdhhjcaaGreatFJA
import Derived.Test.YtdbgifdfdhhjcaaGreatFJCommitVersions
import Derived.WalkKit
import Derived.ProofKit
import Derived.OpenShut
import Derived.ShutString
import Derived.ChangeOld
import Derived.Below
import Derived.Carry
import Derived.SizedLaws
namespace Go.Proofs.YtdbgifdfdhhjcaaGreat.commitVersions
open Go.ChangeShapes Go.WideShapes Go.ChangeAt Go.RowKit Go.Ab
open Go.ChangeMaps (open_string shut_string)
set_option linter.unusedVariables false
set_option linter.unusedSimpArgs false
theorem own : ownKnob Tryz.prog.godebug = none := by kernel_rfl
set_option maxRecDepth 100000 in
theorem lifted (os : Os) (started : os.Started) (H : Type) (enc : TypeId × Value → H) :
    ReturnsInHanded {} Tryz.checked os 4 .any (Rows.commitVersionsSpec.pre6 enc Tryz.prog Tryz.f4 Rows.commitVersionsRow.domain false) (Rows.commitVersionsSpec.post enc Tryz.prog Tryz.f4 false true false false) := by
  refine returnsInHanded_of_change_sized (C := Tryz.checked) own started (by kernel_rfl) Tryz.func4
    (ChangeSpec.witness6 (enc := enc) (C := Tryz.checked) false ⟨#[], #[.int .u8 0, .int .u8 0, .slice none 0 0], []⟩ 8 (by kernel_rfl) (by kernel_rfl) (by kernel_rfl) (by kernel_rfl)) ?_
  intro W base args ds gs before hval0 hW hcnd hsz0 _
  have hsz : (DataW.weightsEach Tryz.prog (Tryz.f4.params.toList ++ Rows.commitVersionsSpec.plain.varTypes Tryz.prog) (ds ++ gs)).all (· ≤ reachBytes) = true := hsz0
  have hval : ∀ (j : Nat) t v, Tryz.f4.params[j]? = some t → args[j]? = some v → Value.okWide Tryz.prog W .any base t v := hval0
  have hW' := hW
  obtain ⟨p, q, hA0, hV, rfl, hfz, hnd⟩ := hW
  have hA : DataW.TrodAll enc Tryz.prog W 0 (fun _ => true) true Tryz.f4.params.toList args.toList ds p := hA0
  rw [Tryz.params4] at hA hval hsz
  obtain ⟨v0, vs0, d0, ds0, p0, q0, hargs, rfl, rfl, h0, r0⟩ := trodAll_cons hA
  obtain ⟨v1, vs1, d1, ds1, p1, q1, rfl, rfl, rfl, h1, r1⟩ := trodAll_cons r0
  obtain ⟨v2, vs2, d2, ds2, p2, q2, rfl, rfl, rfl, h2, r2⟩ := trodAll_cons r1
  obtain ⟨rfl, rfl, rfl⟩ := trodAll_nil r2
  obtain rfl : args = #[v0, v1, v2] := by cases args; simp_all
  obtain ⟨rfl, rfl⟩ := trodVars_none hV
  have hlt : ∀ x ∈ p2, x.block < W.heap.size := fun x hx => hW'.lt x (by first | simpa using hx | simp [hx])
  obtain ⟨l, hh, x, ι0, hok, hsc, F, r⟩ := Op.open_steps (hval 2 63 v2 rfl rfl) h2 (fun n hn => by simpa using List.all_eq_true.1 hsz _ (DataW.weights_mem_each (j := 2) rfl rfl n hn))
  obtain ⟨a0, rfl, rfl, rfl, w0⟩ := open_int Tryz.underlying5 (hval 0 5 v0 rfl rfl) h0
  obtain ⟨a1, rfl, rfl, rfl, w1⟩ := open_int Tryz.underlying5 (hval 1 5 v1 rfl rfl) h1
  clear hA0 hval0 hsz0 hsz
  obtain ⟨g0, g1⟩ := wf_u8 w0
  obtain ⟨g2, g3⟩ := wf_u8 w1
  have walk : Calls Ru.Pg 4 #[.int .u8 a0, .int .u8 a1, v2] W fun e w' => Below W.heap.size W w' ∧ ∃ x ι, e = .returned x ∧ rel Ru.Pg ι (.bool true) x := by
    have c := Sh.commitVersionsLaw hok (u := a0.toNat) (f := a1.toNat) (by omega) (by omega) hsc
    rw [show ((a0.toNat : Nat) : Int) = a0 by omega, show ((a1.toNat : Nat) : Int) = a1 by omega] at c
    refine (c _ ι0 W [.int .u8 a0, .int .u8 a1, v2] F (relL_cons (mk_int _ _) (relL_cons (mk_int _ _) (relL_cons r relL_nil)))).mono ?_
    rintro e w' ⟨ι', h', ae, y1, y2, y3, rfl⟩
    refine ⟨⟨y2.os, y2.tape, y2.output, y2.size, fun b hb => (y2.frame b hb).1⟩, ?_⟩
    cases e with
    | returned x => exact ⟨x, ι', rfl, y3⟩
    | panicked c => exact y3.elim
    | outgrown => exact y3.elim
  refine walk.mono fun e W' ⟨bel, x, ι, he, hx⟩ => ?_
  obtain rfl := rel_bool hx
  subst he
  have h2' := Below.trod (t := 63) jf1 (by kernel_rfl) (of_decide_eq_true (by kernel_rfl)) h2 bel hlt
  exact ⟨_, rfl, _, _, _, [], _, [], hW', trodAll_mk1 (shut_bool Tryz.underlying4 _), (trodAll_cons_mk (shut_int Tryz.underlying5 w0) (trodAll_cons_mk (shut_int Tryz.underlying5 w1) (trodAll_cons_mk h2' trodAll_mk0))), rfl, bel.frame _, fun h => by cases h⟩
theorem closed : joinedFacts Tryz.pinned.checked.prog 4 Tryz.f4 Rows.commitVersionsSpec Rows.commitVersionsRow = true := by
  show joinedFacts Tryz.prog 4 Tryz.f4 Rows.commitVersionsSpec Rows.commitVersionsRow = true
  unfold joinedFacts
  rw [jf1, jf2, jg3, jg4, jg5, jg6]
  kernel_rfl
theorem named : Tryz.pinned.checked.prog.funcNamed Rows.commitVersionsRow.func = some 4 := by kernel_rfl
theorem over : Rows.commitVersionsRow.holds Tryz.pinned (OpenSpec.ofChange Rows.commitVersionsSpec) :=
  OpenClaim.holds_of_wide 4 Tryz.f4 rfl rfl rfl rfl rfl rfl rfl ⟨rfl, rfl, rfl, rfl, rfl⟩ rfl rfl rfl rfl rfl named Tryz.func4 closed
    (of_decide_eq_true (by kernel_rfl)) (by unfold Func.isWrapper; first | (rw [if_pos (by decide +kernel)]; kernel_rfl) | (rw [if_neg (by decide +kernel)]; exact ⟨rfl, rfl⟩))
    (fun os started H enc _ => lifted os started H enc)
theorem proved : Rows.CommitVersionsSaid := over
end Go.Proofs.YtdbgifdfdhhjcaaGreat.commitVersions
namespace Go.Proofs.YtdbgifdfdhhjcaaGreat
/-- The row, under a short name, for the claim. -/
theorem commitVersions_holds : Rows.CommitVersionsSaid := commitVersions.proved
#print axioms commitVersions_holds
end Go.Proofs.YtdbgifdfdhhjcaaGreat
