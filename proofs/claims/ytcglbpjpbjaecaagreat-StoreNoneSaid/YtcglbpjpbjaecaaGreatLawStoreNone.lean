/- A store that is not there does nothing, and the stores that are there are awake: for all calls. -/
import Derived.Test.YtcglbpjpbjaecaaGreatRows
import Derived.Test.YtcglbpjpbjaecaaGreatS00
import Derived.Test.YtcglbpjpbjaecaaGreatS01
import Derived.Test.YtcglbpjpbjaecaaGreatS02
import Derived.Test.YtcglbpjpbjaecaaGreatS03
import Derived.Test.YtcglbpjpbjaecaaGreatS04
import Derived.Test.YtcglbpjpbjaecaaGreatS05
import Derived.Test.YtcglbpjpbjaecaaGreatS06
import Derived.Test.YtcglbpjpbjaecaaGreatS07
import Derived.Test.YtcglbpjpbjaecaaGreatS08
import Derived.Test.YtcglbpjpbjaecaaGreatS09
import Derived.Test.YtcglbpjpbjaecaaGreatS10
import Derived.Test.YtcglbpjpbjaecaaGreatS11
import Derived.Test.YtcglbpjpbjaecaaGreatS12
import Derived.Test.YtcglbpjpbjaecaaGreatS13
import Derived.Test.YtcglbpjpbjaecaaGreatS14
import Derived.Test.YtcglbpjpbjaecaaGreatS15
import Derived.Test.YtcglbpjpbjaecaaGreatS16
import Derived.Test.YtcglbpjpbjaecaaGreatS17
import Derived.Test.YtcglbpjpbjaecaaGreatS18
import Derived.Test.YtcglbpjpbjaecaaGreatS19
import Derived.Test.YtcglbpjpbjaecaaGreatS20
import Derived.Test.YtcglbpjpbjaecaaGreatS21
import Derived.Test.YtcglbpjpbjaecaaGreatS22
import Derived.Test.YtcglbpjpbjaecaaGreatS23
import Derived.Test.YtcglbpjpbjaecaaGreatS24
import Derived.Test.YtcglbpjpbjaecaaGreatS25
import Derived.Test.YtcglbpjpbjaecaaGreatS26
import Derived.Test.YtcglbpjpbjaecaaGreatS27
import Derived.Test.YtcglbpjpbjaecaaGreatS28
import Derived.Test.YtcglbpjpbjaecaaGreatS29
import Derived.Test.YtcglbpjpbjaecaaGreatS30
import Derived.Test.YtcglbpjpbjaecaaGreatS31
import Derived.Test.YtcglbpjpbjaecaaGreatS32
import Derived.Test.YtcglbpjpbjaecaaGreatS33
import Derived.Test.YtcglbpjpbjaecaaGreatS34
import Derived.Test.YtcglbpjpbjaecaaGreatS35
import Derived.Test.YtcglbpjpbjaecaaGreatS36
import Derived.Test.YtcglbpjpbjaecaaGreatS37
import Derived.Test.YtcglbpjpbjaecaaGreatS38
import Derived.Test.YtcglbpjpbjaecaaGreatS39
import Derived.Test.YtcglbpjpbjaecaaGreatS40
import Derived.Test.YtcglbpjpbjaecaaGreatS41
import Derived.Test.YtcglbpjpbjaecaaGreatS42
import Derived.Test.YtcglbpjpbjaecaaGreatS43
import Derived.Test.YtcglbpjpbjaecaaGreatS44
import Derived.Test.YtcglbpjpbjaecaaGreatS45
import Derived.Test.YtcglbpjpbjaecaaGreatS46
import Derived.Test.YtcglbpjpbjaecaaGreatS47
import Derived.Test.YtcglbpjpbjaecaaGreatS48
import Derived.Test.YtcglbpjpbjaecaaGreatFJA
import Derived.Test.YtcglbpjpbjaecaaGreatFJStoreNone
import Derived.WalkKit
import Derived.ProofKit
import Derived.OpenShut
import Derived.ShutString
import Derived.ChangeOld
import Derived.Below
import Derived.Carry
import Derived.SizedLaws
namespace Go.Proofs.YtcglbpjpbjaecaaGreat.storeNone
open Go.ChangeShapes Go.WideShapes Go.ChangeAt Go.RowKit Go.Ab
open Go.ChangeMaps (open_string shut_string)
set_option linter.unusedVariables false
set_option linter.unusedSimpArgs false
theorem own : ownKnob Tryz.prog.godebug = none := by kernel_rfl
set_option maxRecDepth 100000 in
theorem lifted (os : Os) (started : os.Started) (H : Type) (enc : TypeId × Value → H) :
    ReturnsInHanded {} Tryz.checked os 5 .any (Rows.storeNoneSpec.pre6 enc Tryz.prog Tryz.f5 Rows.storeNoneRow.domain false) (Rows.storeNoneSpec.post enc Tryz.prog Tryz.f5 false true false false) := by
  refine returnsInHanded_of_change_sized (C := Tryz.checked) own started (by kernel_rfl) Tryz.func5
    (ChangeSpec.witness6 (enc := enc) (C := Tryz.checked) false ⟨#[], #[.int .i64 0, .agg #[.int .u8 0, .int .u64 0, .int .u16 0, .int .i64 0, .string ByteArray.empty]], []⟩ 8 (by kernel_rfl) (by kernel_rfl) (by kernel_rfl) (by kernel_rfl)) ?_
  intro W base args ds gs before hval0 hW hcnd hsz0 _
  have hsz : (DataW.weightsEach Tryz.prog (Tryz.f5.params.toList ++ Rows.storeNoneSpec.plain.varTypes Tryz.prog) (ds ++ gs)).all (· ≤ reachBytes) = true := hsz0
  have hval : ∀ (j : Nat) t v, Tryz.f5.params[j]? = some t → args[j]? = some v → Value.okWide Tryz.prog W .any base t v := hval0
  have hW' := hW
  obtain ⟨p, q, hA0, hV, rfl, hfz, hnd⟩ := hW
  have hA : DataW.TrodAll enc Tryz.prog W 0 (fun _ => true) true Tryz.f5.params.toList args.toList ds p := hA0
  rw [Tryz.params5] at hA hval hsz
  obtain ⟨v0, vs0, d0, ds0, p0, q0, hargs, rfl, rfl, h0, r0⟩ := trodAll_cons hA
  obtain ⟨v1, vs1, d1, ds1, p1, q1, rfl, rfl, rfl, h1, r1⟩ := trodAll_cons r0
  obtain ⟨rfl, rfl, rfl⟩ := trodAll_nil r1
  obtain rfl : args = #[v0, v1] := by cases args; simp_all
  obtain ⟨rfl, rfl⟩ := trodVars_none hV
  obtain ⟨a0, rfl, rfl, rfl, w0⟩ := open_int Tryz.underlying3 (hval 0 3 v0 rfl rfl) h0
  obtain ⟨rfl, ⟨y1, sh1, gd1, rl1⟩, same1⟩ := open_flat (P := Ru.Pg) Ru.okP.lay (M := reachBytes) Sh.flat57 h1 (fun n hn => by simpa using List.all_eq_true.1 hsz _ (DataW.weights_mem_each (j := 1) rfl rfl n hn))
  have rel1 : ∀ ι, rel Ru.Pg ι y1 v1 := by
    have z := hval 1 57 v1 rfl rfl
    simp only [Value.okWide, Tryz.underlying57] at z
    obtain ⟨cs, rfl, _⟩ := z
    obtain ⟨l, rfl⟩ := Sh.agg57 sh1
    exact fun ι => .inr ⟨rfl, rl1 ι⟩
  clear hA0 hval0 hsz0 hsz
  have walk : Calls Ru.Pg 5 #[.int .i64 a0, v1] W fun e w' => Below W.heap.size W w' ∧ ∃ x ι, e = .returned x ∧ rel Ru.Pg ι (.bool true) x := by
    have c := Sh.storeLaw (.int .i64 a0) y1 sh1
    have r : ∀ ι, relL Ru.Pg ι [.int .i64 a0, y1] [.int .i64 a0, v1] := fun ι => relL_cons (mk_int _ _) (relL_cons (rel1 _) relL_nil)
    exact calls_flat (P := Ru.Pg) (W := W) r c
  refine walk.mono fun e W' ⟨bel, x, ι, he, hx⟩ => ?_
  obtain rfl := rel_bool hx
  subst he
  exact ⟨_, rfl, _, _, _, [], _, [], hW', trodAll_mk1 (shut_bool Tryz.underlying4 _), (trodAll_cons_mk (shut_int Tryz.underlying3 w0) (trodAll_cons_mk (same1 _ _ _ _) trodAll_mk0)), rfl, bel.frame _, fun h => by cases h⟩
theorem closed : joinedFacts Tryz.pinned.checked.prog 5 Tryz.f5 Rows.storeNoneSpec Rows.storeNoneRow = true := by
  show joinedFacts Tryz.prog 5 Tryz.f5 Rows.storeNoneSpec Rows.storeNoneRow = true
  unfold joinedFacts
  rw [jf1, jf2, jg3, jg4, jg5, jg6]
  kernel_rfl
theorem named : Tryz.pinned.checked.prog.funcNamed Rows.storeNoneRow.func = some 5 := by kernel_rfl
theorem over : Rows.storeNoneRow.holds Tryz.pinned (OpenSpec.ofChange Rows.storeNoneSpec) :=
  OpenClaim.holds_of_wide 5 Tryz.f5 rfl rfl rfl rfl rfl rfl rfl ⟨rfl, rfl, rfl, rfl, rfl⟩ rfl rfl rfl rfl rfl named Tryz.func5 closed
    (of_decide_eq_true (by kernel_rfl)) (by unfold Func.isWrapper; first | (rw [if_pos (by decide +kernel)]; kernel_rfl) | (rw [if_neg (by decide +kernel)]; exact ⟨rfl, rfl⟩))
    (fun os started H enc _ => lifted os started H enc)
theorem proved : Rows.StoreNoneSaid := over
end Go.Proofs.YtcglbpjpbjaecaaGreat.storeNone
namespace Go.Proofs.YtcglbpjpbjaecaaGreat
/-- The row, under a short name, for the claim. -/
theorem storeNone_holds : Rows.StoreNoneSaid := storeNone.proved
#print axioms storeNone_holds
end Go.Proofs.YtcglbpjpbjaecaaGreat
