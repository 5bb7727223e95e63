/- What was printed is read as it was, and what is read is printed as it stood: for all scripts and texts. -/
import Derived.Test.YtcglbpjpbjaecaaGreatRows
import Derived.Test.YtcglbpjpbjaecaaGreatB00
import Derived.Test.YtcglbpjpbjaecaaGreatB01
import Derived.Test.YtcglbpjpbjaecaaGreatB02
import Derived.Test.YtcglbpjpbjaecaaGreatB03
import Derived.Test.YtcglbpjpbjaecaaGreatB04
import Derived.Test.YtcglbpjpbjaecaaGreatB05
import Derived.Test.YtcglbpjpbjaecaaGreatB06
import Derived.Test.YtcglbpjpbjaecaaGreatB07
import Derived.Test.YtcglbpjpbjaecaaGreatB08
import Derived.Test.YtcglbpjpbjaecaaGreatB09
import Derived.Test.YtcglbpjpbjaecaaGreatB10
import Derived.Test.YtcglbpjpbjaecaaGreatB11
import Derived.Test.YtcglbpjpbjaecaaGreatB12
import Derived.Test.YtcglbpjpbjaecaaGreatB13
import Derived.Test.YtcglbpjpbjaecaaGreatB14
import Derived.Test.YtcglbpjpbjaecaaGreatB15
import Derived.Test.YtcglbpjpbjaecaaGreatB16
import Derived.Test.YtcglbpjpbjaecaaGreatB17
import Derived.Test.YtcglbpjpbjaecaaGreatB18
import Derived.Test.YtcglbpjpbjaecaaGreatB19
import Derived.Test.YtcglbpjpbjaecaaGreatB20
import Derived.Test.YtcglbpjpbjaecaaGreatB21
import Derived.Test.YtcglbpjpbjaecaaGreatB22
import Derived.Test.YtcglbpjpbjaecaaGreatB23
import Derived.Test.YtcglbpjpbjaecaaGreatB24
import Derived.Test.YtcglbpjpbjaecaaGreatB25
import Derived.Test.YtcglbpjpbjaecaaGreatB26
import Derived.Test.YtcglbpjpbjaecaaGreatB27
import Derived.Test.YtcglbpjpbjaecaaGreatB28
import Derived.Test.YtcglbpjpbjaecaaGreatB29
import Derived.Test.YtcglbpjpbjaecaaGreatB30
import Derived.Test.YtcglbpjpbjaecaaGreatFJA
import Derived.Test.YtcglbpjpbjaecaaGreatFJTaleBack
import Derived.WalkKit
import Derived.ProofKit
import Derived.OpenShut
import Derived.ShutString
import Derived.ChangeOld
import Derived.Below
import Derived.Carry
import Derived.SizedLaws
namespace Go.Proofs.YtcglbpjpbjaecaaGreat.taleBack
open Go.ChangeShapes Go.WideShapes Go.ChangeAt Go.RowKit Go.Ab
open Go.ChangeMaps (open_string shut_string)
set_option linter.unusedVariables false
set_option linter.unusedSimpArgs false
theorem own : ownKnob Tryz.prog.godebug = none := by kernel_rfl
set_option maxRecDepth 100000 in
theorem lifted (os : Os) (started : os.Started) (H : Type) (enc : TypeId × Value → H) :
    ReturnsInHanded {} Tryz.checked os 11 .any (Rows.taleBackSpec.pre6 enc Tryz.prog Tryz.f11 Rows.taleBackRow.domain false) (Rows.taleBackSpec.post enc Tryz.prog Tryz.f11 false true false false) := by
  refine returnsInHanded_of_change_sized (C := Tryz.checked) own started (by kernel_rfl) Tryz.func11
    (ChangeSpec.witness6 (enc := enc) (C := Tryz.checked) false ⟨#[], #[.slice none 0 0, .string ByteArray.empty], []⟩ 8 (by kernel_rfl) (by kernel_rfl) (by kernel_rfl) (by kernel_rfl)) ?_
  intro W base args ds gs before hval0 hW hcnd hsz0 _
  have hsz : (DataW.weightsEach Tryz.prog (Tryz.f11.params.toList ++ Rows.taleBackSpec.plain.varTypes Tryz.prog) (ds ++ gs)).all (· ≤ reachBytes) = true := hsz0
  have hval : ∀ (j : Nat) t v, Tryz.f11.params[j]? = some t → args[j]? = some v → Value.okWide Tryz.prog W .any base t v := hval0
  have hW' := hW
  obtain ⟨p, q, hA0, hV, rfl, hfz, hnd⟩ := hW
  have hA : DataW.TrodAll enc Tryz.prog W 0 (fun _ => true) true Tryz.f11.params.toList args.toList ds p := hA0
  rw [Tryz.params11] at hA hval hsz
  obtain ⟨v0, vs0, d0, ds0, p0, q0, hargs, rfl, rfl, h0, r0⟩ := trodAll_cons hA
  obtain ⟨v1, vs1, d1, ds1, p1, q1, rfl, rfl, rfl, h1, r1⟩ := trodAll_cons r0
  obtain ⟨rfl, rfl, rfl⟩ := trodAll_nil r1
  obtain rfl : args = #[v0, v1] := by cases args; simp_all
  obtain ⟨rfl, rfl⟩ := trodVars_none hV
  have hlt : ∀ x ∈ p0, x.block < W.heap.size := fun x hx => hW'.lt x (by first | simpa using hx | simp [hx])
  obtain ⟨l, hh, x, ι0, hok, hsc, F, r⟩ := Op.open_script (hval 0 84 v0 rfl rfl) h0 (fun n hn => by simpa using List.all_eq_true.1 hsz _ (DataW.weights_mem_each (j := 0) rfl rfl n hn))
  obtain ⟨a1, rfl, rfl, rfl, y1⟩ := open_string Tryz.underlying9 (hval 1 9 v1 rfl rfl) h1
  clear hA0 hval0 hsz0 hsz
  have walk : Calls Ru.Pg 11 #[v0, .string a1] W fun e w' => Below W.heap.size W w' ∧ ∃ x ι, e = .returned x ∧ rel Ru.Pg ι (.bool true) x := by
    have c := Sh.backLaw l hok a1.data.toList hsc
    refine (c _ ι0 W [v0, .string ⟨a1.data.toList.toArray⟩] F (relL_cons r (relL_cons (mk_str _) relL_nil))).mono ?_
    rintro e w' ⟨ι', h', ae, g1, g2, g3, rfl⟩
    refine ⟨⟨g2.os, g2.tape, g2.output, g2.size, fun b hb => (g2.frame b hb).1⟩, ?_⟩
    cases e with
    | returned x => exact ⟨x, ι', rfl, g3⟩
    | panicked c => exact g3.elim
    | outgrown => exact g3.elim
  refine walk.mono fun e W' ⟨bel, x, ι, he, hx⟩ => ?_
  obtain rfl := rel_bool hx
  subst he
  have h0' := Below.trod (t := 84) jf1 (by kernel_rfl) (of_decide_eq_true (by kernel_rfl)) h0 bel hlt
  exact ⟨_, rfl, _, _, _, [], _, [], hW', trodAll_mk1 (shut_bool Tryz.underlying4 _), (trodAll_cons_mk h0' (trodAll_cons_mk (shut_string Tryz.underlying9 y1) trodAll_mk0)), rfl, bel.frame _, fun h => by cases h⟩
theorem closed : joinedFacts Tryz.pinned.checked.prog 11 Tryz.f11 Rows.taleBackSpec Rows.taleBackRow = true := by
  show joinedFacts Tryz.prog 11 Tryz.f11 Rows.taleBackSpec Rows.taleBackRow = true
  unfold joinedFacts
  rw [jf1, jf2, jg3, jg4, jg5, jg6]
  kernel_rfl
theorem named : Tryz.pinned.checked.prog.funcNamed Rows.taleBackRow.func = some 11 := by kernel_rfl
theorem over : Rows.taleBackRow.holds Tryz.pinned (OpenSpec.ofChange Rows.taleBackSpec) :=
  OpenClaim.holds_of_wide 11 Tryz.f11 rfl rfl rfl rfl rfl rfl rfl ⟨rfl, rfl, rfl, rfl, rfl⟩ rfl rfl rfl rfl rfl named Tryz.func11 closed
    (of_decide_eq_true (by kernel_rfl)) (by unfold Func.isWrapper; first | (rw [if_pos (by decide +kernel)]; kernel_rfl) | (rw [if_neg (by decide +kernel)]; exact ⟨rfl, rfl⟩))
    (fun os started H enc _ => lifted os started H enc)
theorem proved : Rows.TaleBackSaid := over
end Go.Proofs.YtcglbpjpbjaecaaGreat.taleBack
namespace Go.Proofs.YtcglbpjpbjaecaaGreat
/-- The row, under a short name, for the claim. -/
theorem taleBack_holds : Rows.TaleBackSaid := taleBack.proved
#print axioms taleBack_holds
end Go.Proofs.YtcglbpjpbjaecaaGreat
