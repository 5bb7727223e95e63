-- Begun as a text of print.sh; one line is changed by hand: a sum that cannot wrap.
import Derived.Test.YtdhlolcpcgpcnaaPWordBackx0
import Derived.Test.YtdhlolcpcgpcnaaPWordBackx1
import Derived.Test.YtdhlolcpcgpcnaaPWordBackx2
namespace Go.Proofs.Ytdhlolcpcgpcnaa.PWordBack
open Go.RowKit Go.Proofs.YtdhlolcpcgpcnaaW.PrintWords Go.Proofs.YtdhlolcpcgpcnaaW.PrintLast Go.Proofs.YtdhlolcpcgpcnaaW.PrintMore
attribute [local go_sem] max2_int min2_int max_two min_two max_three min_three max_four min_four   -- for this text's walks alone
set_option linter.unusedVariables false
set_option linter.unusedSimpArgs false

/-- A sum of two sizes that a string's size allows doesn't wrap. -/
theorem sum_whole {a b : Nat} (h : a + b ≤ 9223372036854775807) : wrap64 ((a : Int) + (b : Int)) = (a : Int) + (b : Int) := by simp only [wrap64]; omega

/-! ### varvelaw01_WordBack: function 9 -/
mutual
def varvelaw01_WordBack.j0 : Nat → Int → Int → ByteArray → ByteArray → Bool → Option (Bool)
  | 0, _, _, _, _, _ => none
  | k + 1, x0, x1, x2, x3, x22 => if x22 = true then ((varvelaw01_awake.f k).bind fun t116 => (some t116)) else ((word_Var.f k x0).bind fun t117 => (if x2.size + t117.size ≤ 9223372036854775807 then (if (x2 ++ t117).size + x3.size ≤ 9223372036854775807 then ((word_TakeVar.f k ((x2 ++ t117) ++ x3) (x2.size : Int)).bind fun bt118 => (if bt118.2.2 = true then (if bt118.1 = x0 then (varvelaw01_WordBack.j1 k x0 x1 x2 x3 (bt118.2.1 != (wrap64 ((x2.size : Int) + (t117.size : Int))))) else (varvelaw01_WordBack.j1 k x0 x1 x2 x3 true)) else (varvelaw01_WordBack.j1 k x0 x1 x2 x3 true))) else (none)) else (none)))
def varvelaw01_WordBack.j1 : Nat → Int → Int → ByteArray → ByteArray → Bool → Option (Bool)
  | 0, _, _, _, _, _ => none
  | k + 1, x0, x1, x2, x3, x53 => if x53 = true then (some false) else ((word_Width.f k x0).bind fun t121 => (if x1 < t121 then (varvelaw01_WordBack.j2 k x0 x1 x2 x3 true) else (varvelaw01_WordBack.j2 k x0 x1 x2 x3 (decide (x1 > 8)))))
def varvelaw01_WordBack.j2 : Nat → Int → Int → ByteArray → ByteArray → Bool → Option (Bool)
  | 0, _, _, _, _, _ => none
  | k + 1, x0, x1, x2, x3, x61 => if x61 = true then ((varvelaw01_awake.f k).bind fun t122 => (some t122)) else ((word_Put.f k x0 x1).bind fun t123 => (if x2.size + t123.size ≤ 9223372036854775807 then (if (x2 ++ t123).size + x3.size ≤ 9223372036854775807 then ((word_Get.f k ((x2 ++ t123) ++ x3) (x2.size : Int) x1).bind fun bt124 => (if bt124.2 = true then (some (bt124.1 == x0)) else (some false))) else (none)) else (none)))
end
def varvelaw01_WordBack.f (k : Nat) (a0 : Int) (a1 : Int) (a2 : ByteArray) (a3 : ByteArray) : Option (Bool) := if (a2.size : Int) > 65536 then (varvelaw01_WordBack.j0 k a0 a1 a2 a3 true) else (varvelaw01_WordBack.j0 k a0 a1 a2 a3 (decide ((a3.size : Int) > 65536)))
theorem varvelaw01_WordBack.mono_l : ∀ k, (∀ y0 y1 y2 y3 y4, LeO (varvelaw01_WordBack.j0 k y0 y1 y2 y3 y4) (varvelaw01_WordBack.j0 (k + 1) y0 y1 y2 y3 y4)) ∧ (∀ y0 y1 y2 y3 y4, LeO (varvelaw01_WordBack.j1 k y0 y1 y2 y3 y4) (varvelaw01_WordBack.j1 (k + 1) y0 y1 y2 y3 y4)) ∧ (∀ y0 y1 y2 y3 y4, LeO (varvelaw01_WordBack.j2 k y0 y1 y2 y3 y4) (varvelaw01_WordBack.j2 (k + 1) y0 y1 y2 y3 y4))
  | 0 => ⟨fun _ _ _ _ _ r h => by simp [varvelaw01_WordBack.j0] at h, fun _ _ _ _ _ r h => by simp [varvelaw01_WordBack.j1] at h, fun _ _ _ _ _ r h => by simp [varvelaw01_WordBack.j2] at h⟩
  | k + 1 => by
    obtain ⟨ih0, ih1, ih2⟩ := varvelaw01_WordBack.mono_l k
    refine ⟨?_, ?_, ?_⟩
    · intro y0 y1 y2 y3 y4
      unfold varvelaw01_WordBack.j0
      repeat' first
      | (with_reducible exact ih0 _ _ _ _ _)
      | (with_reducible exact ih1 _ _ _ _ _)
      | (with_reducible exact ih2 _ _ _ _ _)
      | (with_reducible exact varvelaw01_awake.mono _)
      | (with_reducible exact word_Get.mono _ _ _ _)
      | (with_reducible exact word_Put.mono _ _ _)
      | (with_reducible exact word_TakeVar.mono _ _ _)
      | (with_reducible exact word_Var.mono _ _)
      | (with_reducible exact word_Width.mono _ _)
      | (with_reducible exact LeO.refl _)
      | (with_reducible exact LeO.none _)
      | (with_reducible refine LeO.ite ?_ ?_)
      | (with_reducible refine LeO.bind ?_ (fun _ => ?_))
      | exact ih0 _ _ _ _ _
      | exact ih1 _ _ _ _ _
      | exact ih2 _ _ _ _ _
      | exact varvelaw01_awake.mono _
      | exact word_Get.mono _ _ _ _
      | exact word_Put.mono _ _ _
      | exact word_TakeVar.mono _ _ _
      | exact word_Var.mono _ _
      | exact word_Width.mono _ _
      | exact LeO.none _
      | refine LeO.ite ?_ ?_
      | refine LeO.bind ?_ (fun _ => ?_)
    · intro y0 y1 y2 y3 y4
      unfold varvelaw01_WordBack.j1
      repeat' first
      | (with_reducible exact ih0 _ _ _ _ _)
      | (with_reducible exact ih1 _ _ _ _ _)
      | (with_reducible exact ih2 _ _ _ _ _)
      | (with_reducible exact varvelaw01_awake.mono _)
      | (with_reducible exact word_Get.mono _ _ _ _)
      | (with_reducible exact word_Put.mono _ _ _)
      | (with_reducible exact word_TakeVar.mono _ _ _)
      | (with_reducible exact word_Var.mono _ _)
      | (with_reducible exact word_Width.mono _ _)
      | (with_reducible exact LeO.refl _)
      | (with_reducible exact LeO.none _)
      | (with_reducible refine LeO.ite ?_ ?_)
      | (with_reducible refine LeO.bind ?_ (fun _ => ?_))
      | exact ih0 _ _ _ _ _
      | exact ih1 _ _ _ _ _
      | exact ih2 _ _ _ _ _
      | exact varvelaw01_awake.mono _
      | exact word_Get.mono _ _ _ _
      | exact word_Put.mono _ _ _
      | exact word_TakeVar.mono _ _ _
      | exact word_Var.mono _ _
      | exact word_Width.mono _ _
      | exact LeO.none _
      | refine LeO.ite ?_ ?_
      | refine LeO.bind ?_ (fun _ => ?_)
    · intro y0 y1 y2 y3 y4
      unfold varvelaw01_WordBack.j2
      repeat' first
      | (with_reducible exact ih0 _ _ _ _ _)
      | (with_reducible exact ih1 _ _ _ _ _)
      | (with_reducible exact ih2 _ _ _ _ _)
      | (with_reducible exact varvelaw01_awake.mono _)
      | (with_reducible exact word_Get.mono _ _ _ _)
      | (with_reducible exact word_Put.mono _ _ _)
      | (with_reducible exact word_TakeVar.mono _ _ _)
      | (with_reducible exact word_Var.mono _ _)
      | (with_reducible exact word_Width.mono _ _)
      | (with_reducible exact LeO.refl _)
      | (with_reducible exact LeO.none _)
      | (with_reducible refine LeO.ite ?_ ?_)
      | (with_reducible refine LeO.bind ?_ (fun _ => ?_))
      | exact ih0 _ _ _ _ _
      | exact ih1 _ _ _ _ _
      | exact ih2 _ _ _ _ _
      | exact varvelaw01_awake.mono _
      | exact word_Get.mono _ _ _ _
      | exact word_Put.mono _ _ _
      | exact word_TakeVar.mono _ _ _
      | exact word_Var.mono _ _
      | exact word_Width.mono _ _
      | exact LeO.none _
      | refine LeO.ite ?_ ?_
      | refine LeO.bind ?_ (fun _ => ?_)
theorem varvelaw01_WordBack.mono : ∀ a0 a1 a2 a3 k, LeO (varvelaw01_WordBack.f k a0 a1 a2 a3) (varvelaw01_WordBack.f (k + 1) a0 a1 a2 a3) := by
  intro a0 a1 a2 a3 k
  obtain ⟨ih0, ih1, ih2⟩ := varvelaw01_WordBack.mono_l k
  unfold varvelaw01_WordBack.f
  repeat' first
      | (with_reducible exact ih0 _ _ _ _ _)
      | (with_reducible exact ih1 _ _ _ _ _)
      | (with_reducible exact ih2 _ _ _ _ _)
      | (with_reducible exact varvelaw01_awake.mono _)
      | (with_reducible exact word_Get.mono _ _ _ _)
      | (with_reducible exact word_Put.mono _ _ _)
      | (with_reducible exact word_TakeVar.mono _ _ _)
      | (with_reducible exact word_Var.mono _ _)
      | (with_reducible exact word_Width.mono _ _)
      | (with_reducible exact LeO.refl _)
      | (with_reducible exact LeO.none _)
      | (with_reducible refine LeO.ite ?_ ?_)
      | (with_reducible refine LeO.bind ?_ (fun _ => ?_))
      | exact ih0 _ _ _ _ _
      | exact ih1 _ _ _ _ _
      | exact ih2 _ _ _ _ _
      | exact varvelaw01_awake.mono _
      | exact word_Get.mono _ _ _ _
      | exact word_Put.mono _ _ _
      | exact word_TakeVar.mono _ _ _
      | exact word_Var.mono _ _
      | exact word_Width.mono _ _
      | exact LeO.none _
      | refine LeO.ite ?_ ?_
      | refine LeO.bind ?_ (fun _ => ?_)
set_option maxHeartbeats 8000000 in
set_option maxRecDepth 100000 in
theorem varvelaw01_WordBack.calls (k : Nat) (a0 : Int) (a1 : Int) (a2 : ByteArray) (a3 : ByteArray) (r : Bool) (w : World) (h : varvelaw01_WordBack.f k a0 a1 a2 a3 = some r) :
    Calls Try.prog 9 #[.int .u64 a0, .int .i64 a1, .string a2, .string a3] w fun e w' => e = .returned (.bool r) ∧ Below w.heap.size w w' := by
  have HB := Aside0.mk (Below.refl w.heap.size w)
  have H : (if (a2.size : Int) > 65536 then (varvelaw01_WordBack.j0 k a0 a1 a2 a3 true) else (varvelaw01_WordBack.j0 k a0 a1 a2 a3 (decide ((a3.size : Int) > 65536)))) = some r := h
  clear h
  have HC5 := Aside0.mk H
  clear H
  go_enter Try.func9, Try.ntmps9
  go_upto_region 1 with (fail)
  go_cut [22] (fun v22 wc => ∃ (kq : Nat) (x22_4 : Bool), v22 = .bool x22_4 ∧ Aside0 (varvelaw01_WordBack.j0 kq a0 a1 a2 a3 x22_4 = some r) ∧ Aside0 (kq ≤ k) ∧ Aside0 (Below w.heap.size w wc))
  case first =>
    have H := HC5.out
    clear HC5
    by_cases c6 : (a2.size : Int) > 65536
    · rw [if_pos c6] at H
      have c6b0 : decide (65536 < (a2.size : Int)) = true := decide_eq_true c6
      have c6b1 : decide (65536 < a2.size) = true := decide_eq_true (by omega)
      clear c6
      (first | rw [c6b0] | (simp only [i64_w, i32_w]; rw [c6b0]) | skip)
      have H' := Aside0.mk H
      clear H
      go_wp2
      go_meet
      case rel => exact ⟨_, (true), (by first | rfl | (simp; done) | (simp [*]; done)), H', ⟨by first | omega | exact Nat.le_refl _⟩, ⟨by repeat (first | (with_reducible first | exact HB.out | apply below_alloc | apply pw_below_drewN | apply below_drew1) | exact HB.out)⟩⟩
    · rw [if_neg c6] at H
      have c6b0 : decide (65536 < (a2.size : Int)) = false := decide_eq_false c6
      have c6b1 : decide (65536 < a2.size) = false := decide_eq_false (by omega)
      clear c6
      (first | rw [c6b0] | (simp only [i64_w, i32_w]; rw [c6b0]) | skip)
      have H' := Aside0.mk H
      clear H
      go_wp2
      go_meet
      case rel => exact ⟨_, (decide ((a3.size : Int) > 65536)), (by first | rfl | (simp; done) | (simp [*]; done)), H', ⟨by first | omega | exact Nat.le_refl _⟩, ⟨by repeat (first | (with_reducible first | exact HB.out | apply below_alloc | apply pw_below_drewN | apply below_drew1) | exact HB.out)⟩⟩
  case rest =>
    clear HC5
    try clear p2
    try clear c6
    try clear c6b0
    try clear c6b1
    obtain ⟨kq, x22_4, rfl, HA, HJ4, HB⟩ := hcut
    cases kq with
    | zero => exact absurd HA.out (by simp [varvelaw01_WordBack.j0])
    | succ kj4 =>
      have H := HA.out
      clear HA
      simp only [varvelaw01_WordBack.j0] at H
      by_cases c7 : x22_4 = true
      · subst c7
        have H1 : ((varvelaw01_awake.f kj4).bind fun t116 => (some t116)) = some r := by rw [if_pos rfl] at H; exact H
        clear H
        have H := H1
        clear H1
        replace H := Option.bind_eq_some_iff.mp H
        obtain ⟨t116, A80, H⟩ := H
        replace H : (some t116) = some r := H
        have A8 := Aside0.mk A80
        clear A80
        obtain rfl := Option.some.inj H
        go_wp2_with (first | ((with_reducible refine gate_callee (f := 28) rfl ?_); refine goesL_ (some 23) rfl rfl Try.func28 (by kernel_rfl) rfl #[] rfl (by (try simp only [List.map_toArray, List.map_cons, List.map_nil]); first | done | rfl | (simp only [List.length_drop, List.length_take]; rfl)) ?_; (with_reducible refine (varvelaw01_awake.calls kj4  t116 _ A8.out).mono ?_); rintro e w9 ⟨rfl, hb⟩; refine ⟨_, rfl, ?_⟩; have n0_ := Aside0.mk (below_step (by repeat (first | (with_reducible first | exact HB.out | apply below_alloc | apply pw_below_drewN | apply below_drew1) | exact HB.out)) hb); clear HB; have HB := n0_; clear n0_; (try clear hb); (try clear hb2); (try clear hk); (try clear hi)))
        go_ret
        exact ⟨by first | rfl | (simp [errW_none, errW_some] <;> rfl) | (simp [*, errW_none, errW_some] <;> rfl), by repeat (first | (with_reducible first | exact HB.out | apply below_alloc | apply pw_below_drewN | apply below_drew1) | exact HB.out)⟩
      · replace c7 := Bool.eq_false_iff.mpr c7
        subst c7
        have H1 : ((word_Var.f kj4 a0).bind fun t117 => (if a2.size + t117.size ≤ 9223372036854775807 then (if (a2 ++ t117).size + a3.size ≤ 9223372036854775807 then ((word_TakeVar.f kj4 ((a2 ++ t117) ++ a3) (a2.size : Int)).bind fun bt118 => (if bt118.2.2 = true then (if bt118.1 = a0 then (varvelaw01_WordBack.j1 kj4 a0 a1 a2 a3 (bt118.2.1 != (wrap64 ((a2.size : Int) + (t117.size : Int))))) else (varvelaw01_WordBack.j1 kj4 a0 a1 a2 a3 true)) else (varvelaw01_WordBack.j1 kj4 a0 a1 a2 a3 true))) else (none)) else (none))) = some r := by rw [if_neg (show ¬ (false = true) by decide)] at H; exact H
        clear H
        have H := H1
        clear H1
        replace H := Option.bind_eq_some_iff.mp H
        obtain ⟨t117, A100, H⟩ := H
        replace H : (if a2.size + t117.size ≤ 9223372036854775807 then (if (a2 ++ t117).size + a3.size ≤ 9223372036854775807 then ((word_TakeVar.f kj4 ((a2 ++ t117) ++ a3) (a2.size : Int)).bind fun bt118 => (if bt118.2.2 = true then (if bt118.1 = a0 then (varvelaw01_WordBack.j1 kj4 a0 a1 a2 a3 (bt118.2.1 != (wrap64 ((a2.size : Int) + (t117.size : Int))))) else (varvelaw01_WordBack.j1 kj4 a0 a1 a2 a3 true)) else (varvelaw01_WordBack.j1 kj4 a0 a1 a2 a3 true))) else (none)) else (none)) = some r := H
        have A10 := Aside0.mk A100
        clear A100
        by_cases c11 : a2.size + t117.size ≤ 9223372036854775807
        · rw [if_pos c11] at H
          have c11b0 := eq_true c11
          have c11b1 : decide (a2.size + t117.size ≤ 9223372036854775807) = true := decide_eq_true c11
          try have c11b2 : (9223372036854775807 < a2.size + t117.size) = False := eq_false (Nat.not_lt.2 c11)
          by_cases c12 : (a2 ++ t117).size + a3.size ≤ 9223372036854775807
          · rw [if_pos c12] at H
            have c12b0 := eq_true c12
            have c12b1 : decide ((a2 ++ t117).size + a3.size ≤ 9223372036854775807) = true := decide_eq_true c12
            try have c12b2 : (9223372036854775807 < (a2 ++ t117).size + a3.size) = False := eq_false (Nat.not_lt.2 c12)
            replace H := Option.bind_eq_some_iff.mp H
            obtain ⟨⟨t118, t119, t120⟩, A130, H⟩ := H
            replace H : (if t120 = true then (if t118 = a0 then (varvelaw01_WordBack.j1 kj4 a0 a1 a2 a3 (t119 != (wrap64 ((a2.size : Int) + (t117.size : Int))))) else (varvelaw01_WordBack.j1 kj4 a0 a1 a2 a3 true)) else (varvelaw01_WordBack.j1 kj4 a0 a1 a2 a3 true)) = some r := H
            have A13 := Aside0.mk A130
            clear A130
            have HC14 := Aside0.mk H
            clear H
            go_upto_region 5 with (first | ((with_reducible refine gate_callee (f := 20) rfl ?_); refine goesL_ (some 25) rfl rfl Try.func20 (by kernel_rfl) rfl #[.int .u64 a0] rfl (by (try simp only [List.map_toArray, List.map_cons, List.map_nil]); first | done | rfl | (simp only [List.length_drop, List.length_take]; rfl)) ?_; (with_reducible refine (word_Var.calls kj4 a0 t117 _ A10.out).mono ?_); rintro e w15 ⟨rfl, hb⟩; refine ⟨_, rfl, ?_⟩; have n0_ := Aside0.mk (below_step (by repeat (first | (with_reducible first | exact HB.out | apply below_alloc | apply pw_below_drewN | apply below_drew1) | exact HB.out)) hb); clear HB; have HB := n0_; clear n0_; (try clear hb); (try clear hb2); (try clear hk); (try clear hi)) | ((with_reducible refine gate_callee (f := 25) rfl ?_); refine goesL_ (some 34) rfl rfl Try.func25 (by kernel_rfl) rfl #[.string ((a2 ++ t117) ++ a3), .int .i64 (a2.size : Int)] rfl (by (try simp only [List.map_toArray, List.map_cons, List.map_nil]); first | done | rfl | (simp only [List.length_drop, List.length_take]; rfl)) ?_; (with_reducible refine (word_TakeVar.calls kj4 ((a2 ++ t117) ++ a3) (a2.size : Int) t118 t119 t120 _ A13.out).mono ?_); rintro e w' ⟨rfl, ⟨nd, rfl⟩⟩; refine ⟨_, rfl, ?_⟩))
            (try simp only [Act.put, List.setIfInBounds_toArray, List.set_cons_zero, List.set_cons_succ])
            go_cut [53] (fun v53 wc => ∃ (kq : Nat) (x53_13 : Bool), v53 = .bool x53_13 ∧ Aside0 (varvelaw01_WordBack.j1 kq a0 a1 a2 a3 x53_13 = some r) ∧ Aside0 (kq ≤ kj4) ∧ Aside0 (Below w.heap.size w wc))
            case first =>
              have H := HC14.out
              clear HC14
              by_cases c16 : t120 = true
              · subst c16
                have H1 : (if t118 = a0 then (varvelaw01_WordBack.j1 kj4 a0 a1 a2 a3 (t119 != (wrap64 ((a2.size : Int) + (t117.size : Int))))) else (varvelaw01_WordBack.j1 kj4 a0 a1 a2 a3 true)) = some r := by rw [if_pos rfl] at H; exact H
                clear H
                have H := H1
                clear H1
                by_cases c17 : t118 = a0
                · rw [if_pos c17] at H
                  have c17b0 : (t118 == a0) = true := beq_iff_eq.mpr c17
                  have c17b1 : (t118 != a0) = false := bne_eq_false_iff_eq.mpr c17
                  clear c17
                  (first | rw [c17b0] | (simp only [i64_w, i32_w]; rw [c17b0]) | skip)
                  have H' := Aside0.mk H
                  clear H
                  go_wp2
                  go_meet
                  case rel => exact ⟨_, ((t119 != (wrap64 ((a2.size : Int) + (t117.size : Int))))), (by rw [show wrap64 ((a2.size : Int) + (t117.size : Int)) = (a2.size : Int) + (t117.size : Int) from sum_whole c11]), H', ⟨by have := HJ4.out; first | omega | exact Nat.le_refl _⟩, ⟨by repeat (first | (with_reducible first | exact HB.out | apply below_alloc | apply pw_below_drewN | apply below_drew1) | exact HB.out)⟩⟩
                · rw [if_neg c17] at H
                  have c17b0 : (t118 == a0) = false := beq_eq_false_iff_ne.mpr c17
                  have c17b1 : (t118 != a0) = true := bne_iff_ne.mpr c17
                  (first | rw [c17b0] | (simp only [i64_w, i32_w]; rw [c17b0]) | skip)
                  have H' := Aside0.mk H
                  clear H
                  go_wp2
                  go_meet
                  case rel => exact ⟨_, (true), (by first | rfl | (simp; done) | (simp [*]; done)), H', ⟨by have := HJ4.out; first | omega | exact Nat.le_refl _⟩, ⟨by repeat (first | (with_reducible first | exact HB.out | apply below_alloc | apply pw_below_drewN | apply below_drew1) | exact HB.out)⟩⟩
              · replace c16 := Bool.eq_false_iff.mpr c16
                subst c16
                have H1 : (varvelaw01_WordBack.j1 kj4 a0 a1 a2 a3 true) = some r := by rw [if_neg (show ¬ (false = true) by decide)] at H; exact H
                clear H
                have H := H1
                clear H1
                have H' := Aside0.mk H
                clear H
                go_wp2
                go_meet
                case rel => exact ⟨_, (true), (by first | rfl | (simp; done) | (simp [*]; done)), H', ⟨by have := HJ4.out; first | omega | exact Nat.le_refl _⟩, ⟨by repeat (first | (with_reducible first | exact HB.out | apply below_alloc | apply pw_below_drewN | apply below_drew1) | exact HB.out)⟩⟩
            case rest =>
              clear HC14
              try clear c1
              try clear c2
              try clear p2
              try clear c6
              try clear c6b0
              try clear c6b1
              try clear p6
              try clear c7
              try clear c9
              try clear c11
              try clear c11b0
              try clear c11b1
              try clear c11b2
              try clear c12
              try clear c12b0
              try clear c12b1
              try clear c12b2
              try clear c16
              try clear c17
              try clear c17b0
              try clear c17b1
              try clear p2
              obtain ⟨kq, x53_13, rfl, HA, HJ13, HB⟩ := hcut
              cases kq with
              | zero => exact absurd HA.out (by simp [varvelaw01_WordBack.j1])
              | succ kj13 =>
                have H := HA.out
                clear HA
                simp only [varvelaw01_WordBack.j1] at H
                by_cases c18 : x53_13 = true
                · subst c18
                  have H1 : (some false) = some r := by rw [if_pos rfl] at H; exact H
                  clear H
                  have H := H1
                  clear H1
                  obtain rfl := Option.some.inj H
                  go_wp2
                  go_ret
                  exact ⟨by first | rfl | (simp [errW_none, errW_some] <;> rfl) | (simp [*, errW_none, errW_some] <;> rfl), by repeat (first | (with_reducible first | exact HB.out | apply below_alloc | apply pw_below_drewN | apply below_drew1) | exact HB.out)⟩
                · replace c18 := Bool.eq_false_iff.mpr c18
                  subst c18
                  have H1 : ((word_Width.f kj13 a0).bind fun t121 => (if a1 < t121 then (varvelaw01_WordBack.j2 kj13 a0 a1 a2 a3 true) else (varvelaw01_WordBack.j2 kj13 a0 a1 a2 a3 (decide (a1 > 8))))) = some r := by rw [if_neg (show ¬ (false = true) by decide)] at H; exact H
                  clear H
                  have H := H1
                  clear H1
                  have HC19 := Aside0.mk H
                  clear H
                  go_upto_region 7 with (fail)
                  go_cut [61] (fun v61 wc => ∃ (kq : Nat) (x61_18 : Bool), v61 = .bool x61_18 ∧ Aside0 (varvelaw01_WordBack.j2 kq a0 a1 a2 a3 x61_18 = some r) ∧ Aside0 (kq ≤ kj13) ∧ Aside0 (Below w.heap.size w wc))
                  case first =>
                    have H := HC19.out
                    clear HC19
                    replace H := Option.bind_eq_some_iff.mp H
                    obtain ⟨t121, A200, H⟩ := H
                    replace H : (if a1 < t121 then (varvelaw01_WordBack.j2 kj13 a0 a1 a2 a3 true) else (varvelaw01_WordBack.j2 kj13 a0 a1 a2 a3 (decide (a1 > 8)))) = some r := H
                    have A20 := Aside0.mk A200
                    clear A200
                    by_cases c21 : a1 < t121
                    · rw [if_pos c21] at H
                      have c21b0 : decide (a1 < t121) = true := decide_eq_true c21
                      clear c21
                      (first | rw [c21b0] | (simp only [i64_w, i32_w]; rw [c21b0]) | skip)
                      have H' := Aside0.mk H
                      clear H
                      go_wp2_with (first | ((with_reducible refine gate_callee (f := 21) rfl ?_); refine goesL_ (some 56) rfl rfl Try.func21 (by kernel_rfl) rfl #[.int .u64 a0] rfl (by (try simp only [List.map_toArray, List.map_cons, List.map_nil]); first | done | rfl | (simp only [List.length_drop, List.length_take]; rfl)) ?_; (with_reducible refine (word_Width.calls kj13 a0 t121 _ A20.out).mono ?_); rintro e w' ⟨rfl, ⟨nd, rfl⟩⟩; refine ⟨_, rfl, ?_⟩))
                      go_meet
                      case rel => exact ⟨_, (true), (by first | rfl | (simp; done) | (simp [*]; done)), H', ⟨by have := HJ4.out; have := HJ13.out; first | omega | exact Nat.le_refl _⟩, ⟨by repeat (first | (with_reducible first | exact HB.out | apply below_alloc | apply pw_below_drewN | apply below_drew1) | exact HB.out)⟩⟩
                    · rw [if_neg c21] at H
                      have c21b0 : decide (a1 < t121) = false := decide_eq_false c21
                      clear c21
                      (first | rw [c21b0] | (simp only [i64_w, i32_w]; rw [c21b0]) | skip)
                      have H' := Aside0.mk H
                      clear H
                      go_wp2_with (first | ((with_reducible refine gate_callee (f := 21) rfl ?_); refine goesL_ (some 56) rfl rfl Try.func21 (by kernel_rfl) rfl #[.int .u64 a0] rfl (by (try simp only [List.map_toArray, List.map_cons, List.map_nil]); first | done | rfl | (simp only [List.length_drop, List.length_take]; rfl)) ?_; (with_reducible refine (word_Width.calls kj13 a0 t121 _ A20.out).mono ?_); rintro e w' ⟨rfl, ⟨nd, rfl⟩⟩; refine ⟨_, rfl, ?_⟩))
                      go_meet
                      case rel => exact ⟨_, (decide (a1 > 8)), (by first | rfl | (simp; done) | (simp [*]; done)), H', ⟨by have := HJ4.out; have := HJ13.out; first | omega | exact Nat.le_refl _⟩, ⟨by repeat (first | (with_reducible first | exact HB.out | apply below_alloc | apply pw_below_drewN | apply below_drew1) | exact HB.out)⟩⟩
                  case rest =>
                    clear HC19
                    try clear c1
                    try clear c2
                    try clear p2
                    try clear c6
                    try clear c6b0
                    try clear c6b1
                    try clear p6
                    try clear c7
                    try clear c9
                    try clear c11
                    try clear c11b0
                    try clear c11b1
                    try clear c11b2
                    try clear c12
                    try clear c12b0
                    try clear c12b1
                    try clear c12b2
                    try clear c16
                    try clear c17
                    try clear c17b0
                    try clear c17b1
                    try clear c18
                    try clear c20
                    try clear c21
                    try clear c21b0
                    try clear p2
                    try clear p6
                    obtain ⟨kq, x61_18, rfl, HA, HJ18, HB⟩ := hcut
                    cases kq with
                    | zero => exact absurd HA.out (by simp [varvelaw01_WordBack.j2])
                    | succ kj18 =>
                      have H := HA.out
                      clear HA
                      simp only [varvelaw01_WordBack.j2] at H
                      by_cases c22 : x61_18 = true
                      · subst c22
                        have H1 : ((varvelaw01_awake.f kj18).bind fun t122 => (some t122)) = some r := by rw [if_pos rfl] at H; exact H
                        clear H
                        have H := H1
                        clear H1
                        replace H := Option.bind_eq_some_iff.mp H
                        obtain ⟨t122, A230, H⟩ := H
                        replace H : (some t122) = some r := H
                        have A23 := Aside0.mk A230
                        clear A230
                        obtain rfl := Option.some.inj H
                        go_wp2_with (first | ((with_reducible refine gate_callee (f := 28) rfl ?_); refine goesL_ (some 62) rfl rfl Try.func28 (by kernel_rfl) rfl #[] rfl (by (try simp only [List.map_toArray, List.map_cons, List.map_nil]); first | done | rfl | (simp only [List.length_drop, List.length_take]; rfl)) ?_; (with_reducible refine (varvelaw01_awake.calls kj18  t122 _ A23.out).mono ?_); rintro e w24 ⟨rfl, hb⟩; refine ⟨_, rfl, ?_⟩; have n0_ := Aside0.mk (below_step (by repeat (first | (with_reducible first | exact HB.out | apply below_alloc | apply pw_below_drewN | apply below_drew1) | exact HB.out)) hb); clear HB; have HB := n0_; clear n0_; (try clear hb); (try clear hb2); (try clear hk); (try clear hi)))
                        go_ret
                        exact ⟨by first | rfl | (simp [errW_none, errW_some] <;> rfl) | (simp [*, errW_none, errW_some] <;> rfl), by repeat (first | (with_reducible first | exact HB.out | apply below_alloc | apply pw_below_drewN | apply below_drew1) | exact HB.out)⟩
                      · replace c22 := Bool.eq_false_iff.mpr c22
                        subst c22
                        have H1 : ((word_Put.f kj18 a0 a1).bind fun t123 => (if a2.size + t123.size ≤ 9223372036854775807 then (if (a2 ++ t123).size + a3.size ≤ 9223372036854775807 then ((word_Get.f kj18 ((a2 ++ t123) ++ a3) (a2.size : Int) a1).bind fun bt124 => (if bt124.2 = true then (some (bt124.1 == a0)) else (some false))) else (none)) else (none))) = some r := by rw [if_neg (show ¬ (false = true) by decide)] at H; exact H
                        clear H
                        have H := H1
                        clear H1
                        replace H := Option.bind_eq_some_iff.mp H
                        obtain ⟨t123, A250, H⟩ := H
                        replace H : (if a2.size + t123.size ≤ 9223372036854775807 then (if (a2 ++ t123).size + a3.size ≤ 9223372036854775807 then ((word_Get.f kj18 ((a2 ++ t123) ++ a3) (a2.size : Int) a1).bind fun bt124 => (if bt124.2 = true then (some (bt124.1 == a0)) else (some false))) else (none)) else (none)) = some r := H
                        have A25 := Aside0.mk A250
                        clear A250
                        by_cases c26 : a2.size + t123.size ≤ 9223372036854775807
                        · rw [if_pos c26] at H
                          have c26b0 := eq_true c26
                          have c26b1 : decide (a2.size + t123.size ≤ 9223372036854775807) = true := decide_eq_true c26
                          try have c26b2 : (9223372036854775807 < a2.size + t123.size) = False := eq_false (Nat.not_lt.2 c26)
                          by_cases c27 : (a2 ++ t123).size + a3.size ≤ 9223372036854775807
                          · rw [if_pos c27] at H
                            have c27b0 := eq_true c27
                            have c27b1 : decide ((a2 ++ t123).size + a3.size ≤ 9223372036854775807) = true := decide_eq_true c27
                            try have c27b2 : (9223372036854775807 < (a2 ++ t123).size + a3.size) = False := eq_false (Nat.not_lt.2 c27)
                            replace H := Option.bind_eq_some_iff.mp H
                            obtain ⟨⟨t124, t125⟩, A280, H⟩ := H
                            replace H : (if t125 = true then (some (t124 == a0)) else (some false)) = some r := H
                            have A28 := Aside0.mk A280
                            clear A280
                            by_cases c29 : t125 = true
                            · subst c29
                              have H1 : (some (t124 == a0)) = some r := by rw [if_pos rfl] at H; exact H
                              clear H
                              have H := H1
                              clear H1
                              obtain rfl := Option.some.inj H
                              go_wp2_with (first | ((with_reducible refine gate_callee (f := 22) rfl ?_); refine goesL_ (some 67) rfl rfl Try.func22 (by kernel_rfl) rfl #[.int .u64 a0, .int .i64 a1] rfl (by (try simp only [List.map_toArray, List.map_cons, List.map_nil]); first | done | rfl | (simp only [List.length_drop, List.length_take]; rfl)) ?_; (with_reducible refine (word_Put.calls kj18 a0 a1 t123 _ A25.out).mono ?_); rintro e w30 ⟨rfl, hb⟩; refine ⟨_, rfl, ?_⟩; have n0_ := Aside0.mk (below_step (by repeat (first | (with_reducible first | exact HB.out | apply below_alloc | apply pw_below_drewN | apply below_drew1) | exact HB.out)) hb); clear HB; have HB := n0_; clear n0_; (try clear hb); (try clear hb2); (try clear hk); (try clear hi)) | ((with_reducible refine gate_callee (f := 18) rfl ?_); refine goesL_ (some 74) rfl rfl Try.func18 (by kernel_rfl) rfl #[.string ((a2 ++ t123) ++ a3), .int .i64 (a2.size : Int), .int .i64 a1] rfl (by (try simp only [List.map_toArray, List.map_cons, List.map_nil]); first | done | rfl | (simp only [List.length_drop, List.length_take]; rfl)) ?_; (with_reducible refine (word_Get.calls kj18 ((a2 ++ t123) ++ a3) (a2.size : Int) a1 t124 true _ A28.out).mono ?_); rintro e w' ⟨rfl, ⟨nd, rfl⟩⟩; refine ⟨_, rfl, ?_⟩))
                              go_ret
                              exact ⟨by first | rfl | (simp [errW_none, errW_some] <;> rfl) | (simp [*, errW_none, errW_some] <;> rfl), by repeat (first | (with_reducible first | exact HB.out | apply below_alloc | apply pw_below_drewN | apply below_drew1) | exact HB.out)⟩
                            · replace c29 := Bool.eq_false_iff.mpr c29
                              subst c29
                              have H1 : (some false) = some r := by rw [if_neg (show ¬ (false = true) by decide)] at H; exact H
                              clear H
                              have H := H1
                              clear H1
                              obtain rfl := Option.some.inj H
                              go_wp2_with (first | ((with_reducible refine gate_callee (f := 22) rfl ?_); refine goesL_ (some 67) rfl rfl Try.func22 (by kernel_rfl) rfl #[.int .u64 a0, .int .i64 a1] rfl (by (try simp only [List.map_toArray, List.map_cons, List.map_nil]); first | done | rfl | (simp only [List.length_drop, List.length_take]; rfl)) ?_; (with_reducible refine (word_Put.calls kj18 a0 a1 t123 _ A25.out).mono ?_); rintro e w31 ⟨rfl, hb⟩; refine ⟨_, rfl, ?_⟩; have n0_ := Aside0.mk (below_step (by repeat (first | (with_reducible first | exact HB.out | apply below_alloc | apply pw_below_drewN | apply below_drew1) | exact HB.out)) hb); clear HB; have HB := n0_; clear n0_; (try clear hb); (try clear hb2); (try clear hk); (try clear hi)) | ((with_reducible refine gate_callee (f := 18) rfl ?_); refine goesL_ (some 74) rfl rfl Try.func18 (by kernel_rfl) rfl #[.string ((a2 ++ t123) ++ a3), .int .i64 (a2.size : Int), .int .i64 a1] rfl (by (try simp only [List.map_toArray, List.map_cons, List.map_nil]); first | done | rfl | (simp only [List.length_drop, List.length_take]; rfl)) ?_; (with_reducible refine (word_Get.calls kj18 ((a2 ++ t123) ++ a3) (a2.size : Int) a1 t124 false _ A28.out).mono ?_); rintro e w' ⟨rfl, ⟨nd, rfl⟩⟩; refine ⟨_, rfl, ?_⟩))
                              go_ret
                              exact ⟨by first | rfl | (simp [errW_none, errW_some] <;> rfl) | (simp [*, errW_none, errW_some] <;> rfl), by repeat (first | (with_reducible first | exact HB.out | apply below_alloc | apply pw_below_drewN | apply below_drew1) | exact HB.out)⟩
                          · rw [if_neg c27] at H
                            exact absurd H (by simp)
                        · rw [if_neg c26] at H
                          exact absurd H (by simp)
          · rw [if_neg c12] at H
            exact absurd H (by simp)
        · rw [if_neg c11] at H
          exact absurd H (by simp)

/-- THE ONE PURE STATEMENT of varvelaw01_WordBack: yours. -/
def varvelaw01_WordBack.Pure : Prop := ∀ (a0 : Int) (a1 : Int) (a2 : ByteArray) (a3 : ByteArray), (Lit.int .u64 a0).wf = true → (Lit.int .i64 a1).wf = true → a2.size ≤ 140737488351232 → a3.size ≤ 140737488351232 → ∃ k, varvelaw01_WordBack.f k a0 a1 a2 a3 = some true
theorem varvelaw01_WordBack.walk (P : varvelaw01_WordBack.Pure) (a0 : Int) (a1 : Int) (a2 : ByteArray) (a3 : ByteArray) (w : World) (w0 : (Lit.int .u64 a0).wf = true) (w1 : (Lit.int .i64 a1).wf = true) (w2 : a2.size ≤ 140737488351232) (w3 : a3.size ≤ 140737488351232) :
    Calls Try.prog 9 #[.int .u64 a0, .int .i64 a1, .string a2, .string a3] w fun e w' => e = .returned (.bool true) ∧ Below w.heap.size w w' := by
  obtain ⟨k, h⟩ := P a0 a1 a2 a3 w0 w1 w2 w3
  refine (varvelaw01_WordBack.calls k a0 a1 a2 a3 true w h).mono ?_
  rintro e w' ⟨rfl, hd⟩
  exact ⟨rfl, hd⟩

end Go.Proofs.Ytdhlolcpcgpcnaa.PWordBack
