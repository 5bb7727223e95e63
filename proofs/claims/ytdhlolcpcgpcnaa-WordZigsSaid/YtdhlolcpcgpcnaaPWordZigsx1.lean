-- PRINTED BY print.sh 35421559b90ae4d0a3588c463048766b98c2df88dd9212a6774a882060cdf62d: not written by this session
import Derived.Test.YtdhlolcpcgpcnaaPWordZigsx0
namespace Go.Proofs.Ytdhlolcpcgpcnaa.PWordZigs
open Go.RowKit Go.Proofs.YtdhlolcpcgpcnaaW.PrintWords Go.Proofs.YtdhlolcpcgpcnaaW.PrintLast Go.Proofs.YtdhlolcpcgpcnaaW.PrintMore
attribute [local go_sem] max2_int min2_int max_two min_two max_three min_three max_four min_four   -- for this text's walks alone
set_option linter.unusedVariables false
set_option linter.unusedSimpArgs false

/-! ### word_Zig: function 15 -/
def word_Zig.f (a0 : Int) : Option (Int) := some (Go.bits .xor .u64 (IntKind.u64.wrap (wrap64 (a0 * 2))) (IntKind.u64.wrap (a0 / 9223372036854775808)))
set_option maxHeartbeats 8000000 in
set_option maxRecDepth 100000 in
theorem word_Zig.calls (a0 : Int) (r : Int) (w : World) (h : word_Zig.f a0 = some r) :
    Calls Try.prog 15 #[.int .i64 a0] w fun e w' => e = .returned (.int .u64 r) ∧ Drawn0 w w' := by
  have H : (some (Go.bits .xor .u64 (IntKind.u64.wrap (wrap64 (a0 * 2))) (IntKind.u64.wrap (a0 / 9223372036854775808)))) = some r := h
  clear h
  obtain rfl := Option.some.inj H
  go_enter Try.func15, Try.ntmps15
  go_wp2
  go_ret
  exact ⟨by first | rfl | (simp; done) | (simp [*]; done), by repeat (first | exact Drawn0.refl _ | apply Drawn0.step)⟩

/-! ### varveref01_Zig: function 16 -/
def varveref01_Zig.f (a0 : Int) : Option (Int) := if a0 < 0 then (some (IntKind.u64.wrap ((IntKind.u64.wrap (2 * (IntKind.u64.wrap (wrap64 (-(wrap64 (a0 + 1))))))) + 1))) else (some (IntKind.u64.wrap (2 * (IntKind.u64.wrap (a0)))))
set_option maxHeartbeats 8000000 in
set_option maxRecDepth 100000 in
theorem varveref01_Zig.calls (a0 : Int) (r : Int) (w : World) (h : varveref01_Zig.f a0 = some r) :
    Calls Try.prog 16 #[.int .i64 a0] w fun e w' => e = .returned (.int .u64 r) ∧ Drawn0 w w' := by
  have H : (if a0 < 0 then (some (IntKind.u64.wrap ((IntKind.u64.wrap (2 * (IntKind.u64.wrap (wrap64 (-(wrap64 (a0 + 1))))))) + 1))) else (some (IntKind.u64.wrap (2 * (IntKind.u64.wrap (a0)))))) = some r := h
  clear h
  by_cases c2 : a0 < 0
  · rw [if_pos c2] at H
    have c2b0 : decide (a0 < 0) = true := decide_eq_true c2
    clear c2
    obtain rfl := Option.some.inj H
    go_enter Try.func16, Try.ntmps16
    go_wp2
    go_ret
    exact ⟨by first | rfl | (simp; done) | (simp [*]; done), by repeat (first | exact Drawn0.refl _ | apply Drawn0.step)⟩
  · rw [if_neg c2] at H
    have c2b0 : decide (a0 < 0) = false := decide_eq_false c2
    clear c2
    obtain rfl := Option.some.inj H
    go_enter Try.func16, Try.ntmps16
    go_wp2
    go_ret
    exact ⟨by first | rfl | (simp; done) | (simp [*]; done), by repeat (first | exact Drawn0.refl _ | apply Drawn0.step)⟩

/-! ### word_Zag: function 17 -/
def word_Zag.f (a0 : Int) : Option (Int) := some (Go.bits .xor .i64 (wrap64 (a0 / 2)) (wrap64 (-(wrap64 (Go.bits .and .u64 a0 1)))))
set_option maxHeartbeats 8000000 in
set_option maxRecDepth 100000 in
theorem word_Zag.calls (a0 : Int) (r : Int) (w : World) (h : word_Zag.f a0 = some r) :
    Calls Try.prog 17 #[.int .u64 a0] w fun e w' => e = .returned (.int .i64 r) ∧ Drawn0 w w' := by
  have H : (some (Go.bits .xor .i64 (wrap64 (a0 / 2)) (wrap64 (-(wrap64 (Go.bits .and .u64 a0 1)))))) = some r := h
  clear h
  obtain rfl := Option.some.inj H
  go_enter Try.func17, Try.ntmps17
  go_wp2
  go_ret
  exact ⟨by first | rfl | (simp; done) | (simp [*]; done), by repeat (first | exact Drawn0.refl _ | apply Drawn0.step)⟩

/-! ### varvelaw01_WordZigs: function 3 -/
def varvelaw01_WordZigs.j0 : Nat → Int → Bool → Option (Bool)
  | 0, _, _ => none
  | k + 1, x0, x23 => if x23 = true then (some false) else (if x0 = (-9223372036854775808) then (some true) else ((word_Zig.f x0).bind fun t107 => ((word_Zig.f (wrap64 (-x0))).bind fun t108 => (some (decide ((IntKind.u64.wrap (Int.tdiv t107 2)) ≤ (IntKind.u64.wrap ((IntKind.u64.wrap (Int.tdiv t108 2)) + 1))))))))
def varvelaw01_WordZigs.f (k : Nat) (a0 : Int) (a1 : Int) : Option (Bool) := (word_Zig.f a0).bind fun t101 => ((varveref01_Zig.f a0).bind fun t102 => (if t101 = t102 then ((word_Zig.f a0).bind fun t103 => ((word_Zag.f t103).bind fun t104 => (if t104 = a0 then ((word_Zag.f a1).bind fun t105 => ((word_Zig.f t105).bind fun t106 => (varvelaw01_WordZigs.j0 k a0 (t106 != a1)))) else (varvelaw01_WordZigs.j0 k a0 true)))) else (varvelaw01_WordZigs.j0 k a0 true)))
theorem varvelaw01_WordZigs.mono_l : ∀ k, (∀ y0 y1, LeO (varvelaw01_WordZigs.j0 k y0 y1) (varvelaw01_WordZigs.j0 (k + 1) y0 y1))
  | 0 => fun _ _ r h => by simp [varvelaw01_WordZigs.j0] at h
  | k + 1 => by
    have ih0 := varvelaw01_WordZigs.mono_l k
    · intro y0 y1
      unfold varvelaw01_WordZigs.j0
      repeat' first
      | (with_reducible exact ih0 _ _)
      | (with_reducible exact LeO.refl _)
      | (with_reducible exact LeO.none _)
      | (with_reducible refine LeO.ite ?_ ?_)
      | (with_reducible refine LeO.bind ?_ (fun _ => ?_))
      | exact ih0 _ _
      | exact LeO.none _
      | refine LeO.ite ?_ ?_
      | refine LeO.bind ?_ (fun _ => ?_)
theorem varvelaw01_WordZigs.mono : ∀ a0 a1 k, LeO (varvelaw01_WordZigs.f k a0 a1) (varvelaw01_WordZigs.f (k + 1) a0 a1) := by
  intro a0 a1 k
  have ih0 := varvelaw01_WordZigs.mono_l k
  unfold varvelaw01_WordZigs.f
  repeat' first
      | (with_reducible exact ih0 _ _)
      | (with_reducible exact LeO.refl _)
      | (with_reducible exact LeO.none _)
      | (with_reducible refine LeO.ite ?_ ?_)
      | (with_reducible refine LeO.bind ?_ (fun _ => ?_))
      | exact ih0 _ _
      | exact LeO.none _
      | refine LeO.ite ?_ ?_
      | refine LeO.bind ?_ (fun _ => ?_)
set_option maxHeartbeats 8000000 in
set_option maxRecDepth 100000 in
theorem varvelaw01_WordZigs.calls (k : Nat) (a0 : Int) (a1 : Int) (r : Bool) (w : World) (h : varvelaw01_WordZigs.f k a0 a1 = some r) :
    Calls Try.prog 3 #[.int .i64 a0, .int .u64 a1] w fun e w' => e = .returned (.bool r) ∧ Drawn0 w w' := by
  have H : ((word_Zig.f a0).bind fun t101 => ((varveref01_Zig.f a0).bind fun t102 => (if t101 = t102 then ((word_Zig.f a0).bind fun t103 => ((word_Zag.f t103).bind fun t104 => (if t104 = a0 then ((word_Zag.f a1).bind fun t105 => ((word_Zig.f t105).bind fun t106 => (varvelaw01_WordZigs.j0 k a0 (t106 != a1)))) else (varvelaw01_WordZigs.j0 k a0 true)))) else (varvelaw01_WordZigs.j0 k a0 true)))) = some r := h
  clear h
  have HC3 := Aside0.mk H
  clear H
  go_enter Try.func3, Try.ntmps3
  go_upto_region 1 with (fail)
  go_cut [23] (fun v23 wc => ∃ (kq : Nat) (x23_2 : Bool), v23 = .bool x23_2 ∧ Aside0 (varvelaw01_WordZigs.j0 kq a0 x23_2 = some r) ∧ Aside0 (kq ≤ k) ∧ Drawn0 w wc)
  case first =>
    have H := HC3.out
    clear HC3
    replace H := Option.bind_eq_some_iff.mp H
    obtain ⟨t101, A40, H⟩ := H
    replace H : ((varveref01_Zig.f a0).bind fun t102 => (if t101 = t102 then ((word_Zig.f a0).bind fun t103 => ((word_Zag.f t103).bind fun t104 => (if t104 = a0 then ((word_Zag.f a1).bind fun t105 => ((word_Zig.f t105).bind fun t106 => (varvelaw01_WordZigs.j0 k a0 (t106 != a1)))) else (varvelaw01_WordZigs.j0 k a0 true)))) else (varvelaw01_WordZigs.j0 k a0 true))) = some r := H
    have A4 := Aside0.mk A40
    clear A40
    replace H := Option.bind_eq_some_iff.mp H
    obtain ⟨t102, A50, H⟩ := H
    replace H : (if t101 = t102 then ((word_Zig.f a0).bind fun t103 => ((word_Zag.f t103).bind fun t104 => (if t104 = a0 then ((word_Zag.f a1).bind fun t105 => ((word_Zig.f t105).bind fun t106 => (varvelaw01_WordZigs.j0 k a0 (t106 != a1)))) else (varvelaw01_WordZigs.j0 k a0 true)))) else (varvelaw01_WordZigs.j0 k a0 true)) = some r := H
    have A5 := Aside0.mk A50
    clear A50
    by_cases c6 : t101 = t102
    · rw [if_pos c6] at H
      have c6b0 : (t101 == t102) = true := beq_iff_eq.mpr c6
      have c6b1 : (t101 != t102) = false := bne_eq_false_iff_eq.mpr c6
      clear c6
      (first | rw [c6b0] | (simp only [i64_w, i32_w]; rw [c6b0]) | skip)
      replace H := Option.bind_eq_some_iff.mp H
      obtain ⟨t103, A70, H⟩ := H
      replace H : ((word_Zag.f t103).bind fun t104 => (if t104 = a0 then ((word_Zag.f a1).bind fun t105 => ((word_Zig.f t105).bind fun t106 => (varvelaw01_WordZigs.j0 k a0 (t106 != a1)))) else (varvelaw01_WordZigs.j0 k a0 true))) = some r := H
      have A7 := Aside0.mk A70
      clear A70
      replace H := Option.bind_eq_some_iff.mp H
      obtain ⟨t104, A80, H⟩ := H
      replace H : (if t104 = a0 then ((word_Zag.f a1).bind fun t105 => ((word_Zig.f t105).bind fun t106 => (varvelaw01_WordZigs.j0 k a0 (t106 != a1)))) else (varvelaw01_WordZigs.j0 k a0 true)) = some r := H
      have A8 := Aside0.mk A80
      clear A80
      by_cases c9 : t104 = a0
      · rw [if_pos c9] at H
        have c9b0 : (t104 == a0) = true := beq_iff_eq.mpr c9
        have c9b1 : (t104 != a0) = false := bne_eq_false_iff_eq.mpr c9
        clear c9
        replace H := Option.bind_eq_some_iff.mp H
        obtain ⟨t105, A100, H⟩ := H
        replace H : ((word_Zig.f t105).bind fun t106 => (varvelaw01_WordZigs.j0 k a0 (t106 != a1))) = some r := H
        have A10 := Aside0.mk A100
        clear A100
        replace H := Option.bind_eq_some_iff.mp H
        obtain ⟨t106, A110, H⟩ := H
        replace H : (varvelaw01_WordZigs.j0 k a0 (t106 != a1)) = some r := H
        have A11 := Aside0.mk A110
        clear A110
        have H' := Aside0.mk H
        clear H
        go_wp2_with (first | ((with_reducible refine gate_callee (f := 15) rfl ?_); refine goesL_ (some 6) rfl rfl Try.func15 (by kernel_rfl) rfl #[.int .i64 a0] rfl (by (try simp only [List.map_toArray, List.map_cons, List.map_nil]); first | done | rfl | (simp only [List.length_drop, List.length_take]; rfl)) ?_; (with_reducible refine (word_Zig.calls a0 t101 _ A4.out).mono ?_); rintro e w' ⟨rfl, ⟨nd, rfl⟩⟩; refine ⟨_, rfl, ?_⟩) | ((with_reducible refine gate_callee (f := 16) rfl ?_); refine goesL_ (some 8) rfl rfl Try.func16 (by kernel_rfl) rfl #[.int .i64 a0] rfl (by (try simp only [List.map_toArray, List.map_cons, List.map_nil]); first | done | rfl | (simp only [List.length_drop, List.length_take]; rfl)) ?_; (with_reducible refine (varveref01_Zig.calls a0 t102 _ A5.out).mono ?_); rintro e w' ⟨rfl, ⟨nd, rfl⟩⟩; refine ⟨_, rfl, ?_⟩) | (go_at_call 15; (with_reducible refine (word_Zig.calls a0 t103 _ A7.out).mono ?_); rintro e w' ⟨rfl, ⟨nd, rfl⟩⟩) | (go_at_call 17; (with_reducible refine (word_Zag.calls t103 t104 _ A8.out).mono ?_); rintro e w' ⟨rfl, ⟨nd, rfl⟩⟩) | (go_at_call 17; (with_reducible refine (word_Zag.calls a1 t105 _ A10.out).mono ?_); rintro e w' ⟨rfl, ⟨nd, rfl⟩⟩) | (go_at_call 15; (with_reducible refine (word_Zig.calls t105 t106 _ A11.out).mono ?_); rintro e w' ⟨rfl, ⟨nd, rfl⟩⟩))
        go_meet
        case rel => exact ⟨_, ((t106 != a1)), (by first | rfl | (simp; done) | (simp [*]; done)), H', ⟨by first | omega | exact Nat.le_refl _⟩, by repeat (first | exact Drawn0.refl _ | apply Drawn0.step)⟩
      · rw [if_neg c9] at H
        have c9b0 : (t104 == a0) = false := beq_eq_false_iff_ne.mpr c9
        have c9b1 : (t104 != a0) = true := bne_iff_ne.mpr c9
        have H' := Aside0.mk H
        clear H
        go_wp2_with (first | ((with_reducible refine gate_callee (f := 15) rfl ?_); refine goesL_ (some 6) rfl rfl Try.func15 (by kernel_rfl) rfl #[.int .i64 a0] rfl (by (try simp only [List.map_toArray, List.map_cons, List.map_nil]); first | done | rfl | (simp only [List.length_drop, List.length_take]; rfl)) ?_; (with_reducible refine (word_Zig.calls a0 t101 _ A4.out).mono ?_); rintro e w' ⟨rfl, ⟨nd, rfl⟩⟩; refine ⟨_, rfl, ?_⟩) | ((with_reducible refine gate_callee (f := 16) rfl ?_); refine goesL_ (some 8) rfl rfl Try.func16 (by kernel_rfl) rfl #[.int .i64 a0] rfl (by (try simp only [List.map_toArray, List.map_cons, List.map_nil]); first | done | rfl | (simp only [List.length_drop, List.length_take]; rfl)) ?_; (with_reducible refine (varveref01_Zig.calls a0 t102 _ A5.out).mono ?_); rintro e w' ⟨rfl, ⟨nd, rfl⟩⟩; refine ⟨_, rfl, ?_⟩) | (go_at_call 15; (with_reducible refine (word_Zig.calls a0 t103 _ A7.out).mono ?_); rintro e w' ⟨rfl, ⟨nd, rfl⟩⟩) | (go_at_call 17; (with_reducible refine (word_Zag.calls t103 t104 _ A8.out).mono ?_); rintro e w' ⟨rfl, ⟨nd, rfl⟩⟩))
        go_meet
        case rel => exact ⟨_, (true), (by first | rfl | (simp; done) | (simp [*]; done)), H', ⟨by first | omega | exact Nat.le_refl _⟩, by repeat (first | exact Drawn0.refl _ | apply Drawn0.step)⟩
    · rw [if_neg c6] at H
      have c6b0 : (t101 == t102) = false := beq_eq_false_iff_ne.mpr c6
      have c6b1 : (t101 != t102) = true := bne_iff_ne.mpr c6
      (first | rw [c6b0] | (simp only [i64_w, i32_w]; rw [c6b0]) | skip)
      have H' := Aside0.mk H
      clear H
      go_wp2_with (first | ((with_reducible refine gate_callee (f := 15) rfl ?_); refine goesL_ (some 6) rfl rfl Try.func15 (by kernel_rfl) rfl #[.int .i64 a0] rfl (by (try simp only [List.map_toArray, List.map_cons, List.map_nil]); first | done | rfl | (simp only [List.length_drop, List.length_take]; rfl)) ?_; (with_reducible refine (word_Zig.calls a0 t101 _ A4.out).mono ?_); rintro e w' ⟨rfl, ⟨nd, rfl⟩⟩; refine ⟨_, rfl, ?_⟩) | ((with_reducible refine gate_callee (f := 16) rfl ?_); refine goesL_ (some 8) rfl rfl Try.func16 (by kernel_rfl) rfl #[.int .i64 a0] rfl (by (try simp only [List.map_toArray, List.map_cons, List.map_nil]); first | done | rfl | (simp only [List.length_drop, List.length_take]; rfl)) ?_; (with_reducible refine (varveref01_Zig.calls a0 t102 _ A5.out).mono ?_); rintro e w' ⟨rfl, ⟨nd, rfl⟩⟩; refine ⟨_, rfl, ?_⟩))
      go_meet
      case rel => exact ⟨_, (true), (by first | rfl | (simp; done) | (simp [*]; done)), H', ⟨by first | omega | exact Nat.le_refl _⟩, by repeat (first | exact Drawn0.refl _ | apply Drawn0.step)⟩
  case rest =>
    clear HC3
    try clear c1
    try clear p2
    try clear c3
    try clear c6
    try clear c6b0
    try clear c6b1
    try clear c9
    try clear c9b0
    try clear c9b1
    obtain ⟨kq, x23_2, rfl, HA, HJ2, ⟨mc2, rfl⟩⟩ := hcut
    cases kq with
    | zero => exact absurd HA.out (by simp [varvelaw01_WordZigs.j0])
    | succ kj2 =>
      have H := HA.out
      clear HA
      simp only [varvelaw01_WordZigs.j0] at H
      by_cases c12 : x23_2 = true
      · subst c12
        have H1 : (some false) = some r := by rw [if_pos rfl] at H; exact H
        clear H
        have H := H1
        clear H1
        obtain rfl := Option.some.inj H
        go_wp2
        go_ret
        exact ⟨by first | rfl | (simp; done) | (simp [*]; done), by repeat (first | exact Drawn0.refl _ | apply Drawn0.step)⟩
      · replace c12 := Bool.eq_false_iff.mpr c12
        subst c12
        have H1 : (if a0 = (-9223372036854775808) then (some true) else ((word_Zig.f a0).bind fun t107 => ((word_Zig.f (wrap64 (-a0))).bind fun t108 => (some (decide ((IntKind.u64.wrap (Int.tdiv t107 2)) ≤ (IntKind.u64.wrap ((IntKind.u64.wrap (Int.tdiv t108 2)) + 1)))))))) = some r := by rw [if_neg (show ¬ (false = true) by decide)] at H; exact H
        clear H
        have H := H1
        clear H1
        by_cases c13 : a0 = (-9223372036854775808)
        · rw [if_pos c13] at H
          have c13b0 : (a0 == (-9223372036854775808)) = true := beq_iff_eq.mpr c13
          have c13b1 : (a0 != (-9223372036854775808)) = false := bne_eq_false_iff_eq.mpr c13
          clear c13
          obtain rfl := Option.some.inj H
          go_wp2
          go_ret
          exact ⟨by first | rfl | (simp; done) | (simp [*]; done), by repeat (first | exact Drawn0.refl _ | apply Drawn0.step)⟩
        · rw [if_neg c13] at H
          have c13b0 : (a0 == (-9223372036854775808)) = false := beq_eq_false_iff_ne.mpr c13
          have c13b1 : (a0 != (-9223372036854775808)) = true := bne_iff_ne.mpr c13
          replace H := Option.bind_eq_some_iff.mp H
          obtain ⟨t107, A140, H⟩ := H
          replace H : ((word_Zig.f (wrap64 (-a0))).bind fun t108 => (some (decide ((IntKind.u64.wrap (Int.tdiv t107 2)) ≤ (IntKind.u64.wrap ((IntKind.u64.wrap (Int.tdiv t108 2)) + 1)))))) = some r := H
          have A14 := Aside0.mk A140
          clear A140
          replace H := Option.bind_eq_some_iff.mp H
          obtain ⟨t108, A150, H⟩ := H
          replace H : (some (decide ((IntKind.u64.wrap (Int.tdiv t107 2)) ≤ (IntKind.u64.wrap ((IntKind.u64.wrap (Int.tdiv t108 2)) + 1))))) = some r := H
          have A15 := Aside0.mk A150
          clear A150
          obtain rfl := Option.some.inj H
          go_wp2_with (first | (go_at_call 15; (with_reducible refine (word_Zig.calls a0 t107 _ A14.out).mono ?_); rintro e w' ⟨rfl, ⟨nd, rfl⟩⟩) | (go_at_call 15; (with_reducible refine (word_Zig.calls (wrap64 (-a0)) t108 _ A15.out).mono ?_); rintro e w' ⟨rfl, ⟨nd, rfl⟩⟩))
          go_ret
          exact ⟨by first | rfl | (simp; done) | (simp [*]; done), by repeat (first | exact Drawn0.refl _ | apply Drawn0.step)⟩

/-- THE ONE PURE STATEMENT of varvelaw01_WordZigs: yours. -/
def varvelaw01_WordZigs.Pure : Prop := ∀ (a0 : Int) (a1 : Int), (Lit.int .i64 a0).wf = true → (Lit.int .u64 a1).wf = true → ∃ k, varvelaw01_WordZigs.f k a0 a1 = some true
theorem varvelaw01_WordZigs.walk (P : varvelaw01_WordZigs.Pure) (a0 : Int) (a1 : Int) (w : World) (w0 : (Lit.int .i64 a0).wf = true) (w1 : (Lit.int .u64 a1).wf = true) :
    Calls Try.prog 3 #[.int .i64 a0, .int .u64 a1] w fun e w' => e = .returned (.bool true) ∧ Below w.heap.size w w' := by
  obtain ⟨k, h⟩ := P a0 a1 w0 w1
  refine (varvelaw01_WordZigs.calls k a0 a1 true w h).mono ?_
  rintro e w' ⟨rfl, hd⟩
  exact ⟨rfl, hd.below⟩

end Go.Proofs.Ytdhlolcpcgpcnaa.PWordZigs
