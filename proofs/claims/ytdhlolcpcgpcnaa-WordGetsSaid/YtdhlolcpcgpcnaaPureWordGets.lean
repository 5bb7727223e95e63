import Derived.Test.YtdhlolcpcgpcnaaPWordGetsx1
set_option linter.unusedSimpArgs false
set_option linter.unusedVariables false
namespace Go.Proofs.Ytdhlolcpcgpcnaa.PureGets
open Go.RowKit Go.Proofs.Ytdhlolcpcgpcnaa.PWordGets Go.Proofs.YtdhlolcpcgpcnaaW.PrintWords Go.Proofs.YtdhlolcpcgpcnaaW.PrintLast

theorem zw64 (x : Int) : IntKind.u64.wrap x = x % 18446744073709551616 := by simp [IntKind.wrap, IntKind.bits, IntKind.signed]
theorem i64_of_wf {n : Int} (h : (Lit.int .i64 n).wf = true) : -9223372036854775808 ≤ n ∧ n < 9223372036854775808 := by
  simp [Lit.wf, IntKind.min, IntKind.max, IntKind.signed, IntKind.bits] at h; omega
def val (s : ByteArray) : Nat → Nat → Nat
  | _, 0 => 0
  | at_, n + 1 => (bt s at_).toNat + 256 * val s (at_ + 1) n
theorem val_lt (s : ByteArray) : ∀ n at_, val s at_ n < 256 ^ n
  | 0, _ => by simp [val]
  | n + 1, at_ => by
    have := val_lt s n (at_ + 1)
    have := bt_range s at_
    simp only [val, Nat.pow_succ]
    omega
theorem or_low (x y : Int) (h0 : 0 ≤ x) (h1 : x < 72057594037927936) (h2 : 0 ≤ y) (h3 : y < 256) : Go.bits .or .u64 (x * 256) y = x * 256 + y :=
  bits_join .u64 64 (by decide) (fun n h0 h1 => by rw [zw64]; omega) 8 (x * 256) y (by omega) (by omega) (by omega) h2 h3 (by omega)
theorem pow_le7 (n : Nat) (h : n ≤ 7) : 256 ^ n ≤ 72057594037927936 := by
  have := Nat.pow_le_pow_right (n := 256) (by omega) h
  omega
theorem loopF (s : ByteArray) (hs : s.size ≤ 140737488351232) (at_ n : Nat) (hn : n ≤ 8) (hb : at_ + n ≤ s.size) : ∀ i, i ≤ n →
    word_Get.l0 (i + 1) s at_ (val s (at_ + i) (n - i)) ((i : Int) - 1) = some (((val s at_ n : Nat) : Int), true)
  | 0, _ => by simp [word_Get.l0]
  | i + 1, hi => by
    have ih := loopF s hs at_ n hn hb i (by omega)
    rw [word_Get.l0]
    have e1 : wrap64 ((at_ : Int) + (((i + 1 : Nat) : Int) - 1)) = ((at_ + i : Nat) : Int) := by simp only [wrap64]; omega
    have e2 : wrap64 ((((i + 1 : Nat) : Int) - 1) - 1) = (i : Int) - 1 := by simp only [wrap64]; omega
    have hv := val_lt s (n - (i + 1)) (at_ + (i + 1))
    have hp := pow_le7 (n - (i + 1)) (by omega)
    have hbt := bt_range s ((at_ + i : Nat) : Int)
    rw [if_pos (by omega), e1, if_pos (by omega), if_pos (by omega), e2, zw64, zw64]
    have e3 : ((val s (at_ + (i + 1)) (n - (i + 1)) : Nat) : Int) * 256 % 18446744073709551616 = ((val s (at_ + (i + 1)) (n - (i + 1)) : Nat) : Int) * 256 := by omega
    rw [e3, Int.emod_eq_of_lt (by omega) (by omega), or_low _ _ (by omega) (by omega) (by omega) (by omega)]
    have e4 : (((val s (at_ + (i + 1)) (n - (i + 1)) : Nat) : Int) * 256 + bt s ((at_ + i : Nat) : Int)) = ((val s (at_ + i) (n - i) : Nat) : Int) := by
      rw [show n - i = (n - (i + 1)) + 1 by omega, val, Nat.add_assoc]
      omega
    rw [e4]
    exact ih
theorem wrap64_nat (x : Nat) (h : x < 9223372036854775808) : wrap64 ((x : Nat) : Int) = ((x : Nat) : Int) := by simp only [wrap64]; omega
theorem stepR (s : ByteArray) (at_ n k j u q B : Nat) (hj : j < n) (hn : n ≤ 8) (hs : s.size ≤ 140737488351232) (hb : at_ + n ≤ s.size) (hB : bt s ((at_ + j : Nat) : Int) = (B : Int)) (h255 : B ≤ 255) (hq : u + q * B < 18446744073709551616) :
    varveref01_Get.l0 (k + 1) s at_ n ((u : Nat) : Int) ((q : Nat) : Int) ((j : Nat) : Int) = varveref01_Get.l0 k s at_ n ((u + q * B : Nat) : Int) ((q * 256 % 18446744073709551616 : Nat) : Int) ((j + 1 : Nat) : Int) := by
  have e1 : wrap64 ((at_ : Int) + (j : Int)) = ((at_ + j : Nat) : Int) := wrap64_nat (at_ + j) (by omega)
  have e2 : wrap64 ((j : Int) + 1) = ((j + 1 : Nat) : Int) := wrap64_nat (j + 1) (by omega)
  have c1 : (j : Int) < (n : Int) := by omega
  have c2 : (0 : Int) ≤ ((at_ + j : Nat) : Int) := by omega
  have c3 : ((at_ + j : Nat) : Int) < (s.size : Int) := by omega
  have e3 : (B : Int) % 18446744073709551616 = (B : Int) := by omega
  generalize hp : q * B = p at hq ⊢
  have e4 : (q : Int) * (B : Int) = (p : Int) := by rw [← hp, Int.natCast_mul]
  have e5 : ((u : Int) + (p : Int) % 18446744073709551616) % 18446744073709551616 = ((u + p : Nat) : Int) := by omega
  have e6 : (q : Int) * 256 % 18446744073709551616 = ((q * 256 % 18446744073709551616 : Nat) : Int) := by omega
  rw [varveref01_Get.l0, if_pos c1, e1, if_pos c2, if_pos c3, e2, hB]
  simp only [zw64, e3, e4, e5, e6]

theorem loopR (s : ByteArray) (hs : s.size ≤ 140737488351232) (at_ n : Nat) (hn : n ≤ 8) (hb : at_ + n ≤ s.size) : ∀ m j u q, j + m = n → u < 256 ^ j → (j < 8 → q = 256 ^ j) →
    varveref01_Get.l0 (m + 1) s at_ n ((u : Nat) : Int) ((q : Nat) : Int) ((j : Nat) : Int) = some (((u + 256 ^ j * val s (at_ + j) m : Nat) : Int), true)
  | 0, j, u, q, hj, hu, hq => by
    rw [varveref01_Get.l0, if_neg (by omega)]; simp [val]
  | m + 1, j, u, q, hj, hu, hq => by
    have hbt := bt_range s ((at_ + j : Nat) : Int)
    have hp := pow_le7 j (by omega)
    have hq := hq (by omega)
    generalize hB : (bt s ((at_ + j : Nat) : Int)).toNat = B
    have hbt' : bt s ((at_ + j : Nat) : Int) = (B : Int) := by omega
    have hb2 : 256 ^ j * B ≤ 256 ^ j * 255 := Nat.mul_le_mul_left _ (by omega)
    have e0 : 256 ^ (j + 1) = 256 ^ j * 256 := Nat.pow_succ ..
    have ih := loopR s hs at_ n hn hb m (j + 1) (u + 256 ^ j * B) (q * 256 % 18446744073709551616) (by omega) (by rw [e0]; omega) (by
      intro h8
      have := pow_le7 (j + 1) (by omega)
      rw [hq, e0]; omega)
    have e7 : u + 256 ^ j * B + 256 ^ (j + 1) * val s (at_ + (j + 1)) m = u + 256 ^ j * val s (at_ + j) (m + 1) := by
      rw [val, hB, Nat.mul_add, e0, Nat.mul_assoc, Nat.add_assoc, Nat.add_assoc]
    rw [e7, ← hq] at ih
    rw [stepR s at_ n (m + 1) j u q B (by omega) hn hs hb hbt' (by omega) (by rw [hq]; omega)]
    rw [ih, hq]

theorem WordGets : varvelaw01_WordGets.Pure := by
  intro s a n hs ha hn
  have ⟨ha0, ha1⟩ := i64_of_wf ha
  have ⟨hn0, hn1⟩ := i64_of_wf hn
  have hw : wrap64 ((s.size : Int) - a) = if 0 ≤ a then (s.size : Int) - a else wrap64 ((s.size : Int) - a) := by
    split
    · simp only [wrap64]; omega
    · rfl
  by_cases c1 : n < 0
  · exact ⟨1, by simp [varvelaw01_WordGets.f, word_Get.f, varveref01_Get.f, if_pos c1, word_Get.j0, varveref01_Get.j0]⟩
  by_cases c2 : n > 8
  · exact ⟨1, by simp [varvelaw01_WordGets.f, word_Get.f, varveref01_Get.f, if_neg c1, if_pos c2, word_Get.j0, varveref01_Get.j0]⟩
  by_cases c3 : a < 0
  · exact ⟨1, by simp [varvelaw01_WordGets.f, word_Get.f, varveref01_Get.f, if_neg c1, if_neg c2, if_pos c3, word_Get.j0, varveref01_Get.j0]⟩
  by_cases c4 : a > (s.size : Int)
  · exact ⟨1, by simp [varvelaw01_WordGets.f, word_Get.f, varveref01_Get.f, if_neg c1, if_neg c2, if_neg c3, if_pos c4, word_Get.j0, varveref01_Get.j0]⟩
  rw [if_pos (by omega)] at hw
  by_cases c5 : n > (s.size : Int) - a
  · refine ⟨1, ?_⟩
    simp only [varvelaw01_WordGets.f, word_Get.f, varveref01_Get.f, if_neg c1, if_neg c2, if_neg c3, if_neg c4, hw]
    rw [decide_eq_true (p := n > (s.size : Int) - a) c5]
    simp [word_Get.j0, varveref01_Get.j0]
  obtain ⟨at_, rfl⟩ := Int.eq_ofNat_of_zero_le (show 0 ≤ a by omega)
  obtain ⟨m, rfl⟩ := Int.eq_ofNat_of_zero_le (show 0 ≤ n by omega)
  refine ⟨m + 2, ?_⟩
  simp only [varvelaw01_WordGets.f, word_Get.f, varveref01_Get.f, if_neg c1, if_neg c2, if_neg c3, if_neg c4, hw]
  rw [decide_eq_false (p := (m : Int) > (s.size : Int) - at_) c5]
  simp only [word_Get.j0, varveref01_Get.j0, Bool.false_eq_true, if_false]
  have f := loopF s hs at_ m (by omega) (by omega) m (Nat.le_refl _)
  have r := loopR s hs at_ m (by omega) (by omega) m 0 0 1 (by omega) (by simp) (by simp)
  have e : wrap64 ((m : Int) - 1) = (m : Int) - 1 := by simp only [wrap64]; omega
  simp only [Nat.sub_self, val, Nat.pow_zero, Nat.zero_add, Nat.one_mul, Nat.add_zero] at f r
  rw [e]
  have f' : word_Get.l0 (m + 1) s at_ 0 ((m : Int) - 1) = some (((val s at_ m : Nat) : Int), true) := f
  have r' : varveref01_Get.l0 (m + 1) s at_ m 0 1 0 = some (((val s at_ m : Nat) : Int), true) := r
  rw [f', r']
  simp

end Go.Proofs.Ytdhlolcpcgpcnaa.PureGets
namespace Go.Proofs.Ytdhlolcpcgpcnaa.Pure
open Go.Proofs.Ytdhlolcpcgpcnaa.PWordGets
theorem WordGets : varvelaw01_WordGets.Pure := PureGets.WordGets
end Go.Proofs.Ytdhlolcpcgpcnaa.Pure
