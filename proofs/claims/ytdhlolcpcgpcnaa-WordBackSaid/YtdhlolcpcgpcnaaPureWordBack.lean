import Derived.Test.YtdhlolcpcgpcnaaPWordBackx3
import Derived.Test.YtdhlolcpcgpcnaaBytesN
set_option linter.unusedSimpArgs false
set_option linter.unusedVariables false
namespace Go.Proofs.Ytdhlolcpcgpcnaa.PureBack
open Go.RowKit Go.Proofs.Ytdhlolcpcgpcnaa.PWordBack Go.Proofs.YtdhlolcpcgpcnaaW.PrintWords Go.Proofs.YtdhlolcpcgpcnaaW.PrintLast Go.Proofs.YtdhlolcpcgpcnaaW.PrintMore
open Go.Proofs.Ytdhlolcpcgpcnaa.Groups

theorem zw64 (x : Int) : IntKind.u64.wrap x = x % 18446744073709551616 := by simp [IntKind.wrap, IntKind.bits, IntKind.signed]
theorem i64_of_wf {n : Int} (h : (Lit.int .i64 n).wf = true) : -9223372036854775808 ≤ n ∧ n < 9223372036854775808 := by
  simp [Lit.wf, IntKind.min, IntKind.max, IntKind.signed, IntKind.bits] at h; omega
theorem u64_of_wf {n : Int} (h : (Lit.int .u64 n).wf = true) : 0 ≤ n ∧ n < 18446744073709551616 := by
  simp [Lit.wf, IntKind.min, IntKind.max, IntKind.signed, IntKind.bits] at h; omega
theorem wrap64_nat (x : Nat) (h : x < 9223372036854775808) : wrap64 ((x : Nat) : Int) = ((x : Nat) : Int) := by simp only [wrap64]; omega
theorem or128 (x : Nat) (h : x < 256) : Go.bits .or .u8 (x : Int) 128 = ((128 + x % 128 : Nat) : Int) := by
  have : ∀ y : Fin 256, Go.bits .or .u8 ((y.val : Nat) : Int) 128 = ((128 + y.val % 128 : Nat) : Int) := by decide +kernel
  exact this ⟨x, h⟩
theorem and127 (x : Nat) (h : x < 256) : Go.bits .and .u8 (x : Int) 127 = ((x % 128 : Nat) : Int) := by
  have : ∀ y : Fin 256, Go.bits .and .u8 ((y.val : Nat) : Int) 127 = ((y.val % 128 : Nat) : Int) := by decide +kernel
  exact this ⟨x, h⟩
def ints (l : List Nat) : List Int := l.map fun n => ((n : Nat) : Int)

theorem varF : ∀ (k v : Nat) (acc : List Int), (varL v).length ≤ k → acc.length + k < 140737488355328 → word_Var.l0 k v acc = some (strOfNums (acc ++ ints (varL v)))
  | 0, v, acc, h, _ => by
    obtain ⟨c, cs, e⟩ := varL_ne v
    rw [e] at h; simp at h
  | k + 1, v, acc, h, ha => by
    rw [word_Var.l0]
    by_cases hv : v < 128
    · rw [if_neg (by omega), if_pos (by omega), varL_small hv]
      have : (v : Int) % 256 = (v : Int) := by omega
      rw [this]; rfl
    · have e1 : (v : Int) % 256 = ((v % 256 : Nat) : Int) := by omega
      have e2 : (v : Int) / 128 = ((v / 128 : Nat) : Int) := by omega
      have e3 : 128 + v % 256 % 128 = 128 + v % 128 := by omega
      rw [varL_big (by omega)] at h ⊢
      simp only [List.length_cons] at h
      rw [if_pos (by omega), if_pos (by omega), e1, or128 _ (by omega), e2, e3, varF k (v / 128) _ (by omega) (by simp; omega)]
      simp [ints]
theorem varL10 (v : Nat) (h : v < 18446744073709551616) : (varL v).length ≤ 10 := varL_length 9 v (by rw [Nat.pow_succ, pow9]; omega)

/-- The bytes from a place on. -/
def at' (s : ByteArray) (a : Nat) (i : Nat) : Nat := (bt s ((a + i : Nat) : Int)).toNat
theorem at_lt (s : ByteArray) (a i : Nat) : at' s a i < 256 := by have := bt_range s ((a + i : Nat) : Int); unfold at'; omega
theorem at_eq (s : ByteArray) (a i : Nat) : bt s ((a + i : Nat) : Int) = ((at' s a i : Nat) : Int) := by have := bt_range s ((a + i : Nat) : Int); unfold at'; omega

theorem or_step (v k c : Nat) (hv : v < 128 ^ k) (hk : k ≤ 9) (hf : v + 128 ^ k * (c % 128) < 18446744073709551616) (hc : c < 256) :
    Go.bits .or .u64 (v : Int) (shl .u64 (IntKind.u64.wrap (Go.bits .and .u8 (c : Int) 127)) ((7 * k : Nat) : Int)) = ((v + 128 ^ k * (c % 128) : Nat) : Int) := by
  rw [and127 c hc, zw64]
  have e1 : ((c % 128 : Nat) : Int) % 18446744073709551616 = ((c % 128 : Nat) : Int) := by omega
  rw [e1]
  have e2 : (min ((7 * k : Nat) : Int).toNat IntKind.u64.bits) = 7 * k := by
    rw [Int.toNat_natCast]; exact Nat.min_eq_left (by show 7 * k ≤ 64; omega)
  have e3 : (2 : Nat) ^ (7 * k) = 128 ^ k := by rw [Nat.pow_mul]
  have e4 : shl .u64 ((c % 128 : Nat) : Int) ((7 * k : Nat) : Int) = ((128 ^ k * (c % 128) : Nat) : Int) := by
    unfold shl
    rw [e2, zw64]
    have : ((c % 128 : Nat) : Int) * 2 ^ (7 * k) = ((128 ^ k * (c % 128) : Nat) : Int) := by
      rw [Int.natCast_mul, Int.mul_comm, ← e3]; simp
    rw [this]
    generalize 128 ^ k * (c % 128) = p at hf
    omega
  rw [e4]
  have h := bits_join .u64 64 (by decide) (fun n h0 h1 => by rw [zw64]; omega) (7 * k) ((128 ^ k * (c % 128) : Nat) : Int) (v : Int) (Int.natCast_nonneg _) (by
      have : ((2 : Int) ^ (7 * k)) = ((2 ^ (7 * k) : Nat) : Int) := by simp
      rw [this, e3, ← Int.natCast_emod, Nat.mul_mod_right]; rfl) (by generalize 128 ^ k * (c % 128) = p at hf; omega) (Int.natCast_nonneg _) (by
      have : ((2 : Int) ^ (7 * k)) = ((2 ^ (7 * k) : Nat) : Int) := by simp
      rw [this, e3]; exact_mod_cast hv) (by generalize 128 ^ k * (c % 128) = p at hf; omega)
  have hcomm : ∀ x y : Int, Go.bits .or .u64 x y = Go.bits .or .u64 y x := by intro x y; simp only [Go.bits, BitVec.or_comm]
  rw [hcomm, h, Int.add_comm]
  simp

theorem takeF (s : ByteArray) (hs : s.size ≤ 140737488351232) (a : Nat) : ∀ (m k fuel : Nat), k + m = 10 → 3 * m + 2 ≤ fuel →
    word_TakeVar.l0 fuel s a ((pref (at' s a) k : Nat) : Int) (k : Int) = some (res (at' s a) (s.size - a) a k m)
  | 0, k, fuel, hk, hf => by
    obtain ⟨fuel, rfl⟩ : ∃ f, fuel = f + 2 := ⟨fuel - 2, by omega⟩
    rw [word_TakeVar.l0, if_neg (by omega), word_TakeVar.j1]; rfl
  | m + 1, k, fuel, hk, hf => by
    obtain ⟨fuel, rfl⟩ : ∃ f, fuel = f + 3 := ⟨fuel - 3, by omega⟩
    have ew : Unit → wrap64 ((s.size : Int) - (k : Int)) = (s.size : Int) - (k : Int) := fun _ => by simp only [wrap64]; omega
    rw [word_TakeVar.l0, if_pos (by omega), ew (), word_TakeVar.j1, res]
    by_cases hr : k < s.size - a
    · rw [decide_eq_true (show (a : Int) < (s.size : Int) - (k : Int) by omega), if_pos rfl, if_pos hr]
      have e1 : Unit → wrap64 ((a : Int) + (k : Int)) = ((a + k : Nat) : Int) := fun _ => wrap64_nat (a + k) (by omega)
      have e2 : Unit → wrap64 (7 * (k : Int)) = ((7 * k : Nat) : Int) := fun _ => wrap64_nat (7 * k) (by omega)
      have e3 : Unit → wrap64 (((a + k : Nat) : Int) + 1) = ((a + k + 1 : Nat) : Int) := fun _ => wrap64_nat (a + k + 1) (by omega)
      have e4 : Unit → wrap64 ((k : Int) + 1) = ((k + 1 : Nat) : Int) := fun _ => wrap64_nat (k + 1) (by omega)
      rw [e1 (), if_pos (by omega), if_pos (by omega)]
      have hb := at_lt s a k
      have ih := takeF s hs a m (k + 1) fuel (by omega) (by omega)
      have hor : ¬ (k = 9 ∧ 1 < at' s a k) → Go.bits .or .u64 ((pref (at' s a) k : Nat) : Int) (shl .u64 (IntKind.u64.wrap (Go.bits .and .u8 ((at' s a k : Nat) : Int) 127)) ((7 * k : Nat) : Int)) = ((pref (at' s a) (k + 1) : Nat) : Int) := by
        intro h9
        rw [pref_succ]
        exact or_step _ k _ (pref_lt _ k) (by omega) (pref_fits _ k (by omega) (fun h => by omega)) hb
      rw [at_eq]
      generalize at' s a = c at *
      by_cases h9 : k = 9 ∧ 1 < c k
      · rw [if_pos (by omega), decide_eq_true (show ((c k : Nat) : Int) > 1 by omega), word_TakeVar.j2, if_pos rfl]
        by_cases hc : c k < 128
        · rw [if_pos hc, if_pos (Or.inl h9)]
        · rw [if_neg hc]
          obtain rfl : m = 0 := by omega
          rfl
      · have hj : (if (k : Int) = 9 then word_TakeVar.j2 (fuel + 1) s a ((pref c k : Nat) : Int) k ((c k : Nat) : Int) (decide (((c k : Nat) : Int) > 1)) else word_TakeVar.j2 (fuel + 1) s a ((pref c k : Nat) : Int) k ((c k : Nat) : Int) false)
            = word_TakeVar.j2 (fuel + 1) s a ((pref c k : Nat) : Int) k ((c k : Nat) : Int) false := by
          split
          · rw [decide_eq_false (show ¬ ((c k : Nat) : Int) > 1 by omega)]
          · rfl
        rw [hj, word_TakeVar.j2, if_neg (by decide), e2 (), if_pos (by omega), e1 (), e3 (), e4 (), hor h9]
        by_cases hc : c k < 128
        · rw [if_pos (by omega), if_pos hc]
          by_cases h0 : c k = 0
          · rw [if_pos (by omega)]
            by_cases hk0 : 0 < k
            · rw [if_pos (by omega), if_pos (Or.inr ⟨h0, hk0⟩)]
            · rw [if_neg (by omega), if_neg (by rintro (h | h) <;> omega)]
          · rw [if_neg (by omega), if_neg (by rintro (h | h) <;> omega)]
        · rw [if_neg (by omega), if_neg hc, ih]
    · rw [decide_eq_false (show ¬ (a : Int) < (s.size : Int) - (k : Int) by omega), if_neg (by decide), if_neg hr]

theorem shr_nat (v b : Nat) (h : b ≤ 64) : shr .u64 (v : Int) ((b : Nat) : Int) = ((v / 2 ^ b : Nat) : Int) := by
  unfold shr
  rw [Int.toNat_natCast, Nat.min_eq_left (show b ≤ IntKind.u64.bits from h)]
  simp
theorem shr_byte (v i : Nat) (h : i ≤ 8) : (shr .u64 (v : Int) ((8 * i : Nat) : Int)) % 256 = ((v / 256 ^ i % 256 : Nat) : Int) := by
  rw [shr_nat _ _ (by omega), show (256 : Nat) ^ i = 2 ^ (8 * i) by rw [Nat.pow_mul]]
  simp
theorem putF (v n : Nat) (hn : n ≤ 8) : ∀ m i k, i + m = n → m + 1 ≤ k → word_Put.l0 k v (laid v n i) n i = some (strOfNums (ints (byteL v n)))
  | 0, i, k, h, hk => by
    obtain ⟨k, rfl⟩ : ∃ f, k = f + 1 := ⟨k - 1, by omega⟩
    obtain rfl : i = n := by omega
    rw [word_Put.l0, if_neg (by omega), laid_all]; rfl
  | m + 1, i, k, h, hk => by
    obtain ⟨k, rfl⟩ : ∃ f, k = f + 1 := ⟨k - 1, by omega⟩
    have b1 : 8 * i < 9223372036854775808 := by omega
    have b2 : i + 1 < 9223372036854775808 := by omega
    have c1 : (i : Int) < (n : Int) := by omega
    have c2 : (0 : Int) ≤ ((8 * i : Nat) : Int) := by omega
    have c3 : (0 : Int) ≤ (i : Int) := by omega
    have c4 : (i : Int) < ((laid v n i).length : Int) := by rw [laid_length]; omega
    have ih := putF v n hn m (i + 1) k (by omega) (by omega)
    have sh := shr_byte v i (by omega)
    have e1 : wrap64 (8 * (i : Int)) = ((8 * i : Nat) : Int) := wrap64_nat (8 * i) b1
    have e2 : wrap64 ((i : Int) + 1) = ((i + 1 : Nat) : Int) := wrap64_nat (i + 1) b2
    rw [word_Put.l0, if_pos c1, e1, if_pos c2, if_pos c3, if_pos c4, sh, e2, Int.toNat_natCast, laid_set]
    exact ih
theorem put (v m k : Nat) (hm : m ≤ 8) (hk : 10 ≤ k) : word_Put.f k (v : Int) (m : Int) = some (strOfNums (ints (byteL v m))) := by
  obtain ⟨k, rfl⟩ : ∃ f, k = f + 1 := ⟨k - 1, by omega⟩
  have c1 : ¬ (m : Int) < 0 := by omega
  have c2 : ¬ (m : Int) > 8 := by omega
  have c3 : (0 : Int) ≤ (m : Int) := by omega
  have c4 : (m : Int).toNat ≤ 281474976710656 := by omega
  have e : (((laid v m 0).length : Nat) : Int) = (m : Int) := by rw [laid_length]
  rw [word_Put.f, if_neg c1, decide_eq_false c2, word_Put.j0, if_neg (by decide), if_pos c3, if_pos c4, Option.bind_some, Int.toNat_natCast, ← laid_zero v m, e]
  exact putF v m hm m 0 k (by omega) (by omega)
def val (s : ByteArray) : Nat → Nat → Nat
  | _, 0 => 0
  | at_, n + 1 => (bt s at_).toNat + 256 * val s (at_ + 1) n
theorem val_lt (s : ByteArray) : ∀ n at_, val s at_ n < 256 ^ n
  | 0, _ => by simp [val]
  | n + 1, at_ => by
    have := val_lt s n (at_ + 1)
    have := bt_range s at_
    simp only [val, Nat.pow_succ]
    omega
theorem or_low (x y : Int) (h0 : 0 ≤ x) (h1 : x < 72057594037927936) (h2 : 0 ≤ y) (h3 : y < 256) : Go.bits .or .u64 (x * 256) y = x * 256 + y :=
  bits_join .u64 64 (by decide) (fun n h0 h1 => by rw [zw64]; omega) 8 (x * 256) y (by omega) (by omega) (by omega) h2 h3 (by omega)
theorem pow_le7 (n : Nat) (h : n ≤ 7) : 256 ^ n ≤ 72057594037927936 := by
  have := Nat.pow_le_pow_right (n := 256) (by omega) h
  omega
theorem loopF (s : ByteArray) (hs : s.size ≤ 140737488351232) (at_ n : Nat) (hn : n ≤ 8) (hb : at_ + n ≤ s.size) : ∀ i, i ≤ n →
    word_Get.l0 (i + 1) s at_ (val s (at_ + i) (n - i)) ((i : Int) - 1) = some (((val s at_ n : Nat) : Int), true)
  | 0, _ => by simp [word_Get.l0]
  | i + 1, hi => by
    have ih := loopF s hs at_ n hn hb i (by omega)
    rw [word_Get.l0]
    have e1 : wrap64 ((at_ : Int) + (((i + 1 : Nat) : Int) - 1)) = ((at_ + i : Nat) : Int) := by simp only [wrap64]; omega
    have e2 : wrap64 ((((i + 1 : Nat) : Int) - 1) - 1) = (i : Int) - 1 := by simp only [wrap64]; omega
    have hv := val_lt s (n - (i + 1)) (at_ + (i + 1))
    have hp := pow_le7 (n - (i + 1)) (by omega)
    have hbt := bt_range s ((at_ + i : Nat) : Int)
    rw [if_pos (by omega), e1, if_pos (by omega), if_pos (by omega), e2, zw64, zw64]
    have e3 : ((val s (at_ + (i + 1)) (n - (i + 1)) : Nat) : Int) * 256 % 18446744073709551616 = ((val s (at_ + (i + 1)) (n - (i + 1)) : Nat) : Int) * 256 := by omega
    rw [e3, Int.emod_eq_of_lt (by omega) (by omega), or_low _ _ (by omega) (by omega) (by omega) (by omega)]
    have e4 : (((val s (at_ + (i + 1)) (n - (i + 1)) : Nat) : Int) * 256 + bt s ((at_ + i : Nat) : Int)) = ((val s (at_ + i) (n - i) : Nat) : Int) := by
      rw [show n - i = (n - (i + 1)) + 1 by omega, val, Nat.add_assoc]
      omega
    rw [e4]
    exact ih
theorem awake : varvelaw01_awake.f 30 = some true := by
  have h1 : word_Get.f 30 (⟨#[2, 1]⟩ : ByteArray) 0 2 = some (258, true) := by kernel_rfl
  have h2 : word_Put.f 30 258 2 = some ⟨#[2, 1]⟩ := by kernel_rfl
  have h3 : word_Var.f 30 128 = some ⟨#[128, 1]⟩ := by kernel_rfl
  have h4 : word_Zig.f (-1) = some 1 := by kernel_rfl
  have t1 : (⟨#[2, 1]⟩ : ByteArray).toList = ([2, 1] : List UInt8) := by rw [ByteArray.toList_eq]
  have t2 : (⟨#[128, 1]⟩ : ByteArray).toList = ([128, 1] : List UInt8) := by rw [ByteArray.toList_eq]
  rw [varvelaw01_awake.f, h1, h2, Option.bind_some, Option.bind_some, if_pos t1, if_pos rfl, if_pos rfl, h3, Option.bind_some, if_pos t2, h4]
  rfl

theorem widF : ∀ (k v j : Nat), wid v < k → j + k < 9223372036854775808 → word_Width.l0 k v j = some ((j + wid v : Nat) : Int)
  | 0, v, j, h, _ => absurd h (by omega)
  | k + 1, v, j, h, hj => by
    rw [word_Width.l0]
    by_cases hv : v = 0
    · subst hv; rw [if_neg (by omega), wid_zero]; rfl
    · have e1 : (v : Int) / 256 = ((v / 256 : Nat) : Int) := by omega
      rw [wid_pos (by omega)] at h ⊢
      have e2 : wrap64 ((j : Int) + 1) = ((j + 1 : Nat) : Int) := wrap64_nat (j + 1) (by omega)
      rw [if_pos (by omega), e1, e2, widF k (v / 256) (j + 1) (by omega) (by omega)]
      congr 2; omega
theorem wid8 (v : Nat) (h : v < 18446744073709551616) : wid v ≤ 8 := (wid_le 8 v).2 (by
  rw [show 256 ^ 8 = 18446744073709551616 by decide +kernel]; exact h)

theorem bt_mid (a b : ByteArray) (L : List Nat) (hL : ∀ y ∈ L, y < 256) (i x : Nat) (h : L[i]? = some x) : bt (a ++ strOfNums (ints L) ++ b) ((a.size + i : Nat) : Int) = ((x : Nat) : Int) := by
  have hi : i < L.length := by
    rcases Nat.lt_or_ge i L.length with h1 | h1
    · exact h1
    · rw [List.getElem?_eq_none h1] at h; cases h
  have hx : L[i] = x := by rw [List.getElem?_eq_getElem hi] at h; exact Option.some.inj h
  have hx2 : x < 256 := by rw [← hx]; exact hL _ (List.getElem_mem hi)
  have hs : a.data.toList.length = a.size := by rw [Array.length_toList]; rfl
  rw [← rd_bytesOf]
  have e : (a ++ strOfNums (ints L) ++ b).data.toList = a.data.toList ++ ((ints L).map fun n => UInt8.ofNat n.toNat) ++ b.data.toList := by simp [strOfNums]
  unfold rd bytesOf
  rw [e, Int.toNat_natCast]
  simp only [List.map_append, List.getD_eq_getElem?_getD]
  rw [List.getElem?_append_left (by simp [ints]; omega), List.getElem?_append_right (by simp), List.length_map, hs, Nat.add_sub_cancel_left]
  simp only [ints, List.map_map, List.getElem?_map, h, Option.map_some, Option.getD_some, Function.comp]
  rw [Int.toNat_natCast, UInt8.toNat_ofNat_of_lt' hx2]

theorem val_mod (s : ByteArray) : ∀ n v a, (∀ i, i < n → bt s ((a + i : Nat) : Int) = ((v / 256 ^ i % 256 : Nat) : Int)) → val s a n = v % 256 ^ n
  | 0, v, a, _ => by rw [val, Nat.pow_zero, Nat.mod_one]
  | n + 1, v, a, h => by
    have h0 := h 0 (by omega)
    rw [Nat.add_zero, Nat.pow_zero, Nat.div_one] at h0
    have ih := val_mod s n (v / 256) (a + 1) (fun i hi => by
      have := h (i + 1) (by omega)
      rw [Nat.div_div_eq_div_mul, show 256 * 256 ^ i = 256 ^ (i + 1) by rw [Nat.pow_succ, Nat.mul_comm], show a + 1 + i = a + (i + 1) by omega]
      exact this)
    rw [val, h0, ih, Int.toNat_natCast, Nat.pow_succ, Nat.mul_comm (256 ^ n) 256, Nat.mod_mul]

theorem res_at (c : Nat → Nat) (room a k : Nat) (hk : k ≤ 9) (hr : k < room) (h1 : ∀ i, i < k → 128 ≤ c i) (h2 : c k < 128) (h3 : k ≠ 0 → c k ≠ 0) (h9 : k = 9 → c k ≤ 1) :
    ∀ m j, j + m = k → res c room a j (m + (10 - k)) = (((pref c (k + 1) : Nat) : Int), ((a + k + 1 : Nat) : Int), true)
  | 0, j, hj => by
    obtain rfl : j = k := by omega
    obtain ⟨q, hq⟩ : ∃ q, 0 + (10 - j) = q + 1 := ⟨9 - j, by omega⟩
    rw [hq, res, if_pos hr, if_pos h2, if_neg]
    rintro (⟨x, y⟩ | ⟨x, y⟩)
    · have := h9 x; omega
    · exact h3 (by omega) x
  | m + 1, j, hj => by
    have hc := h1 j (by omega)
    rw [show m + 1 + (10 - k) = (m + (10 - k)) + 1 by omega, res, if_pos (by omega), if_neg (by omega)]
    exact res_at c room a k hk hr h1 h2 h3 h9 m (j + 1) (by omega)

theorem takeBack (v : Nat) (hv : v < 18446744073709551616) (a b : ByteArray) (ha : a.size ≤ 65536) (hb : b.size ≤ 65536) (k : Nat) (hk : 40 ≤ k) :
    word_TakeVar.f k (a ++ strOfNums (ints (varL v)) ++ b) (a.size : Int) = some ((v : Int), ((a.size + (varL v).length : Nat) : Int), true) := by
  have hl := varL10 v hv
  have hlen : (strOfNums (ints (varL v))).size = (varL v).length := by rw [strOfNums_size]; simp [ints]
  have hs : (a ++ strOfNums (ints (varL v)) ++ b).size = a.size + (varL v).length + b.size := by rw [ByteArray.size_append, ByteArray.size_append, hlen]
  obtain ⟨n, hn⟩ : ∃ n, (varL v).length = n + 1 := ⟨(varL v).length - 1, by obtain ⟨c, cs, e⟩ := varL_ne v; rw [e]; simp⟩
  have hb2 := bt_mid a b (varL v) (varL_byte v)
  generalize hsd : a ++ strOfNums (ints (varL v)) ++ b = s at *
  have t := takeF s (by omega) a.size 10 0 k rfl (by omega)
  have hrow : varL v = (List.range (n + 1)).map (at' s a.size) := by
    apply List.ext_getElem
    · simp [hn]
    · intro i h1 h2
      have e := hb2 i _ (List.getElem?_eq_getElem h1)
      rw [List.getElem_map, List.getElem_range, at', e, Int.toNat_natCast]
  have hr := (varL_row (at' s a.size) (at_lt s a.size) v n).1 hrow
  have h9 : n = 9 → at' s a.size n ≤ 1 := by
    rintro rfl
    rcases Nat.lt_or_ge 1 (at' s a.size 9) with h | h
    · have := pref_fits_not (at' s a.size) h hr.1.2.1
      have e : v = pref (at' s a.size) 10 := hr.2
      omega
    · exact h
  have h0 := res_at (at' s a.size) (s.size - a.size) a.size n (by omega) (by omega) hr.1.1 hr.1.2.1 hr.1.2.2 h9 n 0 (by omega)
  rw [show n + (10 - n) = 10 by omega, ← hr.2] at h0
  have c1 : ¬ (a.size : Int) < 0 := by omega
  rw [word_TakeVar.f, if_neg c1, hn, ← Nat.add_assoc, ← h0]
  exact t

theorem getBack (v n : Nat) (hn : n ≤ 8) (hv : v < 256 ^ n) (a b : ByteArray) (ha : a.size ≤ 65536) (hb : b.size ≤ 65536) (k : Nat) :
    word_Get.f (n + 2) (a ++ strOfNums (ints (byteL v n)) ++ b) (a.size : Int) (n : Int) = some ((v : Int), true) := by
  have hlen : (strOfNums (ints (byteL v n))).size = n := by rw [strOfNums_size]; simp [ints, byteL_length]
  have hs : (a ++ strOfNums (ints (byteL v n)) ++ b).size = a.size + n + b.size := by rw [ByteArray.size_append, ByteArray.size_append, hlen]
  have hb2 := bt_mid a b (byteL v n) (fun y hy => by
    rw [byteL_range] at hy
    obtain ⟨i, _, rfl⟩ := List.mem_map.1 hy
    exact Nat.mod_lt _ (by decide))
  generalize hsd : a ++ strOfNums (ints (byteL v n)) ++ b = s at *
  have hval := val_mod s n v a.size (fun i hi => hb2 i _ (by rw [byteL_range, List.getElem?_map, List.getElem?_range hi]; rfl))
  rw [Nat.mod_eq_of_lt hv] at hval
  have f := loopF s (by omega) a.size n hn (by omega) n (Nat.le_refl _)
  rw [Nat.sub_self, val, hval] at f
  have c1 : ¬ (n : Int) < 0 := by omega
  have c2 : ¬ (n : Int) > 8 := by omega
  have c3 : ¬ (a.size : Int) < 0 := by omega
  have c4 : ¬ (a.size : Int) > (s.size : Int) := by omega
  have c5 : ¬ (n : Int) > (s.size : Int) - (a.size : Int) := by omega
  have e1 : wrap64 ((s.size : Int) - (a.size : Int)) = (s.size : Int) - (a.size : Int) := by simp only [wrap64]; omega
  have e2 : wrap64 ((n : Int) - 1) = (n : Int) - 1 := by clear e1; simp only [wrap64]; omega
  rw [word_Get.f, if_neg c1, if_neg c2, if_neg c3, if_neg c4, e1, decide_eq_false c5, word_Get.j0, if_neg (by decide), e2]
  exact f

theorem up {α : Type} {g : Nat → Option α} (hm : ∀ k, LeO (g k) (g (k + 1))) {r : α} {a : Nat} (h : g a = some r) : ∀ j, g (a + j) = some r
  | 0 => h
  | j + 1 => hm (a + j) r (up hm h j)
theorem awakeUp (j : Nat) : varvelaw01_awake.f (30 + j) = some true := up (g := fun k => varvelaw01_awake.f k) (fun k => varvelaw01_awake.mono k) awake j
theorem getUp (v n : Nat) (hn : n ≤ 8) (hv : v < 256 ^ n) (a b : ByteArray) (ha : a.size ≤ 65536) (hb : b.size ≤ 65536) (j : Nat) :
    word_Get.f (n + 2 + j) (a ++ strOfNums (ints (byteL v n)) ++ b) (a.size : Int) (n : Int) = some ((v : Int), true) :=
  up (g := fun k => word_Get.f k (a ++ strOfNums (ints (byteL v n)) ++ b) (a.size : Int) (n : Int)) (fun k => word_Get.mono _ _ _ k) (getBack v n hn hv a b ha hb 0) j

theorem WordBack : varvelaw01_WordBack.Pure := by
  intro v n a b hv hn ha hb
  have ⟨hv0, hv1⟩ := u64_of_wf hv
  obtain ⟨v, rfl⟩ := Int.eq_ofNat_of_zero_le hv0
  have hv' : v < 18446744073709551616 := by omega
  clear hv hv0 hv1
  refine ⟨60, ?_⟩
  have hj : varvelaw01_WordBack.j0 60 v n a b true = some true := by
    rw [varvelaw01_WordBack.j0, if_pos rfl, awakeUp 29]; rfl
  rw [varvelaw01_WordBack.f]
  by_cases c1 : (a.size : Int) > 65536
  · rw [if_pos c1, hj]
  rw [if_neg c1]
  by_cases c2 : (b.size : Int) > 65536
  · rw [decide_eq_true c2, hj]
  rw [decide_eq_false c2]
  clear hj
  have ha2 : a.size ≤ 65536 := by omega
  have hb2 : b.size ≤ 65536 := by omega
  have hl := varL10 v hv'
  have hlen : (strOfNums (ints (varL v))).size = (varL v).length := by rw [strOfNums_size]; simp [ints]
  have s1 : a.size + (strOfNums (ints (varL v))).size ≤ 9223372036854775807 := by omega
  have s2 : (a ++ strOfNums (ints (varL v))).size + b.size ≤ 9223372036854775807 := by rw [ByteArray.size_append]; omega
  have f1 : word_Var.f 59 (v : Int) = some (strOfNums (ints (varL v))) := by
    rw [word_Var.f, varF 59 v [] (by omega) (by simp), List.nil_append]
  have f2 := takeBack v hv' a b ha2 hb2 59 (by omega)
  have f3 : word_Width.f 58 (v : Int) = some ((wid v : Nat) : Int) := by
    have := wid8 v hv'
    have e := widF 58 v 0 (by omega) (by omega)
    rw [Nat.zero_add] at e
    rw [word_Width.f]
    exact e
  have c3 : a.size + (varL v).length < 9223372036854775808 := by omega
  have e1 : wrap64 ((a.size : Int) + (((strOfNums (ints (varL v))).size : Nat) : Int)) = ((a.size + (varL v).length : Nat) : Int) := by
    rw [hlen]; exact wrap64_nat (a.size + (varL v).length) c3
  have h2 : varvelaw01_WordBack.j2 58 v n a b true = some true := by
    rw [varvelaw01_WordBack.j2, if_pos rfl, awakeUp 27]; rfl
  rw [varvelaw01_WordBack.j0, if_neg (by decide), f1, Option.bind_some, if_pos s1, if_pos s2, f2, Option.bind_some, if_pos rfl, if_pos rfl, e1, bne_self_eq_false, varvelaw01_WordBack.j1, if_neg (by decide), f3, Option.bind_some]
  clear e1 f1 f2 f3 s1 s2
  by_cases c4 : n < ((wid v : Nat) : Int)
  · rw [if_pos c4, h2]
  rw [if_neg c4]
  by_cases c5 : n > 8
  · rw [decide_eq_true c5, h2]
  rw [decide_eq_false c5]
  obtain ⟨m, rfl⟩ := Int.eq_ofNat_of_zero_le (show 0 ≤ n by omega)
  have hm : m ≤ 8 := by omega
  have hvm : v < 256 ^ m := (wid_le m v).1 (by omega)
  have hlen2 : (strOfNums (ints (byteL v m))).size = m := by rw [strOfNums_size]; simp [ints, byteL_length]
  have s3 : a.size + (strOfNums (ints (byteL v m))).size ≤ 9223372036854775807 := by omega
  have s4 : (a ++ strOfNums (ints (byteL v m))).size + b.size ≤ 9223372036854775807 := by rw [ByteArray.size_append]; omega
  have g := getUp v m hm hvm a b ha2 hb2 (55 - m)
  rw [show m + 2 + (55 - m) = 57 by omega] at g
  rw [varvelaw01_WordBack.j2, if_neg (by decide), put v m 57 hm (by decide), Option.bind_some, if_pos s3, if_pos s4, g, Option.bind_some, if_pos rfl, beq_self_eq_true]

end Go.Proofs.Ytdhlolcpcgpcnaa.PureBack
namespace Go.Proofs.Ytdhlolcpcgpcnaa.Pure
open Go.Proofs.Ytdhlolcpcgpcnaa.PWordBack
theorem WordBack : varvelaw01_WordBack.Pure := PureBack.WordBack
end Go.Proofs.Ytdhlolcpcgpcnaa.Pure
