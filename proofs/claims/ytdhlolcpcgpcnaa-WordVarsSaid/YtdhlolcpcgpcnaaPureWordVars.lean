import Derived.Test.YtdhlolcpcgpcnaaPWordVarsx2
import Derived.Test.YtdhlolcpcgpcnaaGroups
set_option linter.unusedSimpArgs false
set_option linter.unusedVariables false
namespace Go.Proofs.Ytdhlolcpcgpcnaa.PureVars
open Go.RowKit Go.Proofs.Ytdhlolcpcgpcnaa.PWordVars Go.Proofs.YtdhlolcpcgpcnaaW.PrintWords Go.Proofs.YtdhlolcpcgpcnaaW.PrintLast Go.Proofs.YtdhlolcpcgpcnaaW.PrintMore
open Go.Proofs.Ytdhlolcpcgpcnaa.Groups

theorem zw64 (x : Int) : IntKind.u64.wrap x = x % 18446744073709551616 := by simp [IntKind.wrap, IntKind.bits, IntKind.signed]
theorem i64_of_wf {n : Int} (h : (Lit.int .i64 n).wf = true) : -9223372036854775808 ≤ n ∧ n < 9223372036854775808 := by
  simp [Lit.wf, IntKind.min, IntKind.max, IntKind.signed, IntKind.bits] at h; omega
theorem u64_of_wf {n : Int} (h : (Lit.int .u64 n).wf = true) : 0 ≤ n ∧ n < 18446744073709551616 := by
  simp [Lit.wf, IntKind.min, IntKind.max, IntKind.signed, IntKind.bits] at h; omega
theorem wrap64_nat (x : Nat) (h : x < 9223372036854775808) : wrap64 ((x : Nat) : Int) = ((x : Nat) : Int) := by simp only [wrap64]; omega
theorem or128 (x : Nat) (h : x < 256) : Go.bits .or .u8 (x : Int) 128 = ((128 + x % 128 : Nat) : Int) := by
  have : ∀ y : Fin 256, Go.bits .or .u8 ((y.val : Nat) : Int) 128 = ((128 + y.val % 128 : Nat) : Int) := by decide +kernel
  exact this ⟨x, h⟩
theorem and127 (x : Nat) (h : x < 256) : Go.bits .and .u8 (x : Int) 127 = ((x % 128 : Nat) : Int) := by
  have : ∀ y : Fin 256, Go.bits .and .u8 ((y.val : Nat) : Int) 127 = ((y.val % 128 : Nat) : Int) := by decide +kernel
  exact this ⟨x, h⟩
def ints (l : List Nat) : List Int := l.map fun n => ((n : Nat) : Int)

theorem varF : ∀ (k v : Nat) (acc : List Int), (varL v).length ≤ k → acc.length + k < 140737488355328 → word_Var.l0 k v acc = some (strOfNums (acc ++ ints (varL v)))
  | 0, v, acc, h, _ => by
    obtain ⟨c, cs, e⟩ := varL_ne v
    rw [e] at h; simp at h
  | k + 1, v, acc, h, ha => by
    rw [word_Var.l0]
    by_cases hv : v < 128
    · rw [if_neg (by omega), if_pos (by omega), varL_small hv]
      have : (v : Int) % 256 = (v : Int) := by omega
      rw [this]; rfl
    · have e1 : (v : Int) % 256 = ((v % 256 : Nat) : Int) := by omega
      have e2 : (v : Int) / 128 = ((v / 128 : Nat) : Int) := by omega
      have e3 : 128 + v % 256 % 128 = 128 + v % 128 := by omega
      rw [varL_big (by omega)] at h ⊢
      simp only [List.length_cons] at h
      rw [if_pos (by omega), if_pos (by omega), e1, or128 _ (by omega), e2, e3, varF k (v / 128) _ (by omega) (by simp; omega)]
      simp [ints]
theorem strOfNums_append (a b : List Int) : strOfNums a ++ strOfNums b = strOfNums (a ++ b) := by
  apply ByteArray.ext; simp [strOfNums]
theorem varR : ∀ (k v : Nat), v < 18446744073709551616 → (varL v).length ≤ k → k ≤ 1000 → varveref01_Var.f k v = some (strOfNums (ints (varL v)))
  | 0, v, _, h, _ => by
    obtain ⟨c, cs, e⟩ := varL_ne v
    rw [e] at h; simp at h
  | k + 1, v, hv64, h, hk => by
    rw [varveref01_Var.f]
    by_cases hv : v < 128
    · rw [if_pos (by omega), varL_small hv]
      have : (v : Int) % 256 = (v : Int) := by omega
      rw [this]; rfl
    · rw [varL_big (by omega)] at h ⊢
      simp only [List.length_cons] at h
      have e1 : IntKind.u64.wrap (Int.tdiv (v : Int) 128) = ((v / 128 : Nat) : Int) := by rw [zw64, Int.tdiv_eq_ediv_of_nonneg (by omega)]; omega
      have e2 : IntKind.u64.wrap (128 + Int.tmod (v : Int) 128) % 256 = ((128 + v % 128 : Nat) : Int) := by rw [zw64, Int.tmod_eq_emod_of_nonneg (by omega)]; omega
      rw [if_neg (by omega), Option.bind_some, e1, varR k (v / 128) (by omega) (by omega) (by omega), Option.bind_some, e2]
      rw [strOfNums_size, strOfNums_size]
      rw [if_pos (by simp [ints]; omega), strOfNums_append]
      rfl
theorem varL10 (v : Nat) (h : v < 18446744073709551616) : (varL v).length ≤ 10 := varL_length 9 v (by rw [Nat.pow_succ, pow9]; omega)

/-- The bytes from a place on. -/
def at' (s : ByteArray) (a : Nat) (i : Nat) : Nat := (bt s ((a + i : Nat) : Int)).toNat
theorem at_lt (s : ByteArray) (a i : Nat) : at' s a i < 256 := by have := bt_range s ((a + i : Nat) : Int); unfold at'; omega
theorem at_eq (s : ByteArray) (a i : Nat) : bt s ((a + i : Nat) : Int) = ((at' s a i : Nat) : Int) := by have := bt_range s ((a + i : Nat) : Int); unfold at'; omega

theorem or_step (v k c : Nat) (hv : v < 128 ^ k) (hk : k ≤ 9) (hf : v + 128 ^ k * (c % 128) < 18446744073709551616) (hc : c < 256) :
    Go.bits .or .u64 (v : Int) (shl .u64 (IntKind.u64.wrap (Go.bits .and .u8 (c : Int) 127)) ((7 * k : Nat) : Int)) = ((v + 128 ^ k * (c % 128) : Nat) : Int) := by
  rw [and127 c hc, zw64]
  have e1 : ((c % 128 : Nat) : Int) % 18446744073709551616 = ((c % 128 : Nat) : Int) := by omega
  rw [e1]
  have e2 : (min ((7 * k : Nat) : Int).toNat IntKind.u64.bits) = 7 * k := by
    rw [Int.toNat_natCast]; exact Nat.min_eq_left (by show 7 * k ≤ 64; omega)
  have e3 : (2 : Nat) ^ (7 * k) = 128 ^ k := by rw [Nat.pow_mul]
  have e4 : shl .u64 ((c % 128 : Nat) : Int) ((7 * k : Nat) : Int) = ((128 ^ k * (c % 128) : Nat) : Int) := by
    unfold shl
    rw [e2, zw64]
    have : ((c % 128 : Nat) : Int) * 2 ^ (7 * k) = ((128 ^ k * (c % 128) : Nat) : Int) := by
      rw [Int.natCast_mul, Int.mul_comm, ← e3]; simp
    rw [this]
    generalize 128 ^ k * (c % 128) = p at hf
    omega
  rw [e4]
  have h := bits_join .u64 64 (by decide) (fun n h0 h1 => by rw [zw64]; omega) (7 * k) ((128 ^ k * (c % 128) : Nat) : Int) (v : Int) (Int.natCast_nonneg _) (by
      have : ((2 : Int) ^ (7 * k)) = ((2 ^ (7 * k) : Nat) : Int) := by simp
      rw [this, e3, ← Int.natCast_emod, Nat.mul_mod_right]; rfl) (by generalize 128 ^ k * (c % 128) = p at hf; omega) (Int.natCast_nonneg _) (by
      have : ((2 : Int) ^ (7 * k)) = ((2 ^ (7 * k) : Nat) : Int) := by simp
      rw [this, e3]; exact_mod_cast hv) (by generalize 128 ^ k * (c % 128) = p at hf; omega)
  have hcomm : ∀ x y : Int, Go.bits .or .u64 x y = Go.bits .or .u64 y x := by intro x y; simp only [Go.bits, BitVec.or_comm]
  rw [hcomm, h, Int.add_comm]
  simp

theorem takeF (s : ByteArray) (hs : s.size ≤ 140737488351232) (a : Nat) : ∀ (m k fuel : Nat), k + m = 10 → 3 * m + 2 ≤ fuel →
    word_TakeVar.l0 fuel s a ((pref (at' s a) k : Nat) : Int) (k : Int) = some (res (at' s a) (s.size - a) a k m)
  | 0, k, fuel, hk, hf => by
    obtain ⟨fuel, rfl⟩ : ∃ f, fuel = f + 2 := ⟨fuel - 2, by omega⟩
    rw [word_TakeVar.l0, if_neg (by omega), word_TakeVar.j1]; rfl
  | m + 1, k, fuel, hk, hf => by
    obtain ⟨fuel, rfl⟩ : ∃ f, fuel = f + 3 := ⟨fuel - 3, by omega⟩
    have ew : Unit → wrap64 ((s.size : Int) - (k : Int)) = (s.size : Int) - (k : Int) := fun _ => by simp only [wrap64]; omega
    rw [word_TakeVar.l0, if_pos (by omega), ew (), word_TakeVar.j1, res]
    by_cases hr : k < s.size - a
    · rw [decide_eq_true (show (a : Int) < (s.size : Int) - (k : Int) by omega), if_pos rfl, if_pos hr]
      have e1 : Unit → wrap64 ((a : Int) + (k : Int)) = ((a + k : Nat) : Int) := fun _ => wrap64_nat (a + k) (by omega)
      have e2 : Unit → wrap64 (7 * (k : Int)) = ((7 * k : Nat) : Int) := fun _ => wrap64_nat (7 * k) (by omega)
      have e3 : Unit → wrap64 (((a + k : Nat) : Int) + 1) = ((a + k + 1 : Nat) : Int) := fun _ => wrap64_nat (a + k + 1) (by omega)
      have e4 : Unit → wrap64 ((k : Int) + 1) = ((k + 1 : Nat) : Int) := fun _ => wrap64_nat (k + 1) (by omega)
      rw [e1 (), if_pos (by omega), if_pos (by omega)]
      have hb := at_lt s a k
      have ih := takeF s hs a m (k + 1) fuel (by omega) (by omega)
      have hor : ¬ (k = 9 ∧ 1 < at' s a k) → Go.bits .or .u64 ((pref (at' s a) k : Nat) : Int) (shl .u64 (IntKind.u64.wrap (Go.bits .and .u8 ((at' s a k : Nat) : Int) 127)) ((7 * k : Nat) : Int)) = ((pref (at' s a) (k + 1) : Nat) : Int) := by
        intro h9
        rw [pref_succ]
        exact or_step _ k _ (pref_lt _ k) (by omega) (pref_fits _ k (by omega) (fun h => by omega)) hb
      rw [at_eq]
      generalize at' s a = c at *
      by_cases h9 : k = 9 ∧ 1 < c k
      · rw [if_pos (by omega), decide_eq_true (show ((c k : Nat) : Int) > 1 by omega), word_TakeVar.j2, if_pos rfl]
        by_cases hc : c k < 128
        · rw [if_pos hc, if_pos (Or.inl h9)]
        · rw [if_neg hc]
          obtain rfl : m = 0 := by omega
          rfl
      · have hj : (if (k : Int) = 9 then word_TakeVar.j2 (fuel + 1) s a ((pref c k : Nat) : Int) k ((c k : Nat) : Int) (decide (((c k : Nat) : Int) > 1)) else word_TakeVar.j2 (fuel + 1) s a ((pref c k : Nat) : Int) k ((c k : Nat) : Int) false)
            = word_TakeVar.j2 (fuel + 1) s a ((pref c k : Nat) : Int) k ((c k : Nat) : Int) false := by
          split
          · rw [decide_eq_false (show ¬ ((c k : Nat) : Int) > 1 by omega)]
          · rfl
        rw [hj, word_TakeVar.j2, if_neg (by decide), e2 (), if_pos (by omega), e1 (), e3 (), e4 (), hor h9]
        by_cases hc : c k < 128
        · rw [if_pos (by omega), if_pos hc]
          by_cases h0 : c k = 0
          · rw [if_pos (by omega)]
            by_cases hk0 : 0 < k
            · rw [if_pos (by omega), if_pos (Or.inr ⟨h0, hk0⟩)]
            · rw [if_neg (by omega), if_neg (by rintro (h | h) <;> omega)]
          · rw [if_neg (by omega), if_neg (by rintro (h | h) <;> omega)]
        · rw [if_neg (by omega), if_neg hc, ih]
    · rw [decide_eq_false (show ¬ (a : Int) < (s.size : Int) - (k : Int) by omega), if_neg (by decide), if_neg hr]

/-! The document's answer. -/
theorem u8_inj : ∀ (l l' : List Nat), (∀ y ∈ l, y < 256) → (∀ y ∈ l', y < 256) → l.map UInt8.ofNat = l'.map UInt8.ofNat → l = l' := by
  intro l l' h h' e
  have k : ∀ l : List Nat, (∀ y ∈ l, y < 256) → (l.map UInt8.ofNat).map UInt8.toNat = l := by
    intro l h
    rw [List.map_map]
    conv => rhs; rw [← List.map_id l]
    apply List.map_congr_left
    intro y hy
    exact UInt8.toNat_ofNat_of_lt' (h y hy)
  rw [← k l h, ← k l' h', e]
theorem cut_toList (s : ByteArray) (a n : Nat) (h : a + n ≤ s.size) : (s.extract a (a + n)).toList = ((List.range n).map (at' s a)).map UInt8.ofNat := by
  rw [ByteArray.toList_eq]
  apply List.ext_getElem
  · have : s.data.size = s.size := rfl
    simp; omega
  · intro i h1 h2
    simp only [List.length_map, List.length_range] at h2
    have hi : a + i < s.size := by omega
    simp only [List.getElem_map, List.getElem_range, at', bt, Int.toNat_natCast, dif_pos hi]
    simp
    rfl
theorem strs_eq (v a k : Nat) (s : ByteArray) (h : a + (k + 1) ≤ s.size) :
    (strOfNums (ints (varL v))).toList = (s.extract a (a + (k + 1))).toList ↔ varL v = (List.range (k + 1)).map (at' s a) := by
  have e : (strOfNums (ints (varL v))).toList = (varL v).map UInt8.ofNat := by
    rw [ByteArray.toList_eq, strOfNums_data, ints, List.map_map]
    rfl
  rw [e, cut_toList s a (k + 1) h]
  constructor
  · refine u8_inj _ _ (varL_byte v) ?_
    intro y hy
    obtain ⟨i, _, rfl⟩ := List.mem_map.1 hy
    exact at_lt s a i
  · intro h; rw [h]

theorem mulmod (u p b q : Nat) (hq : q = p % 18446744073709551616) :
    ((u % 18446744073709551616 + (q * b) % 18446744073709551616) % 18446744073709551616) = (u + p * b) % 18446744073709551616 := by
  rw [hq]
  conv => rhs; rw [Nat.add_mod, Nat.mul_mod]
  conv => lhs; rw [Nat.mul_mod]
  simp
theorem stepA (c : Nat) (h : c < 256) : IntKind.u64.wrap (Int.tmod (c : Int) 128) = ((c % 128 : Nat) : Int) := by
  rw [zw64, Int.tmod_eq_emod_of_nonneg (by omega)]; omega
theorem stepB (z : Nat) : (z : Int) % 18446744073709551616 = ((z % 18446744073709551616 : Nat) : Int) := by omega
theorem stepC (q p p' : Nat) (hq : q = p % 18446744073709551616) (hp' : p' = p * 128) : (q : Int) * 128 % 18446744073709551616 = ((p' % 18446744073709551616 : Nat) : Int) := by omega
theorem stepD (u z : Nat) : (((u % 18446744073709551616 : Nat) : Int) + ((z % 18446744073709551616 : Nat) : Int)) % 18446744073709551616 = (((u % 18446744073709551616 + z % 18446744073709551616) % 18446744073709551616 : Nat) : Int) := by omega
theorem stepR (s : ByteArray) (hs : s.size ≤ 140737488351232) (a n j fuel : Nat) (u q p c p' : Nat) (hj : j < n) (hn : n ≤ 10) (hb : a + n ≤ s.size)
    (hc : bt s ((a + j : Nat) : Int) = (c : Int)) (h256 : c < 256) (hq : q = p % 18446744073709551616) (hp' : p' = p * 128) :
    varveref01_TakeVar.l1 (fuel + 1) s a n ((u % 18446744073709551616 : Nat) : Int) ((q : Nat) : Int) (j : Int)
      = varveref01_TakeVar.l1 fuel s a n (((u + p * (c % 128)) % 18446744073709551616 : Nat) : Int) ((p' % 18446744073709551616 : Nat) : Int) ((j + 1 : Nat) : Int) := by
  have c1 : (j : Int) < (n : Int) := by omega
  have c2 : (0 : Int) ≤ ((a + j : Nat) : Int) := by omega
  have c3 : ((a + j : Nat) : Int) < (s.size : Int) := by omega
  have b1 : a + j < 9223372036854775808 := by omega
  have b2 : j + 1 < 9223372036854775808 := by omega
  have e1 : wrap64 ((a : Int) + (j : Int)) = ((a + j : Nat) : Int) := wrap64_nat (a + j) b1
  have e2 : wrap64 ((j : Int) + 1) = ((j + 1 : Nat) : Int) := wrap64_nat (j + 1) b2
  have e3 : IntKind.u64.wrap (Int.tmod (c : Int) 128) = ((c % 128 : Nat) : Int) := stepA c h256
  have e4 : IntKind.u64.wrap ((q : Int) * ((c % 128 : Nat) : Int)) = ((q * (c % 128) % 18446744073709551616 : Nat) : Int) := by
    rw [zw64, ← Int.natCast_mul]; exact stepB _
  have e5 : IntKind.u64.wrap ((q : Int) * 128) = ((p' % 18446744073709551616 : Nat) : Int) := by rw [zw64]; exact stepC q p p' hq hp'
  have e7 : IntKind.u64.wrap (((u % 18446744073709551616 : Nat) : Int) + ((q * (c % 128) % 18446744073709551616 : Nat) : Int)) = (((u + p * (c % 128)) % 18446744073709551616 : Nat) : Int) := by
    rw [zw64, ← mulmod u p (c % 128) q hq]; exact stepD _ _
  rw [varveref01_TakeVar.l1, if_pos c1, e1, if_pos c2, if_pos c3, hc, e3, e4, e5, e7, e2]
theorem loopR (s : ByteArray) (hs : s.size ≤ 140737488351232) (a n : Nat) (hn : n ≤ 10) (hb : a + n ≤ s.size) : ∀ (m j fuel q : Nat), j + m = n → q = 128 ^ j % 18446744073709551616 →
    varveref01_TakeVar.l1 (fuel + m) s a n ((pref (at' s a) j % 18446744073709551616 : Nat) : Int) ((q : Nat) : Int) (j : Int)
      = varveref01_TakeVar.l1 fuel s a n ((pref (at' s a) n % 18446744073709551616 : Nat) : Int) ((128 ^ n % 18446744073709551616 : Nat) : Int) (n : Int)
  | 0, j, fuel, q, hj, hq => by
    obtain rfl : j = n := by simpa using hj
    rw [hq]; rfl
  | m + 1, j, fuel, q, hj, hq => by
    have h := stepR s hs a n j (fuel + m) (pref (at' s a) j) q (128 ^ j) (at' s a j) (128 ^ (j + 1)) (by omega) hn hb (at_eq s a j) (at_lt s a j) hq (Nat.pow_succ ..)
    rw [← Nat.add_assoc, h, ← pref_succ]
    exact loopR s hs a n hn hb m (j + 1) fuel _ (by omega) rfl
theorem endR (s : ByteArray) (hs : s.size ≤ 140737488351232) (a k fuel V : Nat) (p : Int) (hk : k ≤ 9) (hb : a + (k + 1) ≤ s.size) (hf : 10 ≤ fuel) (hf2 : fuel ≤ 1000) (hV : V < 18446744073709551616) :
    varveref01_TakeVar.l1 (fuel + 1) s a ((k + 1 : Nat) : Int) ((V : Nat) : Int) p ((k + 1 : Nat) : Int)
      = if varL V = (List.range (k + 1)).map (at' s a) then some ((V : Int), ((a + k + 1 : Nat) : Int), true) else varveref01_TakeVar.l0 fuel s a ((k + 1 + 1 : Nat) : Int) := by
  have c1 : ¬ ((k + 1 : Nat) : Int) < ((k + 1 : Nat) : Int) := by omega
  have c2 : (0 : Int) ≤ (a : Int) := by omega
  have c3 : (a : Int) ≤ ((a + (k + 1) : Nat) : Int) := by omega
  have c4 : ((a + (k + 1) : Nat) : Int) ≤ (s.size : Int) := by omega
  have h10 := varL10 V hV
  have hv := varR fuel V hV (by omega) hf2
  have e1 : wrap64 ((a : Int) + ((k + 1 : Nat) : Int)) = ((a + (k + 1) : Nat) : Int) := wrap64_nat (a + (k + 1)) (by omega)
  rw [varveref01_TakeVar.l1, if_neg c1, hv, Option.bind_some, e1, if_pos c2, if_pos c3, if_pos c4, Int.toNat_natCast, Int.toNat_natCast]
  have e2 : wrap64 (((k + 1 : Nat) : Int) + 1) = ((k + 1 + 1 : Nat) : Int) := wrap64_nat (k + 1 + 1) (by omega)
  rw [e2]
  have := strs_eq V a k s hb
  by_cases h : varL V = (List.range (k + 1)).map (at' s a)
  · rw [if_pos h, if_pos (this.2 h)]; rfl
  · rw [if_neg h, if_neg (fun g => h (this.1 g))]
theorem roundR (s : ByteArray) (hs : s.size ≤ 140737488351232) (a k fuel : Nat) (hk : k ≤ 9) (hf : 30 ≤ fuel) (hf2 : fuel ≤ 1000) :
    ∃ f, fuel ≤ f + 13 ∧ f ≤ fuel ∧ varveref01_TakeVar.l0 fuel s a ((k + 1 : Nat) : Int) =
      if k < s.size - a then (if varL (pref (at' s a) (k + 1) % 18446744073709551616) = (List.range (k + 1)).map (at' s a) then some (((pref (at' s a) (k + 1) % 18446744073709551616 : Nat) : Int), ((a + k + 1 : Nat) : Int), true) else varveref01_TakeVar.l0 f s a ((k + 1 + 1 : Nat) : Int)) else some (0, 0, false) := by
  obtain ⟨f, rfl⟩ : ∃ f, fuel = (f + 1 + (k + 1)) + 1 + 1 := ⟨fuel - (k + 4), by omega⟩
  refine ⟨f, by omega, by omega, ?_⟩
  have c1 : ((k + 1 : Nat) : Int) ≤ 10 := by omega
  have c2 : ¬ (a : Int) < 0 := by omega
  rw [varveref01_TakeVar.l0, if_pos c1, if_neg c2]
  by_cases c3 : (a : Int) > (s.size : Int)
  · rw [if_pos c3, varveref01_TakeVar.j1, if_pos rfl, if_neg (by omega)]
  · rw [if_neg c3, varveref01_TakeVar.j1]
    have ew : wrap64 ((s.size : Int) - (a : Int)) = (s.size : Int) - (a : Int) := by simp only [wrap64]; omega
    rw [ew]
    by_cases hr : k < s.size - a
    · rw [decide_eq_false (show ¬ (s.size : Int) - (a : Int) < ((k + 1 : Nat) : Int) by omega), if_neg (by decide), if_pos hr]
      clear ew
      have h1 := loopR s hs a (k + 1) (by omega) (by omega) (k + 1) 0 (f + 1) 1 (by omega) rfl
      have h2 : varveref01_TakeVar.l1 (f + 1 + (k + 1)) s a ((k + 1 : Nat) : Int) 0 1 0 = varveref01_TakeVar.l1 (f + 1 + (k + 1)) s a ((k + 1 : Nat) : Int) ((pref (at' s a) 0 % 18446744073709551616 : Nat) : Int) ((1 : Nat) : Int) ((0 : Nat) : Int) := rfl
      rw [h2, h1, endR s hs a k f _ _ hk (by omega) (by omega) (by omega) (Nat.mod_lt _ (by decide))]
    · rw [decide_eq_true (show (s.size : Int) - (a : Int) < ((k + 1 : Nat) : Int) by omega), if_pos rfl, if_neg hr]
theorem dead (s : ByteArray) (hs : s.size ≤ 140737488351232) (a i : Nat) (hi : at' s a i < 128) : ∀ (m k fuel : Nat), k + m = 10 → i < k → 13 * m + 30 ≤ fuel → fuel ≤ 1000 →
    varveref01_TakeVar.l0 fuel s a ((k + 1 : Nat) : Int) = some (0, 0, false)
  | 0, k, fuel, hk, hik, hf, hf2 => by
    obtain ⟨f, rfl⟩ : ∃ f, fuel = f + 1 := ⟨fuel - 1, by omega⟩
    rw [varveref01_TakeVar.l0, if_neg (by omega)]
  | m + 1, k, fuel, hk, hik, hf, hf2 => by
    obtain ⟨f, h1, h2, h3⟩ := roundR s hs a k fuel (by omega) (by omega) hf2
    rw [h3]
    split
    · split
      · rename_i hv
        have := ((varL_row (at' s a) (at_lt s a) _ k).1 hv).1.1 i hik
        omega
      · exact dead s hs a i hi m (k + 1) f (by omega) (by omega) (by omega) (by omega)
    · rfl
theorem takeR (s : ByteArray) (hs : s.size ≤ 140737488351232) (a : Nat) : ∀ (m k fuel : Nat), k + m = 10 → (∀ i, i < k → 128 ≤ at' s a i) → 13 * m + 30 ≤ fuel → fuel ≤ 1000 →
    varveref01_TakeVar.l0 fuel s a ((k + 1 : Nat) : Int) = some (res (at' s a) (s.size - a) a k m)
  | 0, k, fuel, hk, hik, hf, hf2 => by
    obtain ⟨f, rfl⟩ : ∃ f, fuel = f + 1 := ⟨fuel - 1, by omega⟩
    rw [varveref01_TakeVar.l0, if_neg (by omega)]; rfl
  | m + 1, k, fuel, hk, hik, hf, hf2 => by
    obtain ⟨f, h1, h2, h3⟩ := roundR s hs a k fuel (by omega) (by omega) hf2
    rw [h3, res]
    by_cases hr : k < s.size - a
    · rw [if_pos hr, if_pos hr]
      have hrow := varL_row (at' s a) (at_lt s a) (pref (at' s a) (k + 1) % 18446744073709551616) k
      by_cases hc : at' s a k < 128
      · rw [if_pos hc]
        by_cases hbad : k = 9 ∧ 1 < at' s a k ∨ at' s a k = 0 ∧ 0 < k
        · rw [if_pos hbad, if_neg, dead s hs a k hc m (k + 1) f (by omega) (by omega) (by omega) (by omega)]
          intro hv
          have ⟨⟨_, _, h5⟩, h6⟩ := hrow.1 hv
          rcases hbad with ⟨rfl, h7⟩ | ⟨h7, h8⟩
          · have h6' : pref (at' s a) 10 % 18446744073709551616 = pref (at' s a) 10 := h6
            have := pref_fits_not (at' s a) h7 hc
            have : pref (at' s a) 10 % 18446744073709551616 < 18446744073709551616 := Nat.mod_lt _ (by decide)
            omega
          · exact h5 (by omega) h7
        · have hfit := pref_fits (at' s a) k (by omega) (fun h => by omega)
          rw [← pref_succ] at hfit
          have hmod : pref (at' s a) (k + 1) % 18446744073709551616 = pref (at' s a) (k + 1) := Nat.mod_eq_of_lt hfit
          rw [hmod] at hrow ⊢
          rw [if_neg hbad, if_pos (hrow.2 ⟨⟨hik, hc, fun h0 h => hbad (Or.inr ⟨h, by omega⟩)⟩, rfl⟩)]
      · rw [if_neg hc, if_neg (fun hv => hc (hrow.1 hv).1.2.1)]
        exact takeR s hs a m (k + 1) f (by omega) (fun i hi => by
          rcases Nat.lt_or_ge i k with h | h
          · exact hik i h
          · obtain rfl : i = k := by omega
            omega) (by omega) (by omega)
    · rw [if_neg hr, if_neg hr]

theorem WordVars : varvelaw01_WordVars.Pure := by
  intro v s a hv hs ha
  have ⟨hv0, hv1⟩ := u64_of_wf hv
  have ⟨ha0, ha1⟩ := i64_of_wf ha
  obtain ⟨v, rfl⟩ := Int.eq_ofNat_of_zero_le hv0
  refine ⟨200, ?_⟩
  have h10 := varL10 v (by omega)
  have f1 := varF 200 v [] (by omega) (by simp)
  have r1 := varR 200 v (by omega) (by omega) (by omega)
  have ht : ∃ r, word_TakeVar.f 200 s a = some r ∧ varveref01_TakeVar.f 200 s a = some r := by
    by_cases hneg : a < 0
    · refine ⟨(0, 0, false), by rw [word_TakeVar.f, if_pos hneg], ?_⟩
      rw [varveref01_TakeVar.f, varveref01_TakeVar.l0, if_pos (by decide), if_pos hneg, varveref01_TakeVar.j1, if_pos rfl]
    · obtain ⟨a, rfl⟩ := Int.eq_ofNat_of_zero_le (show 0 ≤ a by omega)
      refine ⟨_, ?_, takeR s hs a 10 0 200 rfl (fun i hi => by omega) (by omega) (by omega)⟩
      rw [word_TakeVar.f, if_neg hneg]
      exact takeF s hs a 10 0 200 rfl (by omega)
  obtain ⟨r, h1, h2⟩ := ht
  have f2 : word_Var.f 200 (v : Int) = some (strOfNums (ints (varL v))) := f1
  rw [varvelaw01_WordVars.f, h1, h2, f2, r1]
  simp

end Go.Proofs.Ytdhlolcpcgpcnaa.PureVars
namespace Go.Proofs.Ytdhlolcpcgpcnaa.Pure
open Go.Proofs.Ytdhlolcpcgpcnaa.PWordVars
theorem WordVars : varvelaw01_WordVars.Pure := PureVars.WordVars
end Go.Proofs.Ytdhlolcpcgpcnaa.Pure
