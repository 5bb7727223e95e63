/- Numbers as groups of seven bits: the plain law of P1.3 and P1.4, with no program in sight. -/
import Derived.Laws.BytesArg
namespace Go.Proofs.Ytdhlolcpcgpcnaa.Groups

/-- The groups of a number, the lowest first. -/
def varL (v : Nat) : List Nat := if h : v < 128 then [v] else (128 + v % 128) :: varL (v / 128)
termination_by v
decreasing_by omega

theorem varL_small {v : Nat} (h : v < 128) : varL v = [v] := by rw [varL, dif_pos h]
theorem varL_big {v : Nat} (h : 128 ≤ v) : varL v = (128 + v % 128) :: varL (v / 128) := by rw [varL, dif_neg (by omega)]

def sumL : List Nat → Nat
  | [] => 0
  | c :: cs => c % 128 + 128 * sumL cs

def canon : List Nat → Prop
  | [] => False
  | [c] => c < 128
  | c :: d :: cs => 128 ≤ c ∧ c < 256 ∧ canon (d :: cs) ∧ d :: cs ≠ [0]

theorem varL_ne (v : Nat) : ∃ c cs, varL v = c :: cs := by
  by_cases h : v < 128
  · exact ⟨_, _, varL_small h⟩
  · exact ⟨_, _, varL_big (by omega)⟩
theorem varL_zero {v : Nat} (h : varL v = [0]) : v = 0 := by
  by_cases hv : v < 128
  · rw [varL_small hv] at h; simpa using h
  · rw [varL_big (by omega)] at h; simp at h
theorem sumL_varL (v : Nat) : sumL (varL v) = v := by
  induction v using Nat.strongRecOn with
  | ind v ih =>
    by_cases h : v < 128
    · rw [varL_small h]; simp [sumL]; omega
    · rw [varL_big (by omega), sumL, ih (v / 128) (by omega)]; omega
theorem canon_varL (v : Nat) : canon (varL v) := by
  induction v using Nat.strongRecOn with
  | ind v ih =>
    by_cases h : v < 128
    · rw [varL_small h]; exact h
    · have h1 := ih (v / 128) (by omega)
      rw [varL_big (by omega)]
      obtain ⟨c, cs, hc⟩ := varL_ne (v / 128)
      have hne : varL (v / 128) ≠ [0] := fun h0 => by have := varL_zero h0; omega
      rw [hc] at h1 hne ⊢
      exact ⟨by omega, by omega, h1, hne⟩
theorem canon_sum_ne : ∀ L, canon L → L ≠ [0] → sumL L ≠ 0
  | [], h, _ => h.elim
  | [c], h, hn => by
    have : c < 128 := h
    simp only [sumL]
    intro h0
    exact hn (by congr 1; omega)
  | c :: d :: cs, h, _ => by
    have := canon_sum_ne (d :: cs) h.2.2.1 h.2.2.2
    rw [sumL]; omega
theorem varL_sum : ∀ L, canon L → varL (sumL L) = L
  | [], h => h.elim
  | [c], h => by
    have hc : c < 128 := h
    have : sumL [c] = c := by simp only [sumL]; omega
    rw [this, varL_small hc]
  | c :: d :: cs, h => by
    have ih := varL_sum (d :: cs) h.2.2.1
    have hn := canon_sum_ne (d :: cs) h.2.2.1 h.2.2.2
    have h1 := h.1
    have h2 := h.2.1
    rw [sumL, varL_big (by omega)]
    rw [show (c % 128 + 128 * sumL (d :: cs)) / 128 = sumL (d :: cs) by omega, ih, show 128 + (c % 128 + 128 * sumL (d :: cs)) % 128 = c by omega]
theorem varL_eq (v : Nat) (L : List Nat) : varL v = L ↔ canon L ∧ v = sumL L := by
  constructor
  · rintro rfl; exact ⟨canon_varL v, (sumL_varL v).symm⟩
  · rintro ⟨h, rfl⟩; exact varL_sum L h
theorem sumL_append (x : Nat) : ∀ l, sumL (l ++ [x]) = sumL l + 128 ^ l.length * (x % 128)
  | [] => by simp [sumL]
  | c :: l => by
    rw [List.cons_append, sumL, sumL_append x l, sumL, List.length_cons, Nat.pow_succ, Nat.mul_add, Nat.add_assoc, ← Nat.mul_assoc, Nat.mul_comm 128 (128 ^ l.length)]
theorem sumL_lt : ∀ L, sumL L < 128 ^ L.length
  | [] => by simp [sumL]
  | c :: l => by
    have := sumL_lt l
    rw [sumL, List.length_cons, Nat.pow_succ]; omega
theorem canon_append (x : Nat) : ∀ l, canon (l ++ [x]) ↔ (∀ y ∈ l, 128 ≤ y ∧ y < 256) ∧ x < 128 ∧ (l ≠ [] → x ≠ 0)
  | [] => by simp [canon]
  | [c] => by
    simp only [List.cons_append, List.nil_append, canon, List.mem_singleton, forall_eq]
    constructor
    · rintro ⟨a, b, d, e⟩; exact ⟨⟨a, b⟩, d, fun _ h => e (by rw [h])⟩
    · rintro ⟨⟨a, b⟩, d, e⟩; exact ⟨a, b, d, fun h => e (by simp) (by simpa using h)⟩
  | c :: d :: l => by
    have ih := canon_append x (d :: l)
    simp only [List.cons_append] at ih ⊢
    simp only [canon, ih]
    constructor
    · rintro ⟨a, b, ⟨h1, h2, h3⟩, e⟩
      exact ⟨by rintro y (_ | ⟨_, hy⟩); exact ⟨a, b⟩; exact h1 y hy, h2, fun _ => h3 (by simp)⟩
    · rintro ⟨h1, h2, h3⟩
      refine ⟨(h1 c (by simp)).1, (h1 c (by simp)).2, ⟨fun y hy => h1 y (List.mem_cons_of_mem _ hy), h2, fun _ => h3 (by simp)⟩, ?_⟩
      intro h; cases l <;> simp at h

/-- The number of the first n groups of a row. -/
def pref (c : Nat → Nat) (n : Nat) : Nat := sumL ((List.range n).map c)
theorem pref_zero (c : Nat → Nat) : pref c 0 = 0 := rfl
theorem pref_succ (c : Nat → Nat) (n : Nat) : pref c (n + 1) = pref c n + 128 ^ n * (c n % 128) := by
  simp only [pref, List.range_succ, List.map_append, List.map_cons, List.map_nil, sumL_append, List.length_map, List.length_range]
theorem pref_lt (c : Nat → Nat) (n : Nat) : pref c n < 128 ^ n := by
  have := sumL_lt ((List.range n).map c); simpa [pref] using this
theorem varL_row (c : Nat → Nat) (hc : ∀ i, c i < 256) (v k : Nat) : varL v = (List.range (k + 1)).map c ↔ ((∀ i, i < k → 128 ≤ c i) ∧ c k < 128 ∧ (k ≠ 0 → c k ≠ 0)) ∧ v = pref c (k + 1) := by
  rw [varL_eq]
  simp only [pref, List.range_succ, List.map_append, List.map_cons, List.map_nil]
  rw [canon_append]
  have e : (List.range k).map c ≠ [] ↔ k ≠ 0 := by simp
  rw [e]
  constructor
  · rintro ⟨⟨h1, h2⟩, h3⟩
    exact ⟨⟨fun i hi => (h1 (c i) (List.mem_map.2 ⟨i, List.mem_range.2 hi, rfl⟩)).1, h2⟩, h3⟩
  · rintro ⟨⟨h1, h2⟩, h3⟩
    refine ⟨⟨fun y hy => ?_, h2⟩, h3⟩
    obtain ⟨i, hi, rfl⟩ := List.mem_map.1 hy
    exact ⟨h1 i (List.mem_range.1 hi), hc i⟩
theorem varL_length : ∀ (n v : Nat), v < 128 ^ (n + 1) → (varL v).length ≤ n + 1
  | 0, v, h => by rw [varL_small (by simpa using h)]; simp
  | n + 1, v, h => by
    by_cases hv : v < 128
    · rw [varL_small hv]; simp
    · rw [varL_big (by omega), List.length_cons]
      have := varL_length n (v / 128) (by rw [Nat.pow_succ] at h; omega)
      omega
theorem varL_byte (v : Nat) : ∀ y ∈ varL v, y < 256 := by
  induction v using Nat.strongRecOn with
  | ind v ih =>
    by_cases h : v < 128
    · rw [varL_small h]; intro y hy; simp at hy; omega
    · rw [varL_big (by omega)]
      rintro y (_ | ⟨_, hy⟩)
      · omega
      · exact ih _ (by omega) y hy

/-- What is told of the groups from place k on, if m are still allowed and all before go on. -/
def res (c : Nat → Nat) (room at_ : Nat) : Nat → Nat → Int × Int × Bool
  | _, 0 => (0, 0, false)
  | k, m + 1 => if k < room then (if c k < 128 then (if k = 9 ∧ 1 < c k ∨ c k = 0 ∧ 0 < k then (0, 0, false) else (((pref c (k + 1) : Nat) : Int), ((at_ + k + 1 : Nat) : Int), true)) else res c room at_ (k + 1) m) else (0, 0, false)

theorem pow9 : (128 : Nat) ^ 9 = 9223372036854775808 := by decide +kernel
theorem pow_le9 (k : Nat) (h : k ≤ 9) : 128 ^ k ≤ 9223372036854775808 := by rw [← pow9]; exact Nat.pow_le_pow_right (by omega) h
/-- The number of the groups fits into 64 bits if the tenth is at most 1. -/
theorem pref_fits (c : Nat → Nat) (k : Nat) (hk : k ≤ 9) (h9 : k = 9 → c k ≤ 1) : pref c k + 128 ^ k * (c k % 128) < 18446744073709551616 := by
  have h1 := pref_lt c k
  rcases Nat.lt_or_ge k 9 with h | h
  · have h2 := pref_lt c (k + 1)
    rw [pref_succ] at h2
    have h3 := pow_le9 (k + 1) (by omega)
    omega
  · obtain rfl : k = 9 := by omega
    have := h9 rfl
    rw [pow9] at h1 ⊢
    have : c 9 % 128 ≤ 1 := by omega
    omega
theorem pref_fits_not (c : Nat → Nat) (hk : 1 < c 9) (hc : c 9 < 128) : 18446744073709551616 ≤ pref c 10 := by
  rw [pref_succ, pow9]; omega
end Go.Proofs.Ytdhlolcpcgpcnaa.Groups
