/- How many bytes a number takes, and how many groups: the plain law, with no program in sight. -/
import Derived.Test.YtdhlolcpcgpcnaaGroups
namespace Go.Proofs.Ytdhlolcpcgpcnaa.Groups

def wid (v : Nat) : Nat := if h : v = 0 then 0 else wid (v / 256) + 1
termination_by v
decreasing_by omega
theorem wid_zero : wid 0 = 0 := by rw [wid, dif_pos rfl]
theorem wid_pos {v : Nat} (h : 0 < v) : wid v = wid (v / 256) + 1 := by rw [wid, dif_neg (by omega)]
theorem wid_le : ∀ (n v : Nat), wid v ≤ n ↔ v < 256 ^ n
  | 0, v => by
    by_cases h : v = 0
    · subst h; simp [wid_zero]
    · rw [wid_pos (by omega), Nat.pow_zero]; omega
  | n + 1, v => by
    by_cases h : v = 0
    · have := Nat.pow_pos (n := n + 1) (show 0 < 256 by omega)
      subst h; rw [wid_zero]; omega
    · have ih := wid_le n (v / 256)
      rw [wid_pos (by omega), Nat.pow_succ]
      omega
theorem len_le : ∀ (n v : Nat), (varL v).length ≤ n + 1 ↔ v < 128 ^ (n + 1)
  | 0, v => by
    by_cases h : v < 128
    · rw [varL_small h]; simp; exact h
    · obtain ⟨c, cs, e⟩ := varL_ne (v / 128)
      rw [varL_big (by omega), e]; simp; omega
  | n + 1, v => by
    by_cases h : v < 128
    · have : (128 : Nat) ^ 1 ≤ 128 ^ (n + 1 + 1) := Nat.pow_le_pow_right (by omega) (by omega)
      rw [varL_small h, List.length_singleton]
      generalize (128 : Nat) ^ (n + 1 + 1) = q at this ⊢
      omega
    · have ih := len_le n (v / 128)
      rw [varL_big (by omega), List.length_cons, Nat.pow_succ]
      omega
theorem len_pos (v : Nat) : 1 ≤ (varL v).length := by
  obtain ⟨c, cs, e⟩ := varL_ne v; rw [e]; simp
theorem p128 (n : Nat) : 128 ^ n = 2 ^ (7 * n) := by rw [Nat.pow_mul]
theorem p256 (n : Nat) : 256 ^ n = 2 ^ (8 * n) := by rw [Nat.pow_mul]
theorem len_mono {v w : Nat} (h : v ≤ w) : (varL v).length ≤ (varL w).length := by
  have := len_pos w
  have h1 := (len_le ((varL w).length - 1) w).1 (by omega)
  have := (len_le ((varL w).length - 1) v).2 (by omega)
  omega
theorem wid_mono {v w : Nat} (h : v ≤ w) : wid v ≤ wid w := by
  have h1 := (wid_le (wid w) w).1 (Nat.le_refl _)
  exact (wid_le (wid w) v).2 (by omega)
theorem wid_len (w : Nat) : 8 * wid w ≤ 7 * (varL w).length + 7 := by
  have hp := len_pos w
  have h1 := (len_le ((varL w).length - 1) w).1 (by omega)
  rw [p128] at h1
  have h2 : wid w ≤ (7 * (varL w).length + 7) / 8 := (wid_le _ w).2 (by
    rw [p256]
    refine Nat.lt_of_lt_of_le h1 (Nat.pow_le_pow_right (by omega) ?_)
    omega)
  omega
theorem len_wid (w : Nat) : 7 * ((varL w).length - 1) ≤ 8 * wid w := by
  have hp := len_pos w
  have h1 := (wid_le (wid w) w).1 (Nat.le_refl _)
  rw [p256] at h1
  rcases Nat.lt_or_ge (8 * wid w) (7 * ((varL w).length - 1)) with h | h
  · have h2 := (len_le ((varL w).length - 2) w).2 (by
      rw [p128]
      refine Nat.lt_of_lt_of_le h1 (Nat.pow_le_pow_right (by omega) ?_)
      omega)
    omega
  · exact h
end Go.Proofs.Ytdhlolcpcgpcnaa.Groups
