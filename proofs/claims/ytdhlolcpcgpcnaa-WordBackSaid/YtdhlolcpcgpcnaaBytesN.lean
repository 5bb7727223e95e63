/- The bytes of a number, the lowest first: the plain law, with no program in sight. -/
import Derived.Test.YtdhlolcpcgpcnaaWidth
namespace Go.Proofs.Ytdhlolcpcgpcnaa.Groups

def byteL : Nat → Nat → List Nat
  | _, 0 => []
  | v, n + 1 => v % 256 :: byteL (v / 256) n
theorem byteL_length : ∀ n v, (byteL v n).length = n
  | 0, _ => rfl
  | n + 1, v => by rw [byteL, List.length_cons, byteL_length n]
theorem byteL_range : ∀ n v, byteL v n = (List.range n).map fun j => v / 256 ^ j % 256
  | 0, _ => rfl
  | n + 1, v => by
    rw [byteL, byteL_range n, List.range_succ_eq_map, List.map_cons, List.map_map, Nat.pow_zero, Nat.div_one]
    congr 1
    apply List.map_congr_left
    intro j _
    show v / 256 / 256 ^ j % 256 = v / 256 ^ (j + 1) % 256
    rw [Nat.div_div_eq_div_mul, Nat.pow_succ, Nat.mul_comm]
/-- The row of n places of which the first i are laid. -/
def laid (v n i : Nat) : List Int := (List.range n).map fun j => if j < i then ((v / 256 ^ j % 256 : Nat) : Int) else 0
theorem laid_length (v n i : Nat) : (laid v n i).length = n := by simp [laid]
theorem laid_zero (v n : Nat) : laid v n 0 = List.replicate n 0 := by
  apply List.ext_getElem
  · simp [laid]
  · intro j h1 h2; simp [laid]
theorem laid_set (v n i : Nat) : (laid v n i).set i ((v / 256 ^ i % 256 : Nat) : Int) = laid v n (i + 1) := by
  apply List.ext_getElem
  · simp [laid]
  · intro j h1 h2
    rw [List.getElem_set]
    simp only [laid, List.getElem_map, List.getElem_range]
    by_cases h : i = j
    · subst h; rw [if_pos rfl, if_pos (Nat.lt_succ_self _)]
    · rw [if_neg h]
      by_cases hj : j < i
      · rw [if_pos hj, if_pos (by omega)]
      · rw [if_neg hj, if_neg (by omega)]
theorem laid_all (v n : Nat) : laid v n n = (byteL v n).map fun x => ((x : Nat) : Int) := by
  rw [byteL_range, List.map_map]
  apply List.map_congr_left
  intro j hj
  rw [if_pos (List.mem_range.1 hj)]
  rfl
end Go.Proofs.Ytdhlolcpcgpcnaa.Groups
