import Derived.Test.YtdhlolcpcgpcnaaPWordShortx1
import Derived.Test.YtdhlolcpcgpcnaaWidth
set_option linter.unusedSimpArgs false
set_option linter.unusedVariables false
namespace Go.Proofs.Ytdhlolcpcgpcnaa.PureShort
open Go.RowKit Go.Proofs.Ytdhlolcpcgpcnaa.PWordShort Go.Proofs.YtdhlolcpcgpcnaaW.PrintWords Go.Proofs.YtdhlolcpcgpcnaaW.PrintLast Go.Proofs.YtdhlolcpcgpcnaaW.PrintMore
open Go.Proofs.Ytdhlolcpcgpcnaa.Groups

theorem u64_of_wf {n : Int} (h : (Lit.int .u64 n).wf = true) : 0 ≤ n ∧ n < 18446744073709551616 := by
  simp [Lit.wf, IntKind.min, IntKind.max, IntKind.signed, IntKind.bits] at h; omega
theorem wrap64_nat (x : Nat) (h : x < 9223372036854775808) : wrap64 ((x : Nat) : Int) = ((x : Nat) : Int) := by simp only [wrap64]; omega
theorem or128 (x : Nat) (h : x < 256) : Go.bits .or .u8 (x : Int) 128 = ((128 + x % 128 : Nat) : Int) := by
  have : ∀ y : Fin 256, Go.bits .or .u8 ((y.val : Nat) : Int) 128 = ((128 + y.val % 128 : Nat) : Int) := by decide +kernel
  exact this ⟨x, h⟩
def ints (l : List Nat) : List Int := l.map fun n => ((n : Nat) : Int)

theorem varF : ∀ (k v : Nat) (acc : List Int), (varL v).length ≤ k → acc.length + k < 140737488355328 → word_Var.l0 k v acc = some (strOfNums (acc ++ ints (varL v)))
  | 0, v, acc, h, _ => by
    obtain ⟨c, cs, e⟩ := varL_ne v
    rw [e] at h; simp at h
  | k + 1, v, acc, h, ha => by
    rw [word_Var.l0]
    by_cases hv : v < 128
    · rw [if_neg (by omega), if_pos (by omega), varL_small hv]
      have : (v : Int) % 256 = (v : Int) := by omega
      rw [this]; rfl
    · have e1 : (v : Int) % 256 = ((v % 256 : Nat) : Int) := by omega
      have e2 : (v : Int) / 128 = ((v / 128 : Nat) : Int) := by omega
      have e3 : 128 + v % 256 % 128 = 128 + v % 128 := by omega
      rw [varL_big (by omega)] at h ⊢
      simp only [List.length_cons] at h
      rw [if_pos (by omega), if_pos (by omega), e1, or128 _ (by omega), e2, e3, varF k (v / 128) _ (by omega) (by simp; omega)]
      simp [ints]
theorem varL10 (v : Nat) (h : v < 18446744073709551616) : (varL v).length ≤ 10 := varL_length 9 v (by rw [Nat.pow_succ, pow9]; omega)
theorem widF : ∀ (k v j : Nat), wid v < k → j + k < 9223372036854775808 → word_Width.l0 k v j = some ((j + wid v : Nat) : Int)
  | 0, v, j, h, _ => absurd h (by omega)
  | k + 1, v, j, h, hj => by
    rw [word_Width.l0]
    by_cases hv : v = 0
    · subst hv; rw [if_neg (by omega), wid_zero]; rfl
    · have e1 : (v : Int) / 256 = ((v / 256 : Nat) : Int) := by omega
      rw [wid_pos (by omega)] at h ⊢
      have e2 : wrap64 ((j : Int) + 1) = ((j + 1 : Nat) : Int) := wrap64_nat (j + 1) (by omega)
      rw [if_pos (by omega), e1, e2, widF k (v / 256) (j + 1) (by omega) (by omega)]
      congr 2; omega
theorem wid8 (v : Nat) (h : v < 18446744073709551616) : wid v ≤ 8 := (wid_le 8 v).2 (by
  rw [show 256 ^ 8 = 18446744073709551616 by decide +kernel]; exact h)
theorem size_strs (l : List Nat) : (strOfNums (ints l)).size = l.length := by rw [strOfNums_size]; simp [ints]

theorem small1 (b : Nat) (h : 1 ≤ b) (h2 : b ≤ 10) : wrap64 (7 * wrap64 ((b : Int) - 1)) = 7 * (b : Int) - 7 := by
  have : wrap64 ((b : Int) - 1) = (b : Int) - 1 := by simp only [wrap64]; omega
  rw [this]; clear this; simp only [wrap64]; omega
theorem small2 (y : Nat) (h : y ≤ 8) : wrap64 (8 * (y : Int)) = 8 * (y : Int) := by simp only [wrap64]; omega
theorem small3 (y : Nat) (h : y ≤ 8) : wrap64 (8 * (y : Int) - 7) = 8 * (y : Int) - 7 := by simp only [wrap64]; omega
theorem small4 (b : Nat) (h2 : b ≤ 10) : wrap64 (7 * (b : Int)) = 7 * (b : Int) := by simp only [wrap64]; omega
theorem core (k : Nat) (v w : Int) (s t : ByteArray) (a b x y : Nat) (a1 : word_Var.f k v = some s) (a2 : word_Var.f k w = some t) (a3 : word_Width.f k v = some (x : Int)) (a4 : word_Width.f k w = some (y : Int))
    (ha : s.size = a) (hb : t.size = b) (h2 : b ≤ 10) (h4 : y ≤ 8) (h5 : a ≤ b) (h6 : x ≤ y) (h7 : 8 * y ≤ 7 * b + 7) (h8 : 7 * (b - 1) ≤ 8 * y) (h9 : 1 ≤ a) : varvelaw01_WordShort.j0 (k + 1) v w = some true := by
  have c1 : (a : Int) ≥ 1 := by omega
  have c2 : (a : Int) ≤ (b : Int) := by omega
  have c3 : (b : Int) ≤ 10 := by omega
  have c4 : (x : Int) ≤ (y : Int) := by omega
  have c5 : (y : Int) ≤ 8 := by omega
  have c6 : 7 * (b : Int) ≥ 8 * (y : Int) - 7 := by omega
  have c7 : 7 * (b : Int) - 7 ≤ 8 * (y : Int) := by omega
  have e1 := small1 b (by omega) h2
  have e2 := small2 y h4
  have e3 := small3 y h4
  have e4 := small4 b h2
  rw [varvelaw01_WordShort.j0, a1, a2, Option.bind_some, Option.bind_some, ha, hb, if_pos c1, if_pos c2, if_pos c3, a3, a4, Option.bind_some, Option.bind_some, if_pos c4, Option.bind_some, if_pos c5, Option.bind_some, e2, e3, e4, if_pos c6, Option.bind_some, e1, e2, decide_eq_true c7]
theorem varF' (v : Nat) (h : v < 18446744073709551616) : word_Var.f 19 (v : Int) = some (strOfNums (ints (varL v))) := by
  have := varL10 v h
  rw [word_Var.f, varF 19 v [] (by omega) (by simp), List.nil_append]
theorem widF' (v : Nat) (h : v < 18446744073709551616) : word_Width.f 19 (v : Int) = some ((wid v : Nat) : Int) := by
  have := wid8 v h
  have e := widF 19 v 0 (by omega) (by omega)
  rw [Nat.zero_add] at e
  rw [word_Width.f]
  exact e
theorem both (v w : Nat) (hw : w < 18446744073709551616) (h : v ≤ w) : varvelaw01_WordShort.j0 20 v w = some true :=
  core 19 v w _ _ _ _ _ _ (varF' v (by omega)) (varF' w hw) (widF' v (by omega)) (widF' w hw) (size_strs _) (size_strs _) (varL10 w hw) (wid8 w hw) (len_mono h) (wid_mono h) (wid_len w) (len_wid w) (len_pos v)

theorem WordShort : varvelaw01_WordShort.Pure := by
  intro v w hv hw
  have ⟨hv0, hv1⟩ := u64_of_wf hv
  have ⟨hw0, hw1⟩ := u64_of_wf hw
  obtain ⟨v, rfl⟩ := Int.eq_ofNat_of_zero_le hv0
  obtain ⟨w, rfl⟩ := Int.eq_ofNat_of_zero_le hw0
  refine ⟨20, ?_⟩
  rw [varvelaw01_WordShort.f]
  by_cases h : (v : Int) > (w : Int)
  · rw [if_pos h]; exact both w v (by omega) (by omega)
  · rw [if_neg h]; exact both v w (by omega) (by omega)

end Go.Proofs.Ytdhlolcpcgpcnaa.PureShort
namespace Go.Proofs.Ytdhlolcpcgpcnaa.Pure
open Go.Proofs.Ytdhlolcpcgpcnaa.PWordShort
theorem WordShort : varvelaw01_WordShort.Pure := PureShort.WordShort
end Go.Proofs.Ytdhlolcpcgpcnaa.Pure
