import Derived.Test.YtdhlolcpcgpcnaaPWordPutsx1
import Derived.Test.YtdhlolcpcgpcnaaBytesN
set_option linter.unusedSimpArgs false
set_option linter.unusedVariables false
namespace Go.Proofs.Ytdhlolcpcgpcnaa.PurePuts
open Go.RowKit Go.Proofs.Ytdhlolcpcgpcnaa.PWordPuts Go.Proofs.YtdhlolcpcgpcnaaW.PrintWords Go.Proofs.YtdhlolcpcgpcnaaW.PrintLast Go.Proofs.YtdhlolcpcgpcnaaW.PrintMore
open Go.Proofs.Ytdhlolcpcgpcnaa.Groups

theorem zw64 (x : Int) : IntKind.u64.wrap x = x % 18446744073709551616 := by simp [IntKind.wrap, IntKind.bits, IntKind.signed]
theorem i64_of_wf {n : Int} (h : (Lit.int .i64 n).wf = true) : -9223372036854775808 ≤ n ∧ n < 9223372036854775808 := by
  simp [Lit.wf, IntKind.min, IntKind.max, IntKind.signed, IntKind.bits] at h; omega
theorem u64_of_wf {n : Int} (h : (Lit.int .u64 n).wf = true) : 0 ≤ n ∧ n < 18446744073709551616 := by
  simp [Lit.wf, IntKind.min, IntKind.max, IntKind.signed, IntKind.bits] at h; omega
theorem wrap64_nat (x : Nat) (h : x < 9223372036854775808) : wrap64 ((x : Nat) : Int) = ((x : Nat) : Int) := by simp only [wrap64]; omega
def ints (l : List Nat) : List Int := l.map fun n => ((n : Nat) : Int)
theorem shr_byte (v i : Nat) (h : i ≤ 8) : (shr .u64 (v : Int) ((8 * i : Nat) : Int)) % 256 = ((v / 256 ^ i % 256 : Nat) : Int) := by
  unfold shr
  rw [Int.toNat_natCast, Nat.min_eq_left (show 8 * i ≤ IntKind.u64.bits by show 8 * i ≤ 64; omega)]
  rw [show (256 : Nat) ^ i = 2 ^ (8 * i) by rw [Nat.pow_mul]]
  simp
theorem putF (v n : Nat) (hn : n ≤ 8) : ∀ m i, i + m = n → word_Put.l0 (m + 1) v (laid v n i) n i = some (strOfNums (ints (byteL v n)))
  | 0, i, h => by
    obtain rfl : i = n := by omega
    rw [word_Put.l0, if_neg (by omega), laid_all]; rfl
  | m + 1, i, h => by
    have b1 : 8 * i < 9223372036854775808 := by omega
    have b2 : i + 1 < 9223372036854775808 := by omega
    have c1 : (i : Int) < (n : Int) := by omega
    have c2 : (0 : Int) ≤ ((8 * i : Nat) : Int) := by omega
    have c3 : (0 : Int) ≤ (i : Int) := by omega
    have c4 : (i : Int) < ((laid v n i).length : Int) := by rw [laid_length]; omega
    have ih := putF v n hn m (i + 1) (by omega)
    have sh := shr_byte v i (by omega)
    have e1 : wrap64 (8 * (i : Int)) = ((8 * i : Nat) : Int) := wrap64_nat (8 * i) b1
    have e2 : wrap64 ((i : Int) + 1) = ((i + 1 : Nat) : Int) := wrap64_nat (i + 1) b2
    rw [word_Put.l0, if_pos c1, e1, if_pos c2, if_pos c3, if_pos c4, sh, e2, Int.toNat_natCast, laid_set]
    exact ih
theorem str_nil (a : ByteArray) : a ++ strOfNums [] = a := by
  apply ByteArray.ext; simp [strOfNums]
theorem str_cons (a : ByteArray) (x : Int) (l : List Int) : (a ++ strOfNums [x]) ++ strOfNums l = a ++ strOfNums (x :: l) := by
  apply ByteArray.ext; simp [strOfNums]
theorem putR (n : Nat) (hn : n ≤ 8) : ∀ m i v s, i + m = n → v < 18446744073709551616 → s.size + m ≤ 1000 → varveref01_Put.l0 (m + 1) ((v : Nat) : Int) n s ((i : Nat) : Int) = some (s ++ strOfNums (ints (byteL v m)))
  | 0, i, v, s, h, hv, hs => by
    rw [varveref01_Put.l0, if_neg (by omega)]
    exact congrArg some (str_nil s).symm
  | m + 1, i, v, s, h, hv, hs => by
    have b2 : i + 1 < 9223372036854775808 := by omega
    have c1 : (i : Int) < (n : Int) := by omega
    have e1 : Int.tmod (v : Int) 256 % 256 = ((v % 256 : Nat) : Int) := by rw [Int.tmod_eq_emod_of_nonneg (by omega)]; omega
    have e3 : IntKind.u64.wrap (Int.tdiv (v : Int) 256) = ((v / 256 : Nat) : Int) := by rw [zw64, Int.tdiv_eq_ediv_of_nonneg (by omega)]; omega
    have hsz : (strOfNums [((v % 256 : Nat) : Int)]).size = 1 := strOfNums_size _
    have c2 : s.size + (strOfNums [((v % 256 : Nat) : Int)]).size ≤ 9223372036854775807 := by rw [hsz]; omega
    have hs2 : (s ++ strOfNums [((v % 256 : Nat) : Int)]).size + m ≤ 1000 := by rw [ByteArray.size_append, hsz]; omega
    have ih := putR n hn m (i + 1) (v / 256) (s ++ strOfNums [((v % 256 : Nat) : Int)]) (by omega) (by omega) hs2
    have e2 : wrap64 ((i : Int) + 1) = ((i + 1 : Nat) : Int) := wrap64_nat (i + 1) b2
    rw [varveref01_Put.l0, if_pos c1, e1, Option.bind_some, if_pos c2, e3, e2, ih, str_cons]
    rfl
theorem widF : ∀ (k v j : Nat), wid v < k → j + k < 9223372036854775808 → word_Width.l0 k v j = some ((j + wid v : Nat) : Int)
  | 0, v, j, h, _ => absurd h (by omega)
  | k + 1, v, j, h, hj => by
    rw [word_Width.l0]
    by_cases hv : v = 0
    · subst hv; rw [if_neg (by omega), wid_zero]; rfl
    · have e1 : (v : Int) / 256 = ((v / 256 : Nat) : Int) := by omega
      rw [wid_pos (by omega)] at h ⊢
      have e2 : wrap64 ((j : Int) + 1) = ((j + 1 : Nat) : Int) := wrap64_nat (j + 1) (by omega)
      rw [if_pos (by omega), e1, e2, widF k (v / 256) (j + 1) (by omega) (by omega)]
      congr 2; omega
theorem widR : ∀ (k v j : Nat), v < 18446744073709551616 → wid v < k → j + k < 9223372036854775808 → varveref01_Width.l0 k v j = some ((j + wid v : Nat) : Int)
  | 0, v, j, _, h, _ => absurd h (by omega)
  | k + 1, v, j, hb, h, hj => by
    rw [varveref01_Width.l0]
    by_cases hv : v = 0
    · subst hv; rw [if_neg (by omega), wid_zero]; rfl
    · have e1 : IntKind.u64.wrap (Int.tdiv (v : Int) 256) = ((v / 256 : Nat) : Int) := by rw [zw64, Int.tdiv_eq_ediv_of_nonneg (by omega)]; omega
      rw [wid_pos (by omega)] at h ⊢
      have e2 : wrap64 ((j : Int) + 1) = ((j + 1 : Nat) : Int) := wrap64_nat (j + 1) (by omega)
      rw [if_pos (by omega), e1, e2, widR k (v / 256) (j + 1) (by omega) (by omega) (by omega)]
      congr 2; omega
theorem wid8 (v : Nat) (h : v < 18446744073709551616) : wid v ≤ 8 := (wid_le 8 v).2 (by
  rw [show 256 ^ 8 = 18446744073709551616 by decide +kernel]; exact h)
theorem putsBoth (v : Nat) (n : Int) (hv : v < 18446744073709551616) : ∃ k s, word_Put.f (k + 1) v n = some s ∧ varveref01_Put.f (k + 1) v n = some s ∧ 10 ≤ k ∧ k ≤ 1000 := by
  by_cases c1 : n < 0
  · exact ⟨10, _, by rw [word_Put.f, if_pos c1, word_Put.j0, if_pos rfl], by rw [varveref01_Put.f, if_pos c1, varveref01_Put.j0, if_pos rfl], Nat.le_refl _, by decide⟩
  by_cases c2 : n > 8
  · exact ⟨10, _, by rw [word_Put.f, if_neg c1, decide_eq_true c2, word_Put.j0, if_pos rfl], by rw [varveref01_Put.f, if_neg c1, decide_eq_true c2, varveref01_Put.j0, if_pos rfl], Nat.le_refl _, by decide⟩
  obtain ⟨m, rfl⟩ := Int.eq_ofNat_of_zero_le (show 0 ≤ n by omega)
  have hm : m ≤ 8 := by omega
  have f : ∀ j, word_Put.l0 (m + 1 + j) v (laid v m 0) m 0 = some (strOfNums (ints (byteL v m))) := by
    intro j
    induction j with
    | zero => exact putF v m hm m 0 (by omega)
    | succ j ih => exact (word_Put.mono_l (m + 1 + j)).2 _ _ _ _ _ ih
  have r : ∀ j, varveref01_Put.l0 (m + 1 + j) v m ⟨#[]⟩ 0 = some (strOfNums (ints (byteL v m))) := by
    intro j
    induction j with
    | zero =>
      have h := putR m hm m 0 v ⟨#[]⟩ (by omega) hv (by show 0 + m ≤ 1000; omega)
      have e : (⟨#[]⟩ : ByteArray) ++ strOfNums (ints (byteL v m)) = strOfNums (ints (byteL v m)) := by apply ByteArray.ext; simp
      rw [e] at h; exact h
    | succ j ih => exact (varveref01_Put.mono_l (m + 1 + j)).2 _ _ _ _ _ ih
  refine ⟨m + 1 + 10, strOfNums (ints (byteL v m)), ?_, ?_, by omega, by omega⟩
  · have c3 : (0 : Int) ≤ (m : Int) := by omega
    have c4 : (m : Int).toNat ≤ 281474976710656 := by omega
    have e : (((laid v m 0).length : Nat) : Int) = (m : Int) := by rw [laid_length]
    rw [word_Put.f, if_neg c1, decide_eq_false c2, word_Put.j0, if_neg (by decide), if_pos c3, if_pos c4, Option.bind_some, Int.toNat_natCast, ← laid_zero v m, e]
    exact f 10
  · rw [varveref01_Put.f, if_neg c1, decide_eq_false c2, varveref01_Put.j0, if_neg (by decide)]
    exact r 10

theorem WordPuts : varvelaw01_WordPuts.Pure := by
  intro v n hv hn
  have ⟨hv0, hv1⟩ := u64_of_wf hv
  obtain ⟨v, rfl⟩ := Int.eq_ofNat_of_zero_le hv0
  have hv' : v < 18446744073709551616 := by omega
  obtain ⟨k, s, h1, h2, hk, hk2⟩ := putsBoth v n hv'
  have h8 := wid8 v hv'
  have a3 : word_Width.f (k + 1) (v : Int) = some ((wid v : Nat) : Int) := by
    have e := widF (k + 1) v 0 (by omega) (by omega)
    rw [Nat.zero_add] at e
    rw [word_Width.f]
    exact e
  have a4 : varveref01_Width.f (k + 1) (v : Int) = some ((wid v : Nat) : Int) := by
    have e := widR (k + 1) v 0 hv' (by omega) (by omega)
    rw [Nat.zero_add] at e
    rw [varveref01_Width.f]
    exact e
  refine ⟨k + 1, ?_⟩
  rw [varvelaw01_WordPuts.f, h1, h2, Option.bind_some, Option.bind_some, if_pos rfl, a3, a4, Option.bind_some, Option.bind_some, beq_self_eq_true]

end Go.Proofs.Ytdhlolcpcgpcnaa.PurePuts
namespace Go.Proofs.Ytdhlolcpcgpcnaa.Pure
open Go.Proofs.Ytdhlolcpcgpcnaa.PWordPuts
theorem WordPuts : varvelaw01_WordPuts.Pure := PurePuts.WordPuts
end Go.Proofs.Ytdhlolcpcgpcnaa.Pure
