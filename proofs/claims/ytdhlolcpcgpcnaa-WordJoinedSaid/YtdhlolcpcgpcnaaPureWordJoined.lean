import Derived.Test.YtdhlolcpcgpcnaaPWordJoinedx2
import Derived.Test.YtdhlolcpcgpcnaaBytesN
set_option linter.unusedSimpArgs false
set_option linter.unusedVariables false
namespace Go.Proofs.Ytdhlolcpcgpcnaa.PureJoined
open Go.RowKit Go.Proofs.Ytdhlolcpcgpcnaa.PWordJoined Go.Proofs.YtdhlolcpcgpcnaaW.PrintWords Go.Proofs.YtdhlolcpcgpcnaaW.PrintLast Go.Proofs.YtdhlolcpcgpcnaaW.PrintMore
open Go.Proofs.Ytdhlolcpcgpcnaa.Groups

theorem u64_of_wf {n : Int} (h : (Lit.int .u64 n).wf = true) : 0 ≤ n ∧ n < 18446744073709551616 := by
  simp [Lit.wf, IntKind.min, IntKind.max, IntKind.signed, IntKind.bits] at h; omega
theorem wrap64_nat (x : Nat) (h : x < 9223372036854775808) : wrap64 ((x : Nat) : Int) = ((x : Nat) : Int) := by simp only [wrap64]; omega
def ints (l : List Nat) : List Int := l.map fun n => ((n : Nat) : Int)
theorem shr_nat (v b : Nat) (h : b ≤ 64) : shr .u64 (v : Int) ((b : Nat) : Int) = ((v / 2 ^ b : Nat) : Int) := by
  unfold shr
  rw [Int.toNat_natCast, Nat.min_eq_left (show b ≤ IntKind.u64.bits from h)]
  simp
theorem shr_byte (v i : Nat) (h : i ≤ 8) : (shr .u64 (v : Int) ((8 * i : Nat) : Int)) % 256 = ((v / 256 ^ i % 256 : Nat) : Int) := by
  rw [shr_nat _ _ (by omega), show (256 : Nat) ^ i = 2 ^ (8 * i) by rw [Nat.pow_mul]]
  simp
theorem putF (v n : Nat) (hn : n ≤ 8) : ∀ m i k, i + m = n → m + 1 ≤ k → word_Put.l0 k v (laid v n i) n i = some (strOfNums (ints (byteL v n)))
  | 0, i, k, h, hk => by
    obtain ⟨k, rfl⟩ : ∃ f, k = f + 1 := ⟨k - 1, by omega⟩
    obtain rfl : i = n := by omega
    rw [word_Put.l0, if_neg (by omega), laid_all]; rfl
  | m + 1, i, k, h, hk => by
    obtain ⟨k, rfl⟩ : ∃ f, k = f + 1 := ⟨k - 1, by omega⟩
    have b1 : 8 * i < 9223372036854775808 := by omega
    have b2 : i + 1 < 9223372036854775808 := by omega
    have c1 : (i : Int) < (n : Int) := by omega
    have c2 : (0 : Int) ≤ ((8 * i : Nat) : Int) := by omega
    have c3 : (0 : Int) ≤ (i : Int) := by omega
    have c4 : (i : Int) < ((laid v n i).length : Int) := by rw [laid_length]; omega
    have ih := putF v n hn m (i + 1) k (by omega) (by omega)
    have sh := shr_byte v i (by omega)
    have e1 : wrap64 (8 * (i : Int)) = ((8 * i : Nat) : Int) := wrap64_nat (8 * i) b1
    have e2 : wrap64 ((i : Int) + 1) = ((i + 1 : Nat) : Int) := wrap64_nat (i + 1) b2
    rw [word_Put.l0, if_pos c1, e1, if_pos c2, if_pos c3, if_pos c4, sh, e2, Int.toNat_natCast, laid_set]
    exact ih
theorem put (v m k : Nat) (hm : m ≤ 8) (hk : 10 ≤ k) : word_Put.f k (v : Int) (m : Int) = some (strOfNums (ints (byteL v m))) := by
  obtain ⟨k, rfl⟩ : ∃ f, k = f + 1 := ⟨k - 1, by omega⟩
  have c1 : ¬ (m : Int) < 0 := by omega
  have c2 : ¬ (m : Int) > 8 := by omega
  have c3 : (0 : Int) ≤ (m : Int) := by omega
  have c4 : (m : Int).toNat ≤ 281474976710656 := by omega
  have e : (((laid v m 0).length : Nat) : Int) = (m : Int) := by rw [laid_length]
  rw [word_Put.f, if_neg c1, decide_eq_false c2, word_Put.j0, if_neg (by decide), if_pos c3, if_pos c4, Option.bind_some, Int.toNat_natCast, ← laid_zero v m, e]
  exact putF v m hm m 0 k (by omega) (by omega)
theorem byteL_join : ∀ n m v, byteL v (n + m) = byteL v n ++ byteL (v / 256 ^ n) m
  | 0, m, v => by rw [Nat.zero_add, byteL, List.nil_append, Nat.pow_zero, Nat.div_one]
  | n + 1, m, v => by
    rw [show n + 1 + m = (n + m) + 1 by omega, byteL, byteL_join n m, byteL, List.cons_append, Nat.div_div_eq_div_mul, Nat.pow_succ, Nat.mul_comm]
theorem strs_join (a b : List Nat) : strOfNums (ints a) ++ strOfNums (ints b) = strOfNums (ints (a ++ b)) := by
  apply ByteArray.ext; simp [strOfNums, ints]

theorem awake : varvelaw01_awake.f 30 = some true := by
  have h1 : word_Get.f 30 (⟨#[2, 1]⟩ : ByteArray) 0 2 = some (258, true) := by kernel_rfl
  have h2 : word_Put.f 30 258 2 = some ⟨#[2, 1]⟩ := by kernel_rfl
  have h3 : word_Var.f 30 128 = some ⟨#[128, 1]⟩ := by kernel_rfl
  have h4 : word_Zig.f (-1) = some 1 := by kernel_rfl
  have t1 : (⟨#[2, 1]⟩ : ByteArray).toList = ([2, 1] : List UInt8) := by rw [ByteArray.toList_eq]
  have t2 : (⟨#[128, 1]⟩ : ByteArray).toList = ([128, 1] : List UInt8) := by rw [ByteArray.toList_eq]
  rw [varvelaw01_awake.f, h1, h2, Option.bind_some, Option.bind_some, if_pos t1, if_pos rfl, if_pos rfl, h3, Option.bind_some, if_pos t2, h4]
  rfl

theorem WordJoined : varvelaw01_WordJoined.Pure := by
  intro v n m hv hn hm
  have ⟨hv0, hv1⟩ := u64_of_wf hv
  obtain ⟨v, rfl⟩ := Int.eq_ofNat_of_zero_le hv0
  clear hv
  refine ⟨31, ?_⟩
  have hj : varvelaw01_WordJoined.j0 31 v n m true = some true := by
    rw [varvelaw01_WordJoined.j0, if_pos rfl, awake]; rfl
  rw [varvelaw01_WordJoined.f]
  by_cases c1 : n < 0
  · rw [if_pos c1, hj]
  by_cases c2 : m < 0
  · rw [if_neg c1, if_pos c2, hj]
  by_cases c3 : n > 8
  · rw [if_neg c1, if_neg c2, if_pos c3, hj]
  have e0 : wrap64 (8 - n) = 8 - n := by simp only [wrap64]; omega
  rw [if_neg c1, if_neg c2, if_neg c3, e0]
  clear e0
  by_cases c4 : m > 8 - n
  · rw [decide_eq_true c4, hj]
  rw [decide_eq_false c4]
  obtain ⟨n, rfl⟩ := Int.eq_ofNat_of_zero_le (show 0 ≤ n by omega)
  obtain ⟨m, rfl⟩ := Int.eq_ofNat_of_zero_le (show 0 ≤ m by omega)
  clear hj hn hm
  have b1 : 4 * n < 9223372036854775808 := by omega
  have b2 : n + m < 9223372036854775808 := by omega
  have b3 : n + m ≤ 8 := by omega
  have b4 : 4 * n ≤ 64 := by omega
  have b5 : (0 : Int) ≤ ((4 * n : Nat) : Int) := by omega
  have b6 : n ≤ 8 := by omega
  have b7 : m ≤ 8 := by omega
  have sz : ∀ x y, (strOfNums (ints (byteL x y))).size = y := by intro x y; rw [strOfNums_size]; simp [ints, byteL_length]
  have b8 : n + m ≤ 9223372036854775807 := by omega
  have e1 : wrap64 (4 * (n : Int)) = ((4 * n : Nat) : Int) := wrap64_nat (4 * n) b1
  have e2 : wrap64 ((n : Int) + (m : Int)) = ((n + m : Nat) : Int) := wrap64_nat (n + m) b2
  have e3 : v / 2 ^ (4 * n) / 2 ^ (4 * n) = v / 256 ^ n := by
    rw [Nat.div_div_eq_div_mul, ← Nat.pow_add, show 4 * n + 4 * n = 8 * n by omega, Nat.pow_mul]
  rw [varvelaw01_WordJoined.j0, if_neg (by decide), put v n 30 b6 (by decide), Option.bind_some, e1, if_pos b5, shr_nat _ _ b4, shr_nat _ _ b4, e3, put _ m 30 b7 (by decide), Option.bind_some,
    sz, sz, if_pos b8, e2, put v (n + m) 30 b3 (by decide), Option.bind_some, strs_join, ← byteL_join, if_pos rfl, awake]
  rfl

end Go.Proofs.Ytdhlolcpcgpcnaa.PureJoined
namespace Go.Proofs.Ytdhlolcpcgpcnaa.Pure
open Go.Proofs.Ytdhlolcpcgpcnaa.PWordJoined
theorem WordJoined : varvelaw01_WordJoined.Pure := PureJoined.WordJoined
end Go.Proofs.Ytdhlolcpcgpcnaa.Pure
