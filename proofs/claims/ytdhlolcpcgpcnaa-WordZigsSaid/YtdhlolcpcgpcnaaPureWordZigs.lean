import Derived.Test.YtdhlolcpcgpcnaaPWordZigsx1
namespace Go.Proofs.Ytdhlolcpcgpcnaa.Pure
open Go.RowKit Go.Proofs.Ytdhlolcpcgpcnaa.PWordZigs Go.Proofs.YtdhlolcpcgpcnaaW.PrintWords Go.Proofs.YtdhlolcpcgpcnaaW.PrintLast

theorem zw64 (x : Int) : IntKind.u64.wrap x = x % 18446744073709551616 := by simp [IntKind.wrap, IntKind.bits, IntKind.signed]
theorem xor_ones (x : Nat) (h : x < 18446744073709551616) : (BitVec.ofNat 64 x ^^^ BitVec.ofNat 64 18446744073709551615).toNat = 18446744073709551615 - x := by
  have : BitVec.ofNat 64 x ^^^ BitVec.ofNat 64 18446744073709551615 = ~~~ (BitVec.ofNat 64 x) := by
    rw [show BitVec.ofNat 64 18446744073709551615 = BitVec.allOnes 64 from rfl, BitVec.xor_allOnes]
  rw [this, BitVec.toNat_not, BitVec.toNat_ofNat]
  omega
theorem xorU_zero (x : Int) (h0 : 0 ≤ x) (h1 : x < 18446744073709551616) : Go.bits .xor .u64 x 0 = x := by
  obtain ⟨n, rfl⟩ := Int.eq_ofNat_of_zero_le h0
  simp only [Go.bits, zw64]
  rw [show IntKind.u64.bits = 64 from rfl, BitVec.ofInt_natCast, show BitVec.ofInt 64 0 = 0#64 from rfl, BitVec.xor_zero, BitVec.toNat_ofNat]
  omega
theorem xorU_ones (x : Int) (h0 : 0 ≤ x) (h1 : x < 18446744073709551616) : Go.bits .xor .u64 x 18446744073709551615 = 18446744073709551615 - x := by
  obtain ⟨n, rfl⟩ := Int.eq_ofNat_of_zero_le h0
  have := xor_ones n (by omega)
  simp only [Go.bits, zw64]
  rw [show IntKind.u64.bits = 64 from rfl, BitVec.ofInt_natCast, show (18446744073709551615 : Int) = ((18446744073709551615 : Nat) : Int) from rfl, BitVec.ofInt_natCast, this]
  omega
theorem xorI_zero (x : Int) (h0 : 0 ≤ x) (h1 : x < 9223372036854775808) : Go.bits .xor .i64 x 0 = x := by
  obtain ⟨n, rfl⟩ := Int.eq_ofNat_of_zero_le h0
  simp only [Go.bits, IntKind.wrap_i64]
  rw [show IntKind.i64.bits = 64 from rfl, BitVec.ofInt_natCast, show BitVec.ofInt 64 0 = 0#64 from rfl, BitVec.xor_zero, BitVec.toNat_ofNat]
  omega
theorem xorI_ones (x : Int) (h0 : 0 ≤ x) (h1 : x < 9223372036854775808) : Go.bits .xor .i64 x (-1) = -1 - x := by
  obtain ⟨n, rfl⟩ := Int.eq_ofNat_of_zero_le h0
  have := xor_ones n (by omega)
  simp only [Go.bits, IntKind.wrap_i64]
  rw [show IntKind.i64.bits = 64 from rfl, BitVec.ofInt_natCast, show BitVec.ofInt 64 (-1) = BitVec.ofNat 64 18446744073709551615 from rfl, this]
  omega
theorem and_one (x : Int) (h0 : 0 ≤ x) (h1 : x < 18446744073709551616) : Go.bits .and .u64 x 1 = x % 2 :=
  bits_mask .u64 64 (by decide) (fun n h0 h1 => by rw [zw64]; omega) 1 (by decide) x h0 (by omega)
theorem zigF (x : Int) (h0 : -9223372036854775808 ≤ x) (h1 : x < 9223372036854775808) : word_Zig.f x = some (if x < 0 then -2 * x - 1 else 2 * x) := by
  simp only [word_Zig.f, zw64, wrap64]
  split
  · rw [show x / 9223372036854775808 % 18446744073709551616 = 18446744073709551615 by omega, xorU_ones _ (by omega) (by omega)]
    congr 1; omega
  · rw [show x / 9223372036854775808 % 18446744073709551616 = 0 by omega, xorU_zero _ (by omega) (by omega)]
    congr 1; omega
theorem zigR (x : Int) (h0 : -9223372036854775808 ≤ x) (h1 : x < 9223372036854775808) : varveref01_Zig.f x = some (if x < 0 then -2 * x - 1 else 2 * x) := by
  simp only [varveref01_Zig.f, zw64, wrap64]
  split <;> (congr 1; omega)
theorem zagF (x : Int) (h0 : 0 ≤ x) (h1 : x < 18446744073709551616) : word_Zag.f x = some (if x % 2 = 1 then -(x / 2) - 1 else x / 2) := by
  simp only [word_Zag.f, and_one x h0 h1, wrap64]
  split
  · rw [show (-((x % 2 + 9223372036854775808) % 18446744073709551616 - 9223372036854775808) + 9223372036854775808) % 18446744073709551616 - 9223372036854775808 = -1 by omega, xorI_ones _ (by omega) (by omega)]
    congr 1; omega
  · rw [show (-((x % 2 + 9223372036854775808) % 18446744073709551616 - 9223372036854775808) + 9223372036854775808) % 18446744073709551616 - 9223372036854775808 = 0 by omega, xorI_zero _ (by omega) (by omega)]
    congr 1; omega
theorem i64_of_wf {n : Int} (h : (Lit.int .i64 n).wf = true) : -9223372036854775808 ≤ n ∧ n < 9223372036854775808 := by
  simp [Lit.wf, IntKind.min, IntKind.max, IntKind.signed, IntKind.bits] at h; omega
theorem u64_of_wf {n : Int} (h : (Lit.int .u64 n).wf = true) : 0 ≤ n ∧ n < 18446744073709551616 := by
  simp [Lit.wf, IntKind.min, IntKind.max, IntKind.signed, IntKind.bits] at h; omega
theorem WordZigs : varvelaw01_WordZigs.Pure := by
  intro i u hi hu
  have ⟨hi0, hi1⟩ := i64_of_wf hi
  have ⟨hu0, hu1⟩ := u64_of_wf hu
  refine ⟨1, ?_⟩
  have hz : ∃ z, (if i < 0 then -2 * i - 1 else 2 * i) = z := ⟨_, rfl⟩
  obtain ⟨z, hz⟩ := hz
  have hz' : 0 ≤ z ∧ z < 18446744073709551616 ∧ (if z % 2 = 1 then -(z / 2) - 1 else z / 2) = i := by
    subst hz; split <;> (refine ⟨?_, ?_, ?_⟩ <;> (try split) <;> omega)
  have hy : ∃ y, (if u % 2 = 1 then -(u / 2) - 1 else u / 2) = y := ⟨_, rfl⟩
  obtain ⟨y, hy⟩ := hy
  have hy' : -9223372036854775808 ≤ y ∧ y < 9223372036854775808 ∧ (if y < 0 then -2 * y - 1 else 2 * y) = u := by
    subst hy; split <;> (refine ⟨?_, ?_, ?_⟩ <;> (try split) <;> omega)
  simp only [varvelaw01_WordZigs.f, zigF i hi0 hi1, zigR i hi0 hi1, Option.bind_some, if_true, hz, zagF z hz'.1 hz'.2.1, hz'.2.2, zagF u hu0 hu1, hy, zigF y hy'.1 hy'.2.1, hy'.2.2]
  simp only [varvelaw01_WordZigs.j0, bne_self_eq_false, Bool.false_eq_true, if_false]
  split
  · rfl
  · rename_i hn
    have hw : wrap64 (-i) = -i := by simp only [wrap64]; omega
    rw [hw, zigF i hi0 hi1, zigF (-i) (by omega) (by omega)]
    simp only [Option.bind_some, zw64]
    congr 1
    simp only [decide_eq_true_eq]
    rw [Int.tdiv_eq_ediv_of_nonneg (by split <;> omega), Int.tdiv_eq_ediv_of_nonneg (by split <;> omega)]
    split <;> split <;> omega

end Go.Proofs.Ytdhlolcpcgpcnaa.Pure
