import Derived.Test.YtcglbpjpbjaecaaGreatFQ
import Derived.Test.YtcglbpjpbjaecaaGreatAbF
import Derived.Test.YtcglbpjpbjaecaaGreatAbG
set_option linter.unusedVariables false
set_option linter.unusedSimpArgs false
namespace Go.Proofs.YtcglbpjpbjaecaaGreat.Sh
open Go Go.Ab Go.RowKit
open Go.Proofs.YtcglbpjpbjaecaaGreat.Ru (Pg okP crcStep crc8 crcGo)
set_option maxRecDepth 10000
set_option linter.unusedVariables false
theorem bv32 (v : Nat) (h : v < 4294967296) : (BitVec.ofInt 32 (v : Int)).toNat = v := by
  rw [BitVec.toNat_ofInt]
  have : ((v : Int) % ((2 ^ 32 : Nat) : Int)).toNat = v % 2 ^ 32 := by omega
  rw [this]; exact Nat.mod_eq_of_lt (by simpa using h)
theorem xor32 (a b : Nat) (ha : a < 4294967296) (hb : b < 4294967296) : bitI .xor .u32 (a : Int) (b : Int) = ((Nat.xor a b : Nat) : Int) ∧ Nat.xor a b < 4294967296 := by
  have h3 : (a ^^^ b) < 2 ^ 32 := Nat.xor_lt_two_pow (by simpa using ha) (by simpa using hb)
  have h4 : (a ^^^ b) < 4294967296 := by simpa using h3
  refine ⟨?_, h4⟩
  simp only [bitI]
  have : ((BitVec.ofInt IntKind.u32.bits (a : Int) ^^^ BitVec.ofInt IntKind.u32.bits (b : Int)).toNat) = a ^^^ b := by
    show (BitVec.ofInt 32 (a : Int) ^^^ BitVec.ofInt 32 (b : Int)).toNat = a ^^^ b
    rw [BitVec.toNat_xor, bv32 a ha, bv32 b hb]
  rw [this, wrap_u32]
  show _ = ((a ^^^ b : Nat) : Int)
  exact Int.emod_eq_of_lt (by omega) (by omega)
theorem and1 (a : Nat) (ha : a < 4294967296) : bitI .and .u32 (a : Int) 1 = ((a % 2 : Nat) : Int) := by
  simp only [bitI]
  have : ((BitVec.ofInt IntKind.u32.bits (a : Int) &&& BitVec.ofInt IntKind.u32.bits 1).toNat) = a % 2 := by
    show (BitVec.ofInt 32 (a : Int) &&& BitVec.ofInt 32 ((1 : Nat) : Int)).toNat = a % 2
    rw [BitVec.toNat_and, bv32 a ha, bv32 1 (by decide), Nat.and_one_is_mod]
  rw [this, wrap_u32]
  exact Int.emod_eq_of_lt (by omega) (by omega)
theorem step_eq (x : Nat) : crcStep x = Nat.xor (x / 2) (3988292384 * (x % 2)) := by
  unfold crcStep
  have h1 : Nat.shiftRight x 1 = x / 2 := rfl
  have h2 : Nat.land x 1 = x % 2 := Nat.and_one_is_mod x
  rw [h1, h2]
  rfl
theorem step_lt (x : Nat) (hx : x < 4294967296) : crcStep x < 4294967296 := by
  rw [step_eq]
  have h : 3988292384 * (x % 2) < 4294967296 := by omega
  exact (xor32 (x / 2) _ (by omega) h).2
theorem stepP (x : Nat) (hx : x < 4294967296) (h : AH) : ACalls Pg 294 [.int .u32 (x : Int)] h (pureE (.int .u32 ((crcStep x : Nat) : Int)) h) := by
  refine C294 _ _ _ ?_
  refine bindS_mk (b_shr (by decide)) ?_
  have e1 : shrI .u32 (x : Int) 1 = ((x / 2 : Nat) : Int) := by
    show (x : Int) / 2 ^ 1 = _
    omega
  rw [e1]
  refine bindS_mk b_and ?_
  rw [and1 x hx]
  refine bindS_mk (show aUn .neg (.int .u32 ((x % 2 : Nat) : Int)) = some (.int .u32 (IntKind.u32.wrap (0 - ((x % 2 : Nat) : Int)))) from rfl) ?_
  refine bindS_mk b_and ?_
  have e2 : bitI .and .u32 3988292384 (IntKind.u32.wrap (0 - ((x % 2 : Nat) : Int))) = ((3988292384 * (x % 2) : Nat) : Int) := by
    rcases Nat.mod_two_eq_zero_or_one x with h | h
    · rw [h]; decide +kernel
    · rw [h]; decide +kernel
  rw [e2]
  refine bindS_mk b_xor ?_
  rw [(xor32 (x / 2) (3988292384 * (x % 2)) (by omega) (by omega)).1, step_eq]
  exact ⟨rfl, rfl⟩
theorem crc8_lt : ∀ (n x : Nat), x < 4294967296 → crc8 n x < 4294967296
  | 0, x, h => h
  | n + 1, x, h => crc8_lt n _ (step_lt x h)
theorem inner (q : AEnd → Prop) (s : V) (i : V) (n1 : Nat) (h : AH) (next : Nat → Nat → Prop)
    (c : ∀ x, x < 4294967296 → next x 0 → J265_11010011 (fun e _ => q e) n1 s (.int .u32 (x : Int)) i h)
    (hn : ∀ x m, next x (m + 1) → next (crcStep x) m) : ∀ (m n x : Nat), m ≤ 8 → m < n → x < 4294967296 → next x m → L265_110100100110 (fun e _ => q e) n1 n s (.int .u32 (x : Int)) i (.int .i64 ((8 - m : Nat) : Int)) h
  | m, 0, x, _, hmn, _, _ => absurd hmn (by omega)
  | 0, n + 1, x, _, _, hx, hk => by
    rw [L265_110100100110_eq]
    refine bindS_mk (b_lss_f (by omega)) ?_
    refine i_f ?_
    exact Meet.of (c x hx hk)
  | m + 1, n + 1, x, hm, hmn, hx, hk => by
    rw [L265_110100100110_eq]
    refine bindS_mk (b_lss_t (by omega)) ?_
    refine i_t ?_
    refine Meet.of (cast_p (J265_110100100110011_eq _ _ _ _ _ _ _ _) ?_)
    refine call_mk (stepP x hx h) ?_
    refine Meet.of (cast_p (J265_1101001001100111_eq _ _ _ _ _ _ _ _) ?_)
    refine bindS_mk (c_inc (by omega)) ?_
    have e : 8 - (m + 1) + 1 = 8 - m := by omega
    rw [e]
    exact Meet.of (inner q s i n1 h next c hn m n (crcStep x) (by omega) (by omega) (step_lt x hx) (hn x m hk))
end Go.Proofs.YtcglbpjpbjaecaaGreat.Sh
namespace Go.Proofs.YtcglbpjpbjaecaaGreat.Sh
open Go Go.Ab Go.RowKit
open Go.Proofs.YtcglbpjpbjaecaaGreat.Ru (Pg okP crcStep crc8 crcGo crcMore)
set_option maxRecDepth 10000
set_option linter.unusedVariables false
theorem str9 : strT Pg 9 = true := by kernel_rfl
theorem crcGo_cons (b : UInt8) (t : List UInt8) (r : Nat) : crcGo (b :: t) r = crcGo t (crc8 8 (Nat.xor r b.toNat)) := by
  simp only [crcGo]
  rw [fNat_eq]
theorem outer (q : AEnd → Prop) (h : AH) (s : List UInt8) (hs : s.length < 1000000) : ∀ (t : List UInt8) (i n r : Nat), s.drop i = t → i + t.length = s.length → t.length < n → r < 4294967296 →
    q (.ret (.int .u32 ((Nat.xor (crcGo t r) 4294967295 : Nat) : Int))) → L265_11010 (fun e _ => q e) n (.str s) (.int .u32 (r : Int)) (.int .i64 (i : Int)) h
  | t, i, 0, r, _, _, hn, _, _ => absurd hn (by omega)
  | [], i, n + 1, r, hd, hl, _, hr, c => by
    rw [L265_11010_eq]
    simp only [List.length_nil] at hl
    refine bindV_mk (len_str (by kernel_rfl)) ?_
    refine bindS_mk (b_lss_f (by omega)) ?_
    refine i_f ?_
    refine Meet.of (cast_p (J265_111_eq _ _ _) ?_)
    refine bindS_mk (show aUn .xor (.int .u32 (r : Int)) = some (.int .u32 (bitI .xor .u32 ((4294967295 : Nat) : Int) (r : Int))) from rfl) ?_
    rw [(xor32 4294967295 r (by decide) hr).1]
    have e : Nat.xor 4294967295 r = Nat.xor (crcGo [] r) 4294967295 := by
      simp only [crcGo]
      exact Nat.xor_comm _ _
    rw [e]
    exact c
  | b :: t, i, n + 1, r, hd, hl, hn, hr, c => by
    rw [L265_11010_eq]
    simp only [List.length_cons] at hl hn
    have hi : i < s.length := by omega
    have hb : s.getD i 0 = b := by
      have := congrArg (fun l => l[0]?) hd
      simp only [List.getElem?_drop, Nat.add_zero, List.getElem?_cons_zero] at this
      rw [List.getD_eq_getElem?_getD, this]; rfl
    have hbt := b.toNat_lt
    refine bindV_mk (len_str (by kernel_rfl)) ?_
    refine bindS_mk (b_lss_t (by omega)) ?_
    refine i_t ?_
    refine Meet.of (cast_p (J265_1101001_eq _ _ _ _ _ _) ?_)
    refine bindS_mk (ix_str str9 hi) ?_
    rw [hb]
    refine bindS_mk (cv_int (d := 31) .u32 (by kernel_rfl)) ?_
    have e1 : IntKind.u32.wrap (b.toNat : Int) = (b.toNat : Int) := by rw [wrap_u32]; omega
    rw [e1]
    refine bindS_mk b_xor ?_
    have hx := xor32 r b.toNat hr (by omega)
    rw [hx.1]
    refine ⟨9, Meet.of ?_⟩
    have hlt := crc8_lt 8 _ hx.2
    refine inner q (.str s) (.int .i64 (i : Int)) n h (fun x m => crc8 m x = crc8 8 (Nat.xor r b.toNat)) (fun x hx' hk => ?_) (fun x m hk => hk) 8 9 (Nat.xor r b.toNat) (by omega) (by omega) hx.2 rfl
    have hk : x = crc8 8 (Nat.xor r b.toNat) := hk
    rw [J265_11010011_eq]
    refine bindS_mk (c_inc (by omega)) ?_
    refine Meet.of ?_
    rw [hk]
    refine outer q h s hs t (i + 1) n _ ?_ (by omega) (by omega) hlt ?_
    · rw [← List.drop_drop, hd]; rfl
    · rw [crcGo_cons] at c; exact c
theorem moreP (r : Nat) (hr : r < 4294967296) (s : List UInt8) (hs : s.length < 1000000) (h : AH) : ACalls Pg 265 [.int .u32 (r : Int), .str s] h (pureE (.int .u32 ((crcMore r s : Nat) : Int)) h) := by
  refine pure_lift rfl rfl (C265 _ _ _ _ ?_) h
  refine bindS_mk (show aUn .xor (.int .u32 (r : Int)) = some (.int .u32 (bitI .xor .u32 ((4294967295 : Nat) : Int) (r : Int))) from rfl) ?_
  have hx := xor32 4294967295 r (by decide) hr
  rw [hx.1]
  refine ⟨s.length + 1, Meet.of ?_⟩
  refine outer (fun e => e = .ret (.int .u32 ((crcMore r s : Nat) : Int))) AH0 s hs s 0 (s.length + 1) _ rfl (by omega) (by omega) hx.2 ?_
  have e : Nat.xor 4294967295 r = Nat.xor r 4294967295 := Nat.xor_comm _ _
  rw [e]
  rfl
end Go.Proofs.YtcglbpjpbjaecaaGreat.Sh
