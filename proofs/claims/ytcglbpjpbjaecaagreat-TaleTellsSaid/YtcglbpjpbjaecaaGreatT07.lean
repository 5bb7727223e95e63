/- Steps of the calculus over bits, bytes and growing rows, for proofs. -/
import Derived.Test.YtcglbpjpbjaecaaGreatT05
set_option linter.unusedVariables false
set_option linter.unusedSimpArgs false
namespace Go.Ab
open Go Go.RowKit
variable {P : Program}
section
variable {t : TypeId} {k k' : IntKind} {a b : Int} {c : Bool}
theorem b_shr (hb : ¬ b < 0) : aBin P .shr t (.int k a) (.int k' b) c = some (.int k (shrI k a b)) := by simp [aBin, hb]
theorem b_shl (hb : ¬ b < 0) : aBin P .shl t (.int k a) (.int k' b) c = some (.int k (shlI k a b)) := by simp [aBin, hb]
theorem b_or : aBin P .or t (.int k a) (.int k b) c = some (.int k (bitI .or k a b)) := by simp [aBin, intBin]
theorem b_and : aBin P .and t (.int k a) (.int k b) c = some (.int k (bitI .and k a b)) := by simp [aBin, intBin]
theorem b_xor : aBin P .xor t (.int k a) (.int k b) c = some (.int k (bitI .xor k a b)) := by simp [aBin, intBin]
end
theorem wrap_u8 (x : Int) : IntKind.u8.wrap x = x % 256 := rfl
theorem wrap_u16 (x : Int) : IntKind.u16.wrap x = x % 65536 := rfl
theorem wrap_u32 (x : Int) : IntKind.u32.wrap x = x % 4294967296 := rfl
theorem wrap_u64 (x : Int) : IntKind.u64.wrap x = x % 18446744073709551616 := rfl
theorem wrap_i64 {x : Int} (h1 : -9223372036854775808 ≤ x) (h2 : x < 9223372036854775808) : IntKind.i64.wrap x = x := by
  have e : ∀ x : Int, IntKind.i64.wrap x = (if (true && decide (x % 18446744073709551616 ≥ 9223372036854775808)) = true then x % 18446744073709551616 - 18446744073709551616 else x % 18446744073709551616) := fun _ => rfl
  rw [e, Bool.true_and]
  by_cases h : x % 18446744073709551616 ≥ 9223372036854775808
  · rw [if_pos (by rw [decide_eq_true_eq]; exact h)]; omega
  · rw [if_neg (by rw [decide_eq_true_eq]; exact h)]; omega
theorem wrap_i64n (x : Nat) (h : x < 9223372036854775808) : IntKind.i64.wrap (x : Int) = (x : Int) := wrap_i64 (by omega) (by omega)
theorem shr_n (v b : Nat) (h : b ≤ 64) : shrI .u64 (v : Int) (b : Int) = ((v / 2 ^ b : Nat) : Int) := by
  unfold shrI
  rw [Int.toNat_natCast, Nat.min_eq_left (show b ≤ IntKind.u64.bits from h)]
  simp
theorem shl_n (v b : Nat) (h : b ≤ 64) (h2 : v * 2 ^ b < 18446744073709551616) : shlI .u64 (v : Int) (b : Int) = ((v * 2 ^ b : Nat) : Int) := by
  unfold shlI
  rw [Int.toNat_natCast, Nat.min_eq_left (show b ≤ IntKind.u64.bits from h), wrap_u64]
  have : ((v : Int) * 2 ^ b) = ((v * 2 ^ b : Nat) : Int) := by simp
  rw [this]
  exact Int.emod_eq_of_lt (by omega) (by omega)
theorem bv_nat (v : Nat) (h : v < 18446744073709551616) : (BitVec.ofInt 64 (v : Int)).toNat = v := by
  rw [BitVec.toNat_ofInt]
  have : ((v : Int) % ((2 ^ 64 : Nat) : Int)).toNat = v % 2 ^ 64 := by omega
  rw [this]; exact Nat.mod_eq_of_lt (by simpa using h)
theorem or_n (a b : Nat) (ha : a < 18446744073709551616) (hb : b < 18446744073709551616) : bitI .or .u64 (a : Int) (b : Int) = ((a ||| b : Nat) : Int) := by
  simp only [bitI]
  have hbits : IntKind.u64.bits = 64 := rfl
  have : ((BitVec.ofInt IntKind.u64.bits (a : Int) ||| BitVec.ofInt IntKind.u64.bits (b : Int)).toNat) = a ||| b := by
    show (BitVec.ofInt 64 (a : Int) ||| BitVec.ofInt 64 (b : Int)).toNat = a ||| b
    rw [BitVec.toNat_or, bv_nat a ha, bv_nat b hb]
  rw [this, wrap_u64]
  have h3 : (a ||| b) < 2 ^ 64 := Nat.or_lt_two_pow (by simpa using ha) (by simpa using hb)
  exact Int.emod_eq_of_lt (by omega) (by
    have h4 : (a ||| b) < 18446744073709551616 := by simpa using h3
    omega)
/-- High bits and low bits, joined. -/
theorem or_join (i a b : Nat) (hb : b < 2 ^ i) (h : a * 2 ^ i + b < 18446744073709551616) : bitI .or .u64 ((a * 2 ^ i : Nat) : Int) (b : Int) = ((a * 2 ^ i + b : Nat) : Int) := by
  rw [or_n _ _ (by omega) (by omega), Nat.mul_comm a, Nat.two_pow_add_eq_or_of_lt hb a]
theorem or_join' (i a b : Nat) (hb : b < 2 ^ i) (h : a * 2 ^ i + b < 18446744073709551616) : bitI .or .u64 (b : Int) ((a * 2 ^ i : Nat) : Int) = ((a * 2 ^ i + b : Nat) : Int) := by
  rw [or_n _ _ (by omega) (by omega), Nat.or_comm, Nat.mul_comm a, Nat.two_pow_add_eq_or_of_lt hb a]
theorem or8_128 (x : Nat) (h : x < 256) : bitI .or .u8 (x : Int) 128 = ((128 + x % 128 : Nat) : Int) := by
  have : ∀ y : Fin 256, bitI .or .u8 ((y.val : Nat) : Int) 128 = ((128 + y.val % 128 : Nat) : Int) := by decide +kernel
  exact this ⟨x, h⟩
theorem and8_127 (x : Nat) (h : x < 256) : bitI .and .u8 (x : Int) 127 = ((x % 128 : Nat) : Int) := by
  have : ∀ y : Fin 256, bitI .and .u8 ((y.val : Nat) : Int) 127 = ((y.val % 128 : Nat) : Int) := by decide +kernel
  exact this ⟨x, h⟩

/-- A byte of a text. -/
def strT (P : Program) (t : TypeId) : Bool := match ul P t with | some .string => true | _ => false
theorem ix_str {t : TypeId} {s : List UInt8} {k : IntKind} {i : Nat} (ht : strT P t = true) (hi : i < s.length) : aIndex P t (.str s) (.int k (i : Int)) = some (.int .u8 ((s.getD i 0).toNat : Int)) := by
  unfold strT at ht
  split at ht
  · rename_i hu
    simp only [aIndex, hu, Int.natCast_nonneg, if_true, Int.toNat_natCast, List.getElem?_eq_getElem hi, List.getD_eq_getElem?_getD, Option.getD_some]
  · cases ht
theorem b_add64 {t : TypeId} {a b : Int} {c : Bool} (h1 : -9223372036854775808 ≤ a + b) (h2 : a + b < 9223372036854775808) : aBin P .add t (.int .i64 a) (.int .i64 b) c = some (.int .i64 (a + b)) := by rw [b_add, wrap_i64 h1 h2]
theorem b_sub64 {t : TypeId} {a b : Int} {c : Bool} (h1 : -9223372036854775808 ≤ a - b) (h2 : a - b < 9223372036854775808) : aBin P .sub t (.int .i64 a) (.int .i64 b) c = some (.int .i64 (a - b)) := by rw [b_sub, wrap_i64 h1 h2]
theorem b_mul64 {t : TypeId} {a b : Int} {c : Bool} (h1 : -9223372036854775808 ≤ a * b) (h2 : a * b < 9223372036854775808) : aBin P .mul t (.int .i64 a) (.int .i64 b) c = some (.int .i64 (a * b)) := by rw [b_mul, wrap_i64 h1 h2]
section
variable {t : TypeId} {k : IntKind} {a b : Int} {c : Bool}
theorem b_lss_t (h : a < b) : aBin P .lss t (.int k a) (.int k b) c = some (.bool true) := by rw [b_lss, decide_eq_true h]
theorem b_lss_f (h : ¬ a < b) : aBin P .lss t (.int k a) (.int k b) c = some (.bool false) := by rw [b_lss, decide_eq_false h]
theorem b_leq_t (h : a ≤ b) : aBin P .leq t (.int k a) (.int k b) c = some (.bool true) := by rw [b_leq, decide_eq_true h]
theorem b_leq_f (h : ¬ a ≤ b) : aBin P .leq t (.int k a) (.int k b) c = some (.bool false) := by rw [b_leq, decide_eq_false h]
theorem b_gtr_t (h : a > b) : aBin P .gtr t (.int k a) (.int k b) c = some (.bool true) := by rw [b_gtr, decide_eq_true h]
theorem b_gtr_f (h : ¬ a > b) : aBin P .gtr t (.int k a) (.int k b) c = some (.bool false) := by rw [b_gtr, decide_eq_false h]
theorem b_geq_t (h : a ≥ b) : aBin P .geq t (.int k a) (.int k b) c = some (.bool true) := by rw [b_geq, decide_eq_true h]
theorem b_geq_f (h : ¬ a ≥ b) : aBin P .geq t (.int k a) (.int k b) c = some (.bool false) := by rw [b_geq, decide_eq_false h]
theorem b_eql_t (h : a = b) : aBin P .eql t (.int k a) (.int k b) c = some (.bool true) := by rw [b_eql, h, beq_self_eq_true]
theorem b_eql_f (h : ¬ a = b) : aBin P .eql t (.int k a) (.int k b) c = some (.bool false) := by rw [b_eql, beq_eq_false_iff_ne.2 h]
theorem b_neq_t (h : ¬ a = b) : aBin P .neq t (.int k a) (.int k b) c = some (.bool true) := by rw [b_neq, bne, beq_eq_false_iff_ne.2 h]; rfl
theorem b_neq_f (h : a = b) : aBin P .neq t (.int k a) (.int k b) c = some (.bool false) := by rw [b_neq, h, bne_self_eq_false]
end
theorem t_eql_t {t : TypeId} {a b : List UInt8} {c : Bool} (h : a = b) : aBin P .eql t (.str a) (.str b) c = some (.bool true) := by rw [t_eql, h, beq_self_eq_true]
/-- The same, for counters. -/
theorem c_add {t : TypeId} {a b : Nat} {c : Bool} (h : a + b < 9223372036854775808) : aBin P .add t (.int .i64 (a : Int)) (.int .i64 (b : Int)) c = some (.int .i64 ((a + b : Nat) : Int)) := by
  rw [b_add, wrap_i64 (by omega) (by omega)]; rfl
theorem c_inc {t : TypeId} {a : Nat} {c : Bool} (h : a + 1 < 9223372036854775808) : aBin P .add t (.int .i64 (a : Int)) (.int .i64 1) c = some (.int .i64 ((a + 1 : Nat) : Int)) := by
  rw [b_add, wrap_i64 (by omega) (by omega)]; rfl

/-- A row type, asked of the table alone. -/
def rowT (P : Program) (t e : TypeId) : Bool :=
  (match ul P t with | some (.slice e') => e' == e | _ => false) && notInt P t && (ul P e).isSome && P.bytesOf e == 1 && (zeroV P e).isSome
theorem rowT_spec {t e : TypeId} (h : rowT P t e = true) : ul P t = some (.slice e) ∧ (notInt P t && (ul P e).isSome) = true ∧ P.bytesOf e = 1 ∧ (zeroV P e).isSome = true := by
  unfold rowT at h
  simp only [Bool.and_eq_true, beq_iff_eq] at h ⊢
  obtain ⟨⟨⟨⟨h1, h2⟩, h3⟩, h4⟩, h5⟩ := h
  refine ⟨?_, ⟨h2, h3⟩, h4, h5⟩
  split at h1
  · rename_i e' hu; simp only [beq_iff_eq] at h1; subst h1; exact hu
  · cases h1
theorem elems_row {h : AH} {e : TypeId} {n : Nat} {own : Bool} {l : List V} (hm : h.m n = some (.cells own (.row e) (.agg l))) : aElems P h e (.slc (some (⟨n, .row e, []⟩, 0)) l.length) = some l := by
  simp [aElems, hm, rowAt, getV]
theorem app_new {h : AH} {t e : TypeId} {m : Nat} {own : Bool} {w : V} (ht : rowT P t e = true) (hm : h.m m = some (.cells own (.row e) (.agg [w]))) :
    aBuiltin P h .append [t, t] [.slc none 0, .slc (some (⟨m, .row e, []⟩, 0)) 1] = some (.slc (some (⟨h.next, .row e, []⟩, 0)) 1, h.make (.cells true (.row e) (.agg [w]))) := by
  obtain ⟨h1, h2, h3, h4⟩ := rowT_spec ht
  have he := elems_row (P := P) hm
  simp only [List.length_singleton] at he
  simp [aBuiltin, h1, h2, aAppend, he, aOwnRow, h3, h4]
theorem app_row {h : AH} {t e : TypeId} {n m : Nat} {own : Bool} {l : List V} {w : V} (ht : rowT P t e = true) (hn : h.m n = some (.cells true (.row e) (.agg l))) (hm : h.m m = some (.cells own (.row e) (.agg [w]))) (hl : l.length + 1 ≤ 140737488355328) :
    aBuiltin P h .append [t, t] [.slc (some (⟨n, .row e, []⟩, 0)) l.length, .slc (some (⟨m, .row e, []⟩, 0)) 1] = some (.slc (some (⟨h.next, .row e, []⟩, 0)) (l.length + 1), (h.kill n).make (.cells true (.row e) (.agg (l ++ [w])))) := by
  obtain ⟨h1, h2, h3, h4⟩ := rowT_spec ht
  have he := elems_row (P := P) hm
  simp only [List.length_singleton] at he
  simp [aBuiltin, h1, h2, aAppend, he, aOwnRow, hn, h3, h4, hl, AH.kill]
/-- Rows of bytes that grow. -/
def Buf (e : TypeId) (h : AH) (x : V) (l : List Int) : Prop :=
  (x = .slc none 0 ∧ l = []) ∨ ∃ n, n < h.next ∧ x = .slc (some (⟨n, .row e, []⟩, 0)) l.length ∧ h.m n = some (.cells true (.row e) (.agg (l.map (V.int .u8))))
theorem Buf.grow {e : TypeId} {h : AH} {x : V} {l : List Int} (b : Buf e h x l) (o : AO) : Buf e (h.make o) x l := by
  rcases b with ⟨h1, h2⟩ | ⟨n, h1, h2, h3⟩
  · exact .inl ⟨h1, h2⟩
  · refine .inr ⟨n, by rw [make_next]; omega, h2, ?_⟩
    rw [make_m, if_neg (by omega)]; exact h3
theorem Buf.push {t e : TypeId} {h : AH} {x : V} {l : List Int} (b : Buf e h x l) (ht : rowT P t e = true) (w : Int) (hl : l.length + 1 ≤ 140737488355328) :
    ∃ v h', aBuiltin P (h.make (.cells true (.row e) (.agg [.int .u8 w]))) .append [t, t] [x, .slc (some (⟨h.next, .row e, []⟩, 0)) 1] = some (v, h') ∧ Buf e h' v (l ++ [w]) := by
  have hm : (h.make (.cells true (.row e) (.agg [.int .u8 w]))).m h.next = some (.cells true (.row e) (.agg [.int .u8 w])) := by rw [make_m, if_pos rfl]
  rcases b with ⟨h1, h2⟩ | ⟨n, h1, h2, h3⟩
  · subst h1; subst h2
    refine ⟨_, _, app_new ht hm, .inr ⟨_, ?_, rfl, ?_⟩⟩
    · simp only [make_next]; omega
    · rw [make_m, if_pos rfl]; rfl
  · subst h2
    have hn : (h.make (.cells true (.row e) (.agg [.int .u8 w]))).m n = some (.cells true (.row e) (.agg (l.map (V.int .u8)))) := by rw [make_m, if_neg (by omega)]; exact h3
    have := app_row (P := P) ht hn hm (by simpa using hl)
    simp only [List.length_map] at this
    refine ⟨_, _, this, .inr ⟨_, ?_, by rw [List.length_append]; rfl, ?_⟩⟩
    · simp only [make_next, AH.kill]; omega
    · have e : (h.make (.cells true (.row e) (.agg [.int .u8 w]))).next = ((h.make (.cells true (.row e) (.agg [.int .u8 w]))).kill n).next := rfl
      rw [make_m, if_pos e]; simp
theorem toBytes_map : ∀ l : List Int, toBytes (l.map (V.int .u8)) = some (l.map fun n => UInt8.ofNat n.toNat)
  | [] => rfl
  | x :: l => by simp [toBytes, toBytes_map l]
def bsT (P : Program) (t d e : TypeId) : Bool :=
  (match ul P t with | some (.slice e') => e' == e | _ => false) && (match ul P d with | some .string => true | _ => false) && (match ul P e with | some (.int .u8) => true | _ => false)
theorem Buf.str {t d e : TypeId} {h : AH} {x : V} {l : List Int} (b : Buf e h x l) (ht : bsT P t d e = true) : aConv P h t d x = some (.str (l.map fun n => UInt8.ofNat n.toNat)) := by
  unfold bsT at ht
  simp only [Bool.and_eq_true] at ht
  obtain ⟨⟨h1, h2⟩, h3⟩ := ht
  have hu : ul P t = some (.slice e) := by
    split at h1
    · rename_i e' hu; simp only [beq_iff_eq] at h1; subst h1; exact hu
    · cases h1
  have hd : ul P d = some .string := by
    split at h2
    · assumption
    · cases h2
  have he : ul P e = some (.int .u8) := by
    split at h3
    · assumption
    · cases h3
  rcases b with ⟨h1, h2⟩ | ⟨n, h1, h2, h3⟩
  · subst h1; subst h2
    simp [aConv, aBytesStr, hu, hd, he, aElems, toBytes]
  · subst h2
    have := elems_row (P := P) h3
    simp only [List.length_map] at this
    simp [aConv, aBytesStr, hu, hd, he, this, toBytes_map]
end Go.Ab
/- Numbers as groups of seven bits, as bytes: the plain laws of P1.1 to P1.4, with no program in sight. -/
namespace Go.Gr

/-- The groups of a number, the lowest first. -/
def varL (v : Nat) : List Nat := if h : v < 128 then [v] else (128 + v % 128) :: varL (v / 128)
termination_by v
decreasing_by omega

theorem varL_small {v : Nat} (h : v < 128) : varL v = [v] := by rw [varL, dif_pos h]
theorem varL_big {v : Nat} (h : 128 ≤ v) : varL v = (128 + v % 128) :: varL (v / 128) := by rw [varL, dif_neg (by omega)]

def sumL : List Nat → Nat
  | [] => 0
  | c :: cs => c % 128 + 128 * sumL cs

def canon : List Nat → Prop
  | [] => False
  | [c] => c < 128
  | c :: d :: cs => 128 ≤ c ∧ c < 256 ∧ canon (d :: cs) ∧ d :: cs ≠ [0]

theorem varL_ne (v : Nat) : ∃ c cs, varL v = c :: cs := by
  by_cases h : v < 128
  · exact ⟨_, _, varL_small h⟩
  · exact ⟨_, _, varL_big (by omega)⟩
theorem varL_zero {v : Nat} (h : varL v = [0]) : v = 0 := by
  by_cases hv : v < 128
  · rw [varL_small hv] at h; simpa using h
  · rw [varL_big (by omega)] at h; simp at h
theorem sumL_varL (v : Nat) : sumL (varL v) = v := by
  induction v using Nat.strongRecOn with
  | ind v ih =>
    by_cases h : v < 128
    · rw [varL_small h]; simp [sumL]; omega
    · rw [varL_big (by omega), sumL, ih (v / 128) (by omega)]; omega
theorem canon_varL (v : Nat) : canon (varL v) := by
  induction v using Nat.strongRecOn with
  | ind v ih =>
    by_cases h : v < 128
    · rw [varL_small h]; exact h
    · have h1 := ih (v / 128) (by omega)
      rw [varL_big (by omega)]
      obtain ⟨c, cs, hc⟩ := varL_ne (v / 128)
      have hne : varL (v / 128) ≠ [0] := fun h0 => by have := varL_zero h0; omega
      rw [hc] at h1 hne ⊢
      exact ⟨by omega, by omega, h1, hne⟩
theorem canon_sum_ne : ∀ L, canon L → L ≠ [0] → sumL L ≠ 0
  | [], h, _ => h.elim
  | [c], h, hn => by
    have : c < 128 := h
    simp only [sumL]
    intro h0
    exact hn (by congr 1; omega)
  | c :: d :: cs, h, _ => by
    have := canon_sum_ne (d :: cs) h.2.2.1 h.2.2.2
    rw [sumL]; omega
theorem varL_sum : ∀ L, canon L → varL (sumL L) = L
  | [], h => h.elim
  | [c], h => by
    have hc : c < 128 := h
    have : sumL [c] = c := by simp only [sumL]; omega
    rw [this, varL_small hc]
  | c :: d :: cs, h => by
    have ih := varL_sum (d :: cs) h.2.2.1
    have hn := canon_sum_ne (d :: cs) h.2.2.1 h.2.2.2
    have h1 := h.1
    have h2 := h.2.1
    rw [sumL, varL_big (by omega)]
    rw [show (c % 128 + 128 * sumL (d :: cs)) / 128 = sumL (d :: cs) by omega, ih, show 128 + (c % 128 + 128 * sumL (d :: cs)) % 128 = c by omega]
theorem varL_eq (v : Nat) (L : List Nat) : varL v = L ↔ canon L ∧ v = sumL L := by
  constructor
  · rintro rfl; exact ⟨canon_varL v, (sumL_varL v).symm⟩
  · rintro ⟨h, rfl⟩; exact varL_sum L h
theorem sumL_append (x : Nat) : ∀ l, sumL (l ++ [x]) = sumL l + 128 ^ l.length * (x % 128)
  | [] => by simp [sumL]
  | c :: l => by
    rw [List.cons_append, sumL, sumL_append x l, sumL, List.length_cons, Nat.pow_succ, Nat.mul_add, Nat.add_assoc, ← Nat.mul_assoc, Nat.mul_comm 128 (128 ^ l.length)]
theorem sumL_lt : ∀ L, sumL L < 128 ^ L.length
  | [] => by simp [sumL]
  | c :: l => by
    have := sumL_lt l
    rw [sumL, List.length_cons, Nat.pow_succ]; omega
theorem canon_append (x : Nat) : ∀ l, canon (l ++ [x]) ↔ (∀ y ∈ l, 128 ≤ y ∧ y < 256) ∧ x < 128 ∧ (l ≠ [] → x ≠ 0)
  | [] => by simp [canon]
  | [c] => by
    simp only [List.cons_append, List.nil_append, canon, List.mem_singleton, forall_eq]
    constructor
    · rintro ⟨a, b, d, e⟩; exact ⟨⟨a, b⟩, d, fun _ h => e (by rw [h])⟩
    · rintro ⟨⟨a, b⟩, d, e⟩; exact ⟨a, b, d, fun h => e (by simp) (by simpa using h)⟩
  | c :: d :: l => by
    have ih := canon_append x (d :: l)
    simp only [List.cons_append] at ih ⊢
    simp only [canon, ih]
    constructor
    · rintro ⟨a, b, ⟨h1, h2, h3⟩, e⟩
      exact ⟨by rintro y (_ | ⟨_, hy⟩); exact ⟨a, b⟩; exact h1 y hy, h2, fun _ => h3 (by simp)⟩
    · rintro ⟨h1, h2, h3⟩
      refine ⟨(h1 c (by simp)).1, (h1 c (by simp)).2, ⟨fun y hy => h1 y (List.mem_cons_of_mem _ hy), h2, fun _ => h3 (by simp)⟩, ?_⟩
      intro h; cases l <;> simp at h

/-- The number of the first n groups of a row. -/
def pref (c : Nat → Nat) (n : Nat) : Nat := sumL ((List.range n).map c)
theorem pref_zero (c : Nat → Nat) : pref c 0 = 0 := rfl
theorem pref_succ (c : Nat → Nat) (n : Nat) : pref c (n + 1) = pref c n + 128 ^ n * (c n % 128) := by
  simp only [pref, List.range_succ, List.map_append, List.map_cons, List.map_nil, sumL_append, List.length_map, List.length_range]
theorem pref_lt (c : Nat → Nat) (n : Nat) : pref c n < 128 ^ n := by
  have := sumL_lt ((List.range n).map c); simpa [pref] using this
theorem varL_row (c : Nat → Nat) (hc : ∀ i, c i < 256) (v k : Nat) : varL v = (List.range (k + 1)).map c ↔ ((∀ i, i < k → 128 ≤ c i) ∧ c k < 128 ∧ (k ≠ 0 → c k ≠ 0)) ∧ v = pref c (k + 1) := by
  rw [varL_eq]
  simp only [pref, List.range_succ, List.map_append, List.map_cons, List.map_nil]
  rw [canon_append]
  have e : (List.range k).map c ≠ [] ↔ k ≠ 0 := by simp
  rw [e]
  constructor
  · rintro ⟨⟨h1, h2⟩, h3⟩
    exact ⟨⟨fun i hi => (h1 (c i) (List.mem_map.2 ⟨i, List.mem_range.2 hi, rfl⟩)).1, h2⟩, h3⟩
  · rintro ⟨⟨h1, h2⟩, h3⟩
    refine ⟨⟨fun y hy => ?_, h2⟩, h3⟩
    obtain ⟨i, hi, rfl⟩ := List.mem_map.1 hy
    exact ⟨h1 i (List.mem_range.1 hi), hc i⟩
theorem varL_length : ∀ (n v : Nat), v < 128 ^ (n + 1) → (varL v).length ≤ n + 1
  | 0, v, h => by rw [varL_small (by simpa using h)]; simp
  | n + 1, v, h => by
    by_cases hv : v < 128
    · rw [varL_small hv]; simp
    · rw [varL_big (by omega), List.length_cons]
      have := varL_length n (v / 128) (by rw [Nat.pow_succ] at h; omega)
      omega
theorem varL_byte (v : Nat) : ∀ y ∈ varL v, y < 256 := by
  induction v using Nat.strongRecOn with
  | ind v ih =>
    by_cases h : v < 128
    · rw [varL_small h]; intro y hy; simp at hy; omega
    · rw [varL_big (by omega)]
      rintro y (_ | ⟨_, hy⟩)
      · omega
      · exact ih _ (by omega) y hy

/-- What is told of the groups from place k on, if m are still allowed and all before go on. -/
def res (c : Nat → Nat) (room at_ : Nat) : Nat → Nat → Int × Int × Bool
  | _, 0 => (0, 0, false)
  | k, m + 1 => if k < room then (if c k < 128 then (if k = 9 ∧ 1 < c k ∨ c k = 0 ∧ 0 < k then (0, 0, false) else (((pref c (k + 1) : Nat) : Int), ((at_ + k + 1 : Nat) : Int), true)) else res c room at_ (k + 1) m) else (0, 0, false)

theorem pow9 : (128 : Nat) ^ 9 = 9223372036854775808 := by decide +kernel
theorem pow_le9 (k : Nat) (h : k ≤ 9) : 128 ^ k ≤ 9223372036854775808 := by rw [← pow9]; exact Nat.pow_le_pow_right (by omega) h
/-- The number of the groups fits into 64 bits if the tenth is at most 1. -/
theorem pref_fits (c : Nat → Nat) (k : Nat) (hk : k ≤ 9) (h9 : k = 9 → c k ≤ 1) : pref c k + 128 ^ k * (c k % 128) < 18446744073709551616 := by
  have h1 := pref_lt c k
  rcases Nat.lt_or_ge k 9 with h | h
  · have h2 := pref_lt c (k + 1)
    rw [pref_succ] at h2
    have h3 := pow_le9 (k + 1) (by omega)
    omega
  · obtain rfl : k = 9 := by omega
    have := h9 rfl
    rw [pow9] at h1 ⊢
    have : c 9 % 128 ≤ 1 := by omega
    omega
theorem pref_fits_not (c : Nat → Nat) (hk : 1 < c 9) (hc : c 9 < 128) : 18446744073709551616 ≤ pref c 10 := by
  rw [pref_succ, pow9]; omega
def wid (v : Nat) : Nat := if h : v = 0 then 0 else wid (v / 256) + 1
termination_by v
decreasing_by omega
theorem wid_zero : wid 0 = 0 := by rw [wid, dif_pos rfl]
theorem wid_pos {v : Nat} (h : 0 < v) : wid v = wid (v / 256) + 1 := by rw [wid, dif_neg (by omega)]
theorem wid_le : ∀ (n v : Nat), wid v ≤ n ↔ v < 256 ^ n
  | 0, v => by
    by_cases h : v = 0
    · subst h; simp [wid_zero]
    · rw [wid_pos (by omega), Nat.pow_zero]; omega
  | n + 1, v => by
    by_cases h : v = 0
    · have := Nat.pow_pos (n := n + 1) (show 0 < 256 by omega)
      subst h; rw [wid_zero]; omega
    · have ih := wid_le n (v / 256)
      rw [wid_pos (by omega), Nat.pow_succ]
      omega
theorem len_le : ∀ (n v : Nat), (varL v).length ≤ n + 1 ↔ v < 128 ^ (n + 1)
  | 0, v => by
    by_cases h : v < 128
    · rw [varL_small h]; simp; exact h
    · obtain ⟨c, cs, e⟩ := varL_ne (v / 128)
      rw [varL_big (by omega), e]; simp; omega
  | n + 1, v => by
    by_cases h : v < 128
    · have : (128 : Nat) ^ 1 ≤ 128 ^ (n + 1 + 1) := Nat.pow_le_pow_right (by omega) (by omega)
      rw [varL_small h, List.length_singleton]
      generalize (128 : Nat) ^ (n + 1 + 1) = q at this ⊢
      omega
    · have ih := len_le n (v / 128)
      rw [varL_big (by omega), List.length_cons, Nat.pow_succ]
      omega
theorem len_pos (v : Nat) : 1 ≤ (varL v).length := by
  obtain ⟨c, cs, e⟩ := varL_ne v; rw [e]; simp
theorem p128 (n : Nat) : 128 ^ n = 2 ^ (7 * n) := by rw [Nat.pow_mul]
theorem p256 (n : Nat) : 256 ^ n = 2 ^ (8 * n) := by rw [Nat.pow_mul]
theorem len_mono {v w : Nat} (h : v ≤ w) : (varL v).length ≤ (varL w).length := by
  have := len_pos w
  have h1 := (len_le ((varL w).length - 1) w).1 (by omega)
  have := (len_le ((varL w).length - 1) v).2 (by omega)
  omega
theorem wid_mono {v w : Nat} (h : v ≤ w) : wid v ≤ wid w := by
  have h1 := (wid_le (wid w) w).1 (Nat.le_refl _)
  exact (wid_le (wid w) v).2 (by omega)
theorem wid_len (w : Nat) : 8 * wid w ≤ 7 * (varL w).length + 7 := by
  have hp := len_pos w
  have h1 := (len_le ((varL w).length - 1) w).1 (by omega)
  rw [p128] at h1
  have h2 : wid w ≤ (7 * (varL w).length + 7) / 8 := (wid_le _ w).2 (by
    rw [p256]
    refine Nat.lt_of_lt_of_le h1 (Nat.pow_le_pow_right (by omega) ?_)
    omega)
  omega
theorem len_wid (w : Nat) : 7 * ((varL w).length - 1) ≤ 8 * wid w := by
  have hp := len_pos w
  have h1 := (wid_le (wid w) w).1 (Nat.le_refl _)
  rw [p256] at h1
  rcases Nat.lt_or_ge (8 * wid w) (7 * ((varL w).length - 1)) with h | h
  · have h2 := (len_le ((varL w).length - 2) w).2 (by
      rw [p128]
      refine Nat.lt_of_lt_of_le h1 (Nat.pow_le_pow_right (by omega) ?_)
      omega)
    omega
  · exact h
def byteL : Nat → Nat → List Nat
  | _, 0 => []
  | v, n + 1 => v % 256 :: byteL (v / 256) n
theorem byteL_length : ∀ n v, (byteL v n).length = n
  | 0, _ => rfl
  | n + 1, v => by rw [byteL, List.length_cons, byteL_length n]
theorem byteL_range : ∀ n v, byteL v n = (List.range n).map fun j => v / 256 ^ j % 256
  | 0, _ => rfl
  | n + 1, v => by
    rw [byteL, byteL_range n, List.range_succ_eq_map, List.map_cons, List.map_map, Nat.pow_zero, Nat.div_one]
    congr 1
    apply List.map_congr_left
    intro j _
    show v / 256 / 256 ^ j % 256 = v / 256 ^ (j + 1) % 256
    rw [Nat.div_div_eq_div_mul, Nat.pow_succ, Nat.mul_comm]
theorem wid8 (v : Nat) (h : v < 18446744073709551616) : wid v ≤ 8 := (wid_le 8 v).2 (by
  rw [show 256 ^ 8 = 18446744073709551616 by decide +kernel]; exact h)
theorem varL10 (v : Nat) (h : v < 18446744073709551616) : (varL v).length ≤ 10 := varL_length 9 v (by rw [Nat.pow_succ, pow9]; omega)
/-- The same, as bytes. -/
def varB (v : Nat) : List UInt8 := (varL v).map UInt8.ofNat
def putB (v n : Nat) : List UInt8 := (byteL v n).map UInt8.ofNat
theorem varB_length (v : Nat) : (varB v).length = (varL v).length := by simp [varB]
theorem putB_length (v n : Nat) : (putB v n).length = n := by simp [putB, byteL_length]
theorem byteL_join : ∀ n m v, byteL v (n + m) = byteL v n ++ byteL (v / 256 ^ n) m
  | 0, m, v => by rw [Nat.zero_add, byteL, List.nil_append, Nat.pow_zero, Nat.div_one]
  | n + 1, m, v => by
    rw [show n + 1 + m = (n + m) + 1 by omega, byteL, byteL_join n m, byteL, List.cons_append, Nat.div_div_eq_div_mul, Nat.pow_succ, Nat.mul_comm]
theorem putB_join (n m v : Nat) : putB v (n + m) = putB v n ++ putB (v / 256 ^ n) m := by simp [putB, byteL_join]
/-- The number of n bytes from a place on. -/
def valB (s : List UInt8) : Nat → Nat → Nat
  | _, 0 => 0
  | i, n + 1 => (s.getD i 0).toNat + 256 * valB s (i + 1) n
theorem valB_lt (s : List UInt8) : ∀ n i, valB s i n < 256 ^ n
  | 0, _ => by simp [valB]
  | n + 1, i => by
    have := valB_lt s n (i + 1)
    have := (s.getD i 0).toNat_lt
    simp only [valB, Nat.pow_succ]
    omega
theorem valB_mid (a b : List UInt8) : ∀ n v i (c : List UInt8), c = a ++ putB v n ++ b → i = a.length → valB c i n = v % 256 ^ n
  | 0, v, i, c, _, _ => by simp [valB, Nat.mod_one]
  | n + 1, v, i, c, hc, hi => by
    have h0 : c.getD i 0 = UInt8.ofNat (v % 256) := by
      subst hc; subst hi
      simp [putB, byteL, List.getElem?_append]
    have ih := valB_mid (a ++ [UInt8.ofNat (v % 256)]) b n (v / 256) (i + 1) c (by rw [hc]; simp [putB, byteL]) (by simp [hi])
    rw [valB, h0, ih, UInt8.toNat_ofNat_of_lt' (by show v % 256 < 256; omega), Nat.pow_succ, Nat.mul_comm (256 ^ n) 256, Nat.mod_mul]
end Go.Gr
