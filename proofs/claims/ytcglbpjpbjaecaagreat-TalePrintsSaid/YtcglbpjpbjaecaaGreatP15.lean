import Derived.Test.YtcglbpjpbjaecaaGreatP14
import Derived.Shelf.Strings.OnBuilder
import Derived.Shelf.Strings.Search1
import Derived.Laws.RangeAny
set_option linter.unusedVariables false
set_option linter.unusedSimpArgs false
namespace Go.Proofs.YtcglbpjpbjaecaaGreat.Sh
open Go Go.Ab Go.RowKit
open Go.Proofs.YtcglbpjpbjaecaaGreat.Ru (Pg okP)
set_option maxRecDepth 10000
def hx (d : Nat) : UInt8 := if d < 10 then UInt8.ofNat (48 + d) else UInt8.ofNat (87 + d)
def hx2 (b : UInt8) : List UInt8 := [hx (b.toNat / 16), hx (b.toNat % 16)]
def hexL (s : List UInt8) : List UInt8 := s.flatMap hx2
def hexS (s : List UInt8) : List UInt8 := if s.isEmpty then [45] else hexL s
theorem hexL_len (s : List UInt8) : (hexL s).length = 2 * s.length := by
  induction s with
  | nil => rfl
  | cons b s ih => rw [hexL, List.flatMap_cons, List.length_append]; simp only [hexL] at ih; rw [ih]; simp [hx2]; omega
theorem hexL_snoc (s : List UInt8) (b : UInt8) : hexL (s ++ [b]) = hexL s ++ hx2 b := by simp [hexL]
theorem take_snoc {s : List UInt8} {i : Nat} {b : UInt8} (h : s[i]? = some b) : s.take (i + 1) = s.take i ++ [b] := by
  rw [List.take_add_one, h]; rfl
def lit16 : List UInt8 := [48, 49, 50, 51, 52, 53, 54, 55, 56, 57, 97, 98, 99, 100, 101, 102]
theorem lit16_at (d : Nat) (h : d < 16) : lit16[d]? = some (hx d) := by
  have : ∀ y : Fin 16, lit16[y.val]? = some (hx y.val) := by decide +kernel
  exact this ⟨d, h⟩
theorem hxlo {x : Int} {d : Nat} (h : d < 10) (e : x.toNat = 48 + d) : UInt8.ofNat x.toNat = hx d := by rw [hx, if_pos h, e]
theorem hxhi {x : Int} {d : Nat} (h : ¬ d < 10) (e : x.toNat = 87 + d) : UInt8.ofNat x.toNat = hx d := by rw [hx, if_neg h, e]
theorem b5 : Pg.bytesOf 5 = 1 := by kernel_rfl
theorem ap207 : apOk Pg 207 207 5 = true := by kernel_rfl
def names : List (List UInt8) := [[98, 101, 103, 105, 110], [114, 101, 97, 100], [119, 114, 105, 116, 101], [99, 111, 109, 109, 105, 116], [97, 98, 111, 114, 116], [118, 97, 99, 117, 117, 109], [99, 104, 101, 99, 107, 112, 111, 105, 110, 116], [99, 108, 111, 115, 101]]
def nameOf (k : Nat) : List UInt8 := names.getD k [99, 97, 108, 108]
theorem name_call {k : Nat} (h : 8 ≤ k) : nameOf k = [99, 97, 108, 108] := by
  unfold nameOf
  rw [List.getD_eq_getElem?_getD, List.getElem?_eq_none (by show 8 ≤ k; exact h)]; rfl
theorem name_len (k : Nat) : (nameOf k).length ≤ 10 := by
  by_cases h : k < 8
  · have : ∀ y : Fin 8, (nameOf y.val).length ≤ 10 := by decide +kernel
    exact this ⟨k, h⟩
  · rw [name_call (by omega)]; decide
theorem loop118 (q : AEnd → Prop) (s : List UInt8) (hs : s.length ≤ 70000000000000) (c : q (.ret (.str (hexL s)))) : ∀ (k i : Nat) (x : V) (h : AH) (n : Nat), i ≤ s.length → s.length - i = k → k < n → BufB 5 h x (hexL (s.take i)) → L118_111010 (fun e _ => q e) n (.str s) x (.int .i64 s.length) (.int .i64 i) h := by
  intro k
  induction k with
  | zero =>
    intro i x h n hi hk hn hB
    obtain ⟨n, rfl⟩ : ∃ m, n = m + 1 := ⟨n - 1, by omega⟩
    rw [L118_111010_eq]
    refine bindS_mk (b_lss) ?_
    refine i_split (fun c1 => ?_) (fun c1 => ?_)
    · try rw [c1]
      replace c1 := of_decide_eq_true c1
      exfalso; omega
    · try rw [c1]
      replace c1 := of_decide_eq_false c1
      refine Meet.of (cast_p (J118_1111_eq _ _ _) ?_)
      refine bindS_mk ((by rw [List.take_of_length_le (by omega)] at hB; exact hB.str (d := 9) (by kernel_rfl))) ?_
      rw [List.take_of_length_le (by omega)] at hB
      exact c
  | succ k ih0 =>
    intro i x h n hi hk hn hB
    obtain ⟨n, rfl⟩ : ∃ m, n = m + 1 := ⟨n - 1, by omega⟩
    have ih : ∀ (i : Nat) (x : V) (h : AH) (n : Nat), i ≤ s.length → s.length - i = k → k < n → BufB 5 h x (hexL (s.take i)) → q (.ret (.str (hexL s))) → L118_111010 (fun e _ => q e) n (.str s) x (.int .i64 s.length) (.int .i64 i) h := fun i x h n a b d e _ => ih0 i x h n a b d e
    rw [L118_111010_eq]
    refine bindS_mk (b_lss) ?_
    refine i_split (fun c1 => ?_) (fun c1 => ?_)
    · try rw [c1]
      replace c1 := of_decide_eq_true c1
      obtain ⟨b, hb0⟩ : ∃ b, s[i]? = some b := ⟨s[i]'(by omega), List.getElem?_eq_getElem (by omega)⟩
      have hb : s[((i : Nat) : Int).toNat]? = some b := hb0
      have hb256 := b.toNat_lt
      refine Meet.of (cast_p (J118_111010011_eq _ _ _ _ _ _ _) ?_)
      refine bindSO_mk (ixS (by kernel_rfl) (by omega) (hb)) ?_
      refine bindSO_mk (shr4 (by have := b.toNat_lt; omega) (by have := b.toNat_lt; omega)) ?_
      refine bindSO_mk (ixS (by kernel_rfl) (by omega) ((congrArg (fun k => lit16[k]?) (by omega)).trans (lit16_at (b.toNat / 16) (by have := b.toNat_lt; omega)))) ?_
      refine bindSO_mk (ixS (by kernel_rfl) (by omega) (hb)) ?_
      refine bindSO_mk (and15 (by have := b.toNat_lt; omega) (by have := b.toNat_lt; omega)) ?_
      refine bindSO_mk (ixS (by kernel_rfl) (by omega) ((congrArg (fun k => lit16[k]?) (by omega)).trans (lit16_at (b.toNat % 16) (by omega)))) ?_
      refine bindE (bs2_at (e := 5) (by kernel_rfl) z5 (by kernel_rfl) (by kernel_rfl)) fun h2 u2 => ?_
      have n2 := u2.next
      have f2_2 := u2.at_
      obtain ⟨v, h3, e3, B, hn3, _⟩ := (hB.keep (by omega) (fun k hk => u2.other k hk)).app (w := hx2 b) ap207 b5 ((elems_row f2_2).trans (by rfl)) (by simp [hx2]) (by rw [hexL_len]; simp [hx2]; omega)
      refine bindV_mk (e3) ?_
      refine Meet.of (cast_p (J118_1110100111_eq _ _ _ _ _ _ _) ?_)
      first | refine bindS_mk (w_add (by first | exact wrap_i64 (by omega) (by omega) | exact wr_u8 (by omega) (by omega) | exact wr_u16 (by omega) (by omega) | exact wr_u32 (by omega) (by omega) | exact wr_u64 (by omega) (by omega))) ?_ | refine bindS_mk (b_add) ?_
      refine Meet.of ((congrArg (fun x : Int => L118_111010 (fun e _ => q e) n (.str s) v (.int .i64 s.length) (.int .i64 x) _) (show ((i : Nat) : Int) + 1 = ((i + 1 : Nat) : Int) by omega)).mpr (ih (i + 1) _ _ n (by omega) (by omega) (by omega) ?_ c))
      rw [take_snoc hb0, hexL_snoc]; exact B
    · try rw [c1]
      replace c1 := of_decide_eq_false c1
      refine Meet.of (cast_p (J118_1111_eq _ _ _) ?_)
      refine bindS_mk ((by rw [List.take_of_length_le (by omega)] at hB; exact hB.str (d := 9) (by kernel_rfl))) ?_
      rw [List.take_of_length_le (by omega)] at hB
      exact c
theorem bytesP (s : List UInt8) (hs : s.length ≤ 70000000000000) (h : AH) : ACalls Pg 118 [.str s] h (pureE (.str (hexS s)) h) := by
  refine pure_lift rfl rfl ?_ h
  refine C118 _ _ _ ?_
  refine bindS_mk (t_eql) ?_
  refine i_split (fun c1 => ?_) (fun c1 => ?_)
  · try rw [c1]
    replace c1 := eq_of_beq c1
    subst c1; rfl
  · try rw [c1]
    replace c1 := ne_of_beq_false c1
    refine Meet.of (cast_p (J118_11_eq _ _ _) ?_)
    refine bindV_mk (len_str (by kernel_rfl)) ?_
    exact ⟨s.length + 1, Meet.of (loop118 (fun e => e = .ret (.str (hexS s))) s hs (by rw [hexS, if_neg (by simpa using c1)]) s.length 0 (.slc none 0) _ _ (by omega) (by omega) (by omega) (.inl ⟨rfl, rfl⟩))⟩
theorem loop121 (q : AEnd → Prop) (s : List UInt8) (hs : s.length ≤ 70000000000000) (c : q (.ret (.str (hexL s)))) : ∀ (k i : Nat) (h : AH) (n : Nat), i ≤ s.length → s.length - i = k → k < n → L121_111010 (fun e _ => q e) n (.str s) (.str (hexL (s.take i))) (.int .i64 i) h := by
  intro k
  induction k with
  | zero =>
    intro i h n hi hk hn
    obtain ⟨n, rfl⟩ : ∃ m, n = m + 1 := ⟨n - 1, by omega⟩
    rw [L121_111010_eq]
    refine bindV_mk (len_str (by kernel_rfl)) ?_
    refine bindS_mk (b_lss) ?_
    refine i_split (fun c1 => ?_) (fun c1 => ?_)
    · try rw [c1]
      replace c1 := of_decide_eq_true c1
      exfalso; omega
    · try rw [c1]
      replace c1 := of_decide_eq_false c1
      refine Meet.of (cast_p (J121_1111_eq _ _ _) ?_)
      rw [List.take_of_length_le (by omega)]; exact c
  | succ k ih0 =>
    intro i h n hi hk hn
    obtain ⟨n, rfl⟩ : ∃ m, n = m + 1 := ⟨n - 1, by omega⟩
    have ih : ∀ (i : Nat) (h : AH) (n : Nat), i ≤ s.length → s.length - i = k → k < n → L121_111010 (fun e _ => q e) n (.str s) (.str (hexL (s.take i))) (.int .i64 i) h := fun i h n a b d => ih0 i h n a b d
    rw [L121_111010_eq]
    refine bindV_mk (len_str (by kernel_rfl)) ?_
    refine bindS_mk (b_lss) ?_
    refine i_split (fun c1 => ?_) (fun c1 => ?_)
    · try rw [c1]
      replace c1 := of_decide_eq_true c1
      obtain ⟨b, hb0⟩ : ∃ b, s[i]? = some b := ⟨s[i]'(by omega), List.getElem?_eq_getElem (by omega)⟩
      have hb : s[((i : Nat) : Int).toNat]? = some b := hb0
      have hb256 := b.toNat_lt
      refine Meet.of (cast_p (J121_11101001_eq _ _ _ _ _ _) ?_)
      refine bindSO_mk (ixS (by kernel_rfl) (by omega) (hb)) ?_
      refine bindSO_mk (w_quo (by omega) (by omega) (wr_u8 (by have := b.toNat_lt; omega) (by have := b.toNat_lt; omega))) ?_
      refine bindSO_mk (ixS (by kernel_rfl) (by omega) (hb)) ?_
      refine bindSO_mk (w_rem (by omega) (by omega)) ?_
      refine bindE (bs2_at (e := 5) (by kernel_rfl) z5 (by kernel_rfl) (by kernel_rfl)) fun h2 u2 => ?_
      have n2 := u2.next
      have f2_2 := u2.at_
      refine bindVO_mk (len_slc (by kernel_rfl)) ?_
      refine ⟨3, Meet.of (cast_p (L121_111010010010_eq _ _ 2 _ _ _ _ _ _ _) ?_)⟩
      refine bindS_mk (b_lss_t (by omega)) ?_
      refine i_t ?_
      refine Meet.of (cast_p (J121_111010010010011_eq _ _ _ _ _ _ _ _ _ _) ?_)
      refine bindS_mk (ia_slc _ (by kernel_rfl) (by omega) (by omega)) ?_
      refine bindV_mk (ld_mk f2_2 (by kernel_rfl) (getV_row (by rfl))) ?_
      refine bindS_mk (b_lss) ?_
      refine i_split (fun c3 => ?_) (fun c3 => ?_)
      · try rw [c3]
        replace c3 := of_decide_eq_true c3
        first | refine bindS_mk (w_add (by first | exact wrap_i64 (by omega) (by omega) | exact wr_u8 (by omega) (by omega) | exact wr_u16 (by omega) (by omega) | exact wr_u32 (by omega) (by omega) | exact wr_u64 (by omega) (by omega))) ?_ | refine bindS_mk (b_add) ?_
        refine bindE (bs1_at (e := 5) (by kernel_rfl) z5 (by kernel_rfl)) fun h4 u4 => ?_
        have n4 := u4.next
        have f2_4 := (u4.other _ (by omega)).trans f2_2
        have f4_4 := u4.at_
        refine bindS_mk (cvBS (e := 5) (by kernel_rfl) ((elems_row f4_4).trans (byte1 (by have := b.toNat_lt; omega) (by have := b.toNat_lt; omega))) (.inr ⟨_, _, rfl⟩)) ?_
        refine bindS_mk (t_add (by simp only [List.length_append, List.length_cons, List.length_nil, hexL_len, List.length_take]; omega)) ?_
        refine Meet.of (cast_p (J121_1110100100100111_eq _ _ _ _ _ _ _ _ _ _) ?_)
        first | refine bindS_mk (w_add (by first | exact wrap_i64 (by omega) (by omega) | exact wr_u8 (by omega) (by omega) | exact wr_u16 (by omega) (by omega) | exact wr_u32 (by omega) (by omega) | exact wr_u64 (by omega) (by omega))) ?_ | refine bindS_mk (b_add) ?_
        refine Meet.of (cast_p (L121_111010010010_eq _ _ _ _ _ _ _ _ _ _) ?_)
        refine bindS_mk (b_lss_t (by omega)) ?_
        refine i_t ?_
        refine Meet.of (cast_p (J121_111010010010011_eq _ _ _ _ _ _ _ _ _ _) ?_)
        refine bindS_mk (ia_slc _ (by kernel_rfl) (by omega) (by omega)) ?_
        refine bindV_mk (ld_mk f2_4 (by kernel_rfl) (getV_row (by rfl))) ?_
        refine bindS_mk (b_lss) ?_
        refine i_split (fun c5 => ?_) (fun c5 => ?_)
        · try rw [c5]
          replace c5 := of_decide_eq_true c5
          first | refine bindS_mk (w_add (by first | exact wrap_i64 (by omega) (by omega) | exact wr_u8 (by omega) (by omega) | exact wr_u16 (by omega) (by omega) | exact wr_u32 (by omega) (by omega) | exact wr_u64 (by omega) (by omega))) ?_ | refine bindS_mk (b_add) ?_
          refine bindE (bs1_at (e := 5) (by kernel_rfl) z5 (by kernel_rfl)) fun h6 u6 => ?_
          have n6 := u6.next
          have f2_6 := (u6.other _ (by omega)).trans f2_4
          have f4_6 := (u6.other _ (by omega)).trans f4_4
          have f6_6 := u6.at_
          refine bindS_mk (cvBS (e := 5) (by kernel_rfl) ((elems_row f6_6).trans (byte1 (by have := b.toNat_lt; omega) (by have := b.toNat_lt; omega))) (.inr ⟨_, _, rfl⟩)) ?_
          refine bindS_mk (t_add (by simp only [List.length_append, List.length_cons, List.length_nil, hexL_len, List.length_take]; omega)) ?_
          refine Meet.of (cast_p (J121_1110100100100111_eq _ _ _ _ _ _ _ _ _ _) ?_)
          first | refine bindS_mk (w_add (by first | exact wrap_i64 (by omega) (by omega) | exact wr_u8 (by omega) (by omega) | exact wr_u16 (by omega) (by omega) | exact wr_u32 (by omega) (by omega) | exact wr_u64 (by omega) (by omega))) ?_ | refine bindS_mk (b_add) ?_
          refine Meet.of (cast_p (L121_111010010010_eq _ _ _ _ _ _ _ _ _ _) ?_)
          refine bindS_mk (b_lss_f (by omega)) ?_
          refine i_f ?_
          refine Meet.of (cast_p (J121_111010011_eq _ _ _ _ _ _) ?_)
          first | refine bindS_mk (w_add (by first | exact wrap_i64 (by omega) (by omega) | exact wr_u8 (by omega) (by omega) | exact wr_u16 (by omega) (by omega) | exact wr_u32 (by omega) (by omega) | exact wr_u64 (by omega) (by omega))) ?_ | refine bindS_mk (b_add) ?_
          refine Meet.of ((congrArg (fun x : Int => L121_111010 (fun e _ => q e) n (.str s) _ (.int .i64 x) _) (show ((i : Nat) : Int) + 1 = ((i + 1 : Nat) : Int) by omega)).mpr ?_)
          refine (congrArg (fun t : List UInt8 => L121_111010 (fun e _ => q e) n (.str s) (.str t) (.int .i64 ((i + 1 : Nat) : Int)) _) ?_).mpr (ih (i + 1) _ n (by omega) (by omega) (by omega))
          rw [take_snoc hb0, hexL_snoc, List.append_assoc]
          exact congrArg (hexL (s.take i) ++ ·) (List.cons_eq_cons.2 ⟨by first | exact hxlo (by omega) (by omega) | exact hxhi (by omega) (by omega), List.cons_eq_cons.2 ⟨by first | exact hxlo (by omega) (by omega) | exact hxhi (by omega) (by omega), rfl⟩⟩)
        · try rw [c5]
          replace c5 := of_decide_eq_false c5
          first | refine bindS_mk (w_add (by first | exact wrap_i64 (by omega) (by omega) | exact wr_u8 (by omega) (by omega) | exact wr_u16 (by omega) (by omega) | exact wr_u32 (by omega) (by omega) | exact wr_u64 (by omega) (by omega))) ?_ | refine bindS_mk (b_add) ?_
          refine bindE (bs1_at (e := 5) (by kernel_rfl) z5 (by kernel_rfl)) fun h7 u7 => ?_
          have n7 := u7.next
          have f2_7 := (u7.other _ (by omega)).trans f2_4
          have f4_7 := (u7.other _ (by omega)).trans f4_4
          have f7_7 := u7.at_
          refine bindS_mk (cvBS (e := 5) (by kernel_rfl) ((elems_row f7_7).trans (byte1 (by have := b.toNat_lt; omega) (by have := b.toNat_lt; omega))) (.inr ⟨_, _, rfl⟩)) ?_
          refine bindS_mk (t_add (by simp only [List.length_append, List.length_cons, List.length_nil, hexL_len, List.length_take]; omega)) ?_
          refine Meet.of (cast_p (J121_1110100100100111_eq _ _ _ _ _ _ _ _ _ _) ?_)
          first | refine bindS_mk (w_add (by first | exact wrap_i64 (by omega) (by omega) | exact wr_u8 (by omega) (by omega) | exact wr_u16 (by omega) (by omega) | exact wr_u32 (by omega) (by omega) | exact wr_u64 (by omega) (by omega))) ?_ | refine bindS_mk (b_add) ?_
          refine Meet.of (cast_p (L121_111010010010_eq _ _ _ _ _ _ _ _ _ _) ?_)
          refine bindS_mk (b_lss_f (by omega)) ?_
          refine i_f ?_
          refine Meet.of (cast_p (J121_111010011_eq _ _ _ _ _ _) ?_)
          first | refine bindS_mk (w_add (by first | exact wrap_i64 (by omega) (by omega) | exact wr_u8 (by omega) (by omega) | exact wr_u16 (by omega) (by omega) | exact wr_u32 (by omega) (by omega) | exact wr_u64 (by omega) (by omega))) ?_ | refine bindS_mk (b_add) ?_
          refine Meet.of ((congrArg (fun x : Int => L121_111010 (fun e _ => q e) n (.str s) _ (.int .i64 x) _) (show ((i : Nat) : Int) + 1 = ((i + 1 : Nat) : Int) by omega)).mpr ?_)
          refine (congrArg (fun t : List UInt8 => L121_111010 (fun e _ => q e) n (.str s) (.str t) (.int .i64 ((i + 1 : Nat) : Int)) _) ?_).mpr (ih (i + 1) _ n (by omega) (by omega) (by omega))
          rw [take_snoc hb0, hexL_snoc, List.append_assoc]
          exact congrArg (hexL (s.take i) ++ ·) (List.cons_eq_cons.2 ⟨by first | exact hxlo (by omega) (by omega) | exact hxhi (by omega) (by omega), List.cons_eq_cons.2 ⟨by first | exact hxlo (by omega) (by omega) | exact hxhi (by omega) (by omega), rfl⟩⟩)
      · try rw [c3]
        replace c3 := of_decide_eq_false c3
        first | refine bindS_mk (w_add (by first | exact wrap_i64 (by omega) (by omega) | exact wr_u8 (by omega) (by omega) | exact wr_u16 (by omega) (by omega) | exact wr_u32 (by omega) (by omega) | exact wr_u64 (by omega) (by omega))) ?_ | refine bindS_mk (b_add) ?_
        refine bindE (bs1_at (e := 5) (by kernel_rfl) z5 (by kernel_rfl)) fun h8 u8 => ?_
        have n8 := u8.next
        have f2_8 := (u8.other _ (by omega)).trans f2_2
        have f8_8 := u8.at_
        refine bindS_mk (cvBS (e := 5) (by kernel_rfl) ((elems_row f8_8).trans (byte1 (by have := b.toNat_lt; omega) (by have := b.toNat_lt; omega))) (.inr ⟨_, _, rfl⟩)) ?_
        refine bindS_mk (t_add (by simp only [List.length_append, List.length_cons, List.length_nil, hexL_len, List.length_take]; omega)) ?_
        refine Meet.of (cast_p (J121_1110100100100111_eq _ _ _ _ _ _ _ _ _ _) ?_)
        first | refine bindS_mk (w_add (by first | exact wrap_i64 (by omega) (by omega) | exact wr_u8 (by omega) (by omega) | exact wr_u16 (by omega) (by omega) | exact wr_u32 (by omega) (by omega) | exact wr_u64 (by omega) (by omega))) ?_ | refine bindS_mk (b_add) ?_
        refine Meet.of (cast_p (L121_111010010010_eq _ _ _ _ _ _ _ _ _ _) ?_)
        refine bindS_mk (b_lss_t (by omega)) ?_
        refine i_t ?_
        refine Meet.of (cast_p (J121_111010010010011_eq _ _ _ _ _ _ _ _ _ _) ?_)
        refine bindS_mk (ia_slc _ (by kernel_rfl) (by omega) (by omega)) ?_
        refine bindV_mk (ld_mk f2_8 (by kernel_rfl) (getV_row (by rfl))) ?_
        refine bindS_mk (b_lss) ?_
        refine i_split (fun c9 => ?_) (fun c9 => ?_)
        · try rw [c9]
          replace c9 := of_decide_eq_true c9
          first | refine bindS_mk (w_add (by first | exact wrap_i64 (by omega) (by omega) | exact wr_u8 (by omega) (by omega) | exact wr_u16 (by omega) (by omega) | exact wr_u32 (by omega) (by omega) | exact wr_u64 (by omega) (by omega))) ?_ | refine bindS_mk (b_add) ?_
          refine bindE (bs1_at (e := 5) (by kernel_rfl) z5 (by kernel_rfl)) fun h10 u10 => ?_
          have n10 := u10.next
          have f2_10 := (u10.other _ (by omega)).trans f2_8
          have f8_10 := (u10.other _ (by omega)).trans f8_8
          have f10_10 := u10.at_
          refine bindS_mk (cvBS (e := 5) (by kernel_rfl) ((elems_row f10_10).trans (byte1 (by have := b.toNat_lt; omega) (by have := b.toNat_lt; omega))) (.inr ⟨_, _, rfl⟩)) ?_
          refine bindS_mk (t_add (by simp only [List.length_append, List.length_cons, List.length_nil, hexL_len, List.length_take]; omega)) ?_
          refine Meet.of (cast_p (J121_1110100100100111_eq _ _ _ _ _ _ _ _ _ _) ?_)
          first | refine bindS_mk (w_add (by first | exact wrap_i64 (by omega) (by omega) | exact wr_u8 (by omega) (by omega) | exact wr_u16 (by omega) (by omega) | exact wr_u32 (by omega) (by omega) | exact wr_u64 (by omega) (by omega))) ?_ | refine bindS_mk (b_add) ?_
          refine Meet.of (cast_p (L121_111010010010_eq _ _ _ _ _ _ _ _ _ _) ?_)
          refine bindS_mk (b_lss_f (by omega)) ?_
          refine i_f ?_
          refine Meet.of (cast_p (J121_111010011_eq _ _ _ _ _ _) ?_)
          first | refine bindS_mk (w_add (by first | exact wrap_i64 (by omega) (by omega) | exact wr_u8 (by omega) (by omega) | exact wr_u16 (by omega) (by omega) | exact wr_u32 (by omega) (by omega) | exact wr_u64 (by omega) (by omega))) ?_ | refine bindS_mk (b_add) ?_
          refine Meet.of ((congrArg (fun x : Int => L121_111010 (fun e _ => q e) n (.str s) _ (.int .i64 x) _) (show ((i : Nat) : Int) + 1 = ((i + 1 : Nat) : Int) by omega)).mpr ?_)
          refine (congrArg (fun t : List UInt8 => L121_111010 (fun e _ => q e) n (.str s) (.str t) (.int .i64 ((i + 1 : Nat) : Int)) _) ?_).mpr (ih (i + 1) _ n (by omega) (by omega) (by omega))
          rw [take_snoc hb0, hexL_snoc, List.append_assoc]
          exact congrArg (hexL (s.take i) ++ ·) (List.cons_eq_cons.2 ⟨by first | exact hxlo (by omega) (by omega) | exact hxhi (by omega) (by omega), List.cons_eq_cons.2 ⟨by first | exact hxlo (by omega) (by omega) | exact hxhi (by omega) (by omega), rfl⟩⟩)
        · try rw [c9]
          replace c9 := of_decide_eq_false c9
          first | refine bindS_mk (w_add (by first | exact wrap_i64 (by omega) (by omega) | exact wr_u8 (by omega) (by omega) | exact wr_u16 (by omega) (by omega) | exact wr_u32 (by omega) (by omega) | exact wr_u64 (by omega) (by omega))) ?_ | refine bindS_mk (b_add) ?_
          refine bindE (bs1_at (e := 5) (by kernel_rfl) z5 (by kernel_rfl)) fun h11 u11 => ?_
          have n11 := u11.next
          have f2_11 := (u11.other _ (by omega)).trans f2_8
          have f8_11 := (u11.other _ (by omega)).trans f8_8
          have f11_11 := u11.at_
          refine bindS_mk (cvBS (e := 5) (by kernel_rfl) ((elems_row f11_11).trans (byte1 (by have := b.toNat_lt; omega) (by have := b.toNat_lt; omega))) (.inr ⟨_, _, rfl⟩)) ?_
          refine bindS_mk (t_add (by simp only [List.length_append, List.length_cons, List.length_nil, hexL_len, List.length_take]; omega)) ?_
          refine Meet.of (cast_p (J121_1110100100100111_eq _ _ _ _ _ _ _ _ _ _) ?_)
          first | refine bindS_mk (w_add (by first | exact wrap_i64 (by omega) (by omega) | exact wr_u8 (by omega) (by omega) | exact wr_u16 (by omega) (by omega) | exact wr_u32 (by omega) (by omega) | exact wr_u64 (by omega) (by omega))) ?_ | refine bindS_mk (b_add) ?_
          refine Meet.of (cast_p (L121_111010010010_eq _ _ _ _ _ _ _ _ _ _) ?_)
          refine bindS_mk (b_lss_f (by omega)) ?_
          refine i_f ?_
          refine Meet.of (cast_p (J121_111010011_eq _ _ _ _ _ _) ?_)
          first | refine bindS_mk (w_add (by first | exact wrap_i64 (by omega) (by omega) | exact wr_u8 (by omega) (by omega) | exact wr_u16 (by omega) (by omega) | exact wr_u32 (by omega) (by omega) | exact wr_u64 (by omega) (by omega))) ?_ | refine bindS_mk (b_add) ?_
          refine Meet.of ((congrArg (fun x : Int => L121_111010 (fun e _ => q e) n (.str s) _ (.int .i64 x) _) (show ((i : Nat) : Int) + 1 = ((i + 1 : Nat) : Int) by omega)).mpr ?_)
          refine (congrArg (fun t : List UInt8 => L121_111010 (fun e _ => q e) n (.str s) (.str t) (.int .i64 ((i + 1 : Nat) : Int)) _) ?_).mpr (ih (i + 1) _ n (by omega) (by omega) (by omega))
          rw [take_snoc hb0, hexL_snoc, List.append_assoc]
          exact congrArg (hexL (s.take i) ++ ·) (List.cons_eq_cons.2 ⟨by first | exact hxlo (by omega) (by omega) | exact hxhi (by omega) (by omega), List.cons_eq_cons.2 ⟨by first | exact hxlo (by omega) (by omega) | exact hxhi (by omega) (by omega), rfl⟩⟩)
    · try rw [c1]
      replace c1 := of_decide_eq_false c1
      refine Meet.of (cast_p (J121_1111_eq _ _ _) ?_)
      rw [List.take_of_length_le (by omega)]; exact c
theorem HexP (s : List UInt8) (hs : s.length ≤ 70000000000000) (h : AH) : ACalls Pg 121 [.str s] h (pureE (.str (hexS s)) h) := by
  refine pure_lift rfl rfl ?_ h
  refine C121 _ _ _ ?_
  refine bindV_mk (len_str (by kernel_rfl)) ?_
  refine bindS_mk (b_eql) ?_
  refine i_split (fun c1 => ?_) (fun c1 => ?_)
  · try rw [c1]
    replace c1 := eq_of_beq c1
    obtain rfl : s = [] := List.length_eq_zero_iff.1 (by omega)
    rfl
  · try rw [c1]
    replace c1 := ne_of_beq_false c1
    refine Meet.of (cast_p (J121_11_eq _ _ _) ?_)
    exact ⟨s.length + 1, Meet.of (loop121 (fun e => e = .ret (.str (hexS s))) s hs (by rw [hexS, if_neg (by intro hh; rw [List.isEmpty_iff] at hh; subst hh; exact c1 rfl)]) s.length 0 _ _ (by omega) (by omega) (by omega))⟩
theorem NameP (x : Int) (h0 : 0 ≤ x) (h : AH) : ACalls Pg 120 [.int .u8 x] h (pureE (.str (nameOf x.toNat)) h) := by
  refine pure_lift rfl rfl ?_ h
  refine C120 _ _ _ ?_
  refine bindS_mk (b_eql) ?_
  refine i_split (fun c1 => ?_) (fun c1 => ?_)
  · try rw [c1]
    replace c1 := eq_of_beq c1
    subst c1; rfl
  · try rw [c1]
    replace c1 := ne_of_beq_false c1
    refine bindS_mk (b_eql) ?_
    refine i_split (fun c2 => ?_) (fun c2 => ?_)
    · try rw [c2]
      replace c2 := eq_of_beq c2
      subst c2; rfl
    · try rw [c2]
      replace c2 := ne_of_beq_false c2
      refine bindS_mk (b_eql) ?_
      refine i_split (fun c3 => ?_) (fun c3 => ?_)
      · try rw [c3]
        replace c3 := eq_of_beq c3
        subst c3; rfl
      · try rw [c3]
        replace c3 := ne_of_beq_false c3
        refine bindS_mk (b_eql) ?_
        refine i_split (fun c4 => ?_) (fun c4 => ?_)
        · try rw [c4]
          replace c4 := eq_of_beq c4
          subst c4; rfl
        · try rw [c4]
          replace c4 := ne_of_beq_false c4
          refine bindS_mk (b_eql) ?_
          refine i_split (fun c5 => ?_) (fun c5 => ?_)
          · try rw [c5]
            replace c5 := eq_of_beq c5
            subst c5; rfl
          · try rw [c5]
            replace c5 := ne_of_beq_false c5
            refine bindS_mk (b_eql) ?_
            refine i_split (fun c6 => ?_) (fun c6 => ?_)
            · try rw [c6]
              replace c6 := eq_of_beq c6
              subst c6; rfl
            · try rw [c6]
              replace c6 := ne_of_beq_false c6
              refine bindS_mk (b_eql) ?_
              refine i_split (fun c7 => ?_) (fun c7 => ?_)
              · try rw [c7]
                replace c7 := eq_of_beq c7
                subst c7; rfl
              · try rw [c7]
                replace c7 := ne_of_beq_false c7
                refine bindS_mk (b_eql) ?_
                refine i_split (fun c8 => ?_) (fun c8 => ?_)
                · try rw [c8]
                  replace c8 := eq_of_beq c8
                  subst c8; rfl
                · try rw [c8]
                  replace c8 := ne_of_beq_false c8
                  refine Meet.of (cast_p (J120_11_eq _ _) ?_)
                  rw [name_call (by omega)]
end Go.Proofs.YtcglbpjpbjaecaaGreat.Sh
namespace Go.Proofs.YtcglbpjpbjaecaaGreat.Sj
open Go Go.Ab Go.RowKit Go.Proofs
open Go.Proofs.YtcglbpjpbjaecaaGreat.Ru (Pg okP)
set_option maxRecDepth 100000
def joRen : Go.Shelf.Ren := ⟨fun | 156 => 198 | 165 => 254 | 166 => 123 | 169 => 125 | 240 => 199 | 241 => 293 | 276 => 255 | 277 => 303 | n => n, fun | 31 => 337 | 9 => 9 | 3 => 3 | 4 => 4 | 0 => 0 | 20 => 20 | 72 => 233 | 76 => 238 | 70 => 231 | 37 => 207 | 75 => 237 | 127 => 346 | 164 => 383 | 5 => 5 | 80 => 240 | n => n, fun n => n⟩
theorem joLay : Lays.n156 Tryz.prog joRen := {
  mixed := by kernel_rfl,
  f156 := Tryz.func198.trans (congrArg some (by kernel_rfl)),
  f165 := Tryz.func254.trans (congrArg some (by kernel_rfl)),
  f166 := Tryz.func123.trans (congrArg some (by kernel_rfl)),
  f169 := Tryz.func125.trans (congrArg some (by kernel_rfl)),
  f240 := Tryz.func199.trans (congrArg some (by kernel_rfl)),
  f241 := Tryz.func293.trans (congrArg some (by kernel_rfl)),
  f276 := Tryz.func255.trans (congrArg some (by kernel_rfl)),
  f277 := Tryz.func303.trans (congrArg some (by kernel_rfl)),
  t0 := Tryz.underlying0,
  a0 := Tryz.isAgg0,
  z0 := Tryz.sizeOf0,
  v0 := Tryz.zeroValue0,
  t3 := Tryz.underlying3,
  a3 := Tryz.isAgg3,
  z3 := Tryz.sizeOf3,
  v3 := Tryz.zeroValue3,
  t4 := Tryz.underlying4,
  a4 := Tryz.isAgg4,
  z4 := Tryz.sizeOf4,
  v4 := Tryz.zeroValue4,
  t9 := Tryz.underlying9,
  a9 := Tryz.isAgg9,
  z9 := Tryz.sizeOf9,
  v9 := Tryz.zeroValue9,
  t20 := Tryz.underlying20,
  a20 := Tryz.isAgg20,
  z20 := Tryz.sizeOf20,
  v20 := Tryz.zeroValue20,
  t31 := Tryz.underlying337,
  a31 := Tryz.isAgg337,
  z31 := Tryz.sizeOf337,
  v31 := Tryz.zeroValue337,
  t37 := Tryz.underlying207,
  a37 := Tryz.isAgg207,
  z37 := Tryz.sizeOf207,
  v37 := Tryz.zeroValue207,
  t70 := Tryz.underlying231,
  a70 := Tryz.isAgg231,
  z70 := Tryz.sizeOf231,
  v70 := Tryz.zeroValue231,
  t72 := Tryz.underlying233,
  a72 := Tryz.isAgg233,
  z72 := Tryz.sizeOf233,
  v72 := Tryz.zeroValue233,
  t75 := Tryz.underlying237,
  a75 := Tryz.isAgg237,
  z75 := Tryz.sizeOf237,
  v75 := Tryz.zeroValue237,
  t76 := Tryz.underlying238,
  a76 := Tryz.isAgg238,
  z76 := Tryz.sizeOf238,
  v76 := Tryz.zeroValue238,
  t127 := Tryz.underlying346,
  a127 := Tryz.isAgg346,
  z127 := Tryz.sizeOf346,
  v127 := Tryz.zeroValue346,
  t164 := Tryz.underlying383,
  a164 := Tryz.isAgg383,
  z164 := Tryz.sizeOf383,
  v164 := Tryz.zeroValue383 }
theorem joX : Builder.Extra Tryz.prog joRen where
  sizeBuilder := by kernel_rfl
  liesBuilder := by kernel_rfl
  t5 := Tryz.underlying5
  a5 := Tryz.isAgg5
  z5 := Tryz.sizeOf5
  v5 := Tryz.zeroValue5
  infoByte := by kernel_rfl
  cellsByte := by kernel_rfl
  sizeByte := by kernel_rfl
  neB5 := by decide
theorem relCs_strs {P : Program} {ι : Names} : ∀ {ss : List (List UInt8)} {cs : List Value}, relCs P ι (ss.map V.str) cs → cs = ss.map fun s => Value.string ⟨s.toArray⟩
  | [], cs, h => by simpa only [List.map_nil, relCs] using h
  | s :: ss, cs, h => by
    simp only [List.map_cons, relCs, relC] at h
    obtain ⟨a, b, rfl, h2, rfl⟩ := h
    rw [relCs_strs h2]; rfl
theorem joinP (n : Nat) (own : Bool) (ss : List (List UInt8)) (sep : List UInt8) (h : AH) (hm : h.m n = some (.cells own (.row 9) (.agg (ss.map V.str)))) (hl : ss.length ≤ 1000) (hne : ss ≠ [])
    (hj : (Lib.join ss sep).length ≤ 140737488355328) : ACalls Pg 198 [.slc (some (⟨n, .row 9, []⟩, 0)) ss.length, .str sep] h (pureE (.str (Lib.join ss sep)) h) := by
  intro B ι W vs F r
  obtain ⟨v0, vs0, h0, r0, rfl⟩ := relL_cons_iff.1 r
  obtain ⟨v1, vs1, h1, r1, rfl⟩ := relL_cons_iff.1 r0
  simp only [relL] at r1
  subst r1
  obtain rfl := rel_str h1
  obtain ⟨q, cap, rfl, hcap, hrow⟩ := rel_slc h0
  have hlen0 : 0 < ss.length := List.length_pos_iff.2 hne
  obtain ⟨L, o, e, g1, g2, g3, g4, g5⟩ := hrow (by omega)
  obtain ⟨L', k1, k2, k3, a, b, c, elem, fr, k4, k5, k6, k7, k8⟩ := F.obj _ _ hm
  rw [g1] at k1; cases k1
  have hro : Go.Ab.rowAt Pg (.row 9) [] = some (0, 9) := rfl
  rw [hro] at g3; cases g3
  have hb : b = ss.map fun s => Value.string ⟨s.toArray⟩ := relCs_strs k7
  have hcell : ∀ (j : Nat) x, (ss.map fun s => (⟨s.toArray⟩ : ByteArray))[j]? = some x → W.cell? ⟨L.blk, L.off + j, none⟩ = some (.string x) := by
    intro j x hx
    rw [← k5]
    refine cell_in k4 j _ ?_
    rw [hb, List.getElem?_map]
    rw [List.getElem?_map] at hx
    cases hs : ss[j]? with
    | none => rw [hs] at hx; cases hx
    | some s => rw [hs] at hx; simp at hx; subst hx; rfl
  have hmm : (ss.map fun s => (⟨s.toArray⟩ : ByteArray)).map (·.data.toList) = ss := by
    rw [List.map_map]
    exact List.map_id'' (fun s => rfl) ss
  have hq : q = ⟨L.blk, L.off, none⟩ := by rw [g4]; simp
  have key := Any.strings_Join joLay joX L.blk L.off cap (ss.map fun s => (⟨s.toArray⟩ : ByteArray)) ⟨sep.toArray⟩ W hcell (getBlk_lt k4) (by simp; omega) (by simpa using hcap) (by rw [hmm]; simpa using hj)
  rw [hmm] at key
  simp only [List.length_map] at key
  rw [hq]
  refine Calls.mono key ?_
  rintro e w' ⟨rfl, bel⟩
  have hold : ∀ b, b < W.heap.size → w'.heap[b]? = W.heap[b]? := fun b hb => bel.block b hb
  refine ⟨ι, h, .ret _, Names.le_refl _, ?_, .inr ⟨rfl, by simp only [relC, Value.cells]⟩, rfl, rfl⟩
  exact (F.grow (fun _ => False) hold (fun _ h => h.elim) bel.os bel.tape bel.output bel.size).rebase (BaseLe.grow F _ hold bel.os bel.tape bel.output bel.size)
end Go.Proofs.YtcglbpjpbjaecaaGreat.Sj
namespace Go.Proofs.YtcglbpjpbjaecaaGreat.Sh
open Go Go.Ab Go.RowKit
open Go.Proofs.YtcglbpjpbjaecaaGreat.Ru (Pg okP)
set_option maxRecDepth 10000
def jn (ss : List (List UInt8)) : List UInt8 := Go.Lib.join ss [32]
theorem jn2 (a b : List UInt8) : jn [a, b] = a ++ 32 :: b := by simp [jn, Go.Lib.join, List.intercalate]
theorem jn3 (a b c : List UInt8) : jn [a, b, c] = a ++ 32 :: (b ++ 32 :: c) := by simp [jn, Go.Lib.join, List.intercalate]
theorem wordsP (n : Nat) (own : Bool) (ss : List (List UInt8)) (h : AH) (hm : h.m n = some (.cells own (.row 9) (.agg (ss.map V.str)))) (hl : ss.length ≤ 1000) (hne : ss ≠ []) (hj : (jn ss).length ≤ 140737488355328) :
    ACalls Pg 115 [.slc (some (⟨n, .row 9, []⟩, 0)) ss.length] h (pureE (.str (jn ss)) h) :=
  C115 _ _ _ (callS (Sj.joinP n own ss [32] h hm hl hne hj) ⟨rfl, rfl⟩)
def callV : List V := [.agg [.str [98, 101, 103, 105, 110], .bool false, .bool false, .bool false, .bool false],
  .agg [.str [114, 101, 97, 100], .bool true, .bool true, .bool false, .bool false],
  .agg [.str [119, 114, 105, 116, 101], .bool true, .bool true, .bool true, .bool true],
  .agg [.str [99, 111, 109, 109, 105, 116], .bool true, .bool false, .bool false, .bool false],
  .agg [.str [97, 98, 111, 114, 116], .bool true, .bool false, .bool false, .bool false],
  .agg [.str [118, 97, 99, 117, 117, 109], .bool false, .bool false, .bool false, .bool false],
  .agg [.str [99, 104, 101, 99, 107, 112, 111, 105, 110, 116], .bool false, .bool false, .bool false, .bool false],
  .agg [.str [99, 108, 111, 115, 101], .bool false, .bool false, .bool false, .bool false]]
theorem callsP (h : AH) : ACalls Pg 114 [] h fun e h' => e = .ret (.slc (some (⟨h.next, .row 225, []⟩, 0)) 8) ∧ New h h' (.cells true (.row 225) (.agg callV)) := by
  refine C114 _ _ ?_
  refine bindS_mk (show aBuild Pg 225 [(0, .str [98, 101, 103, 105, 110])] = some (.agg [.str [98, 101, 103, 105, 110], .bool false, .bool false, .bool false, .bool false]) by kernel_rfl) ?_
  refine bindS_mk (show aBuild Pg 225 [(0, .str [114, 101, 97, 100]), (1, .bool true), (2, .bool true)] = some (.agg [.str [114, 101, 97, 100], .bool true, .bool true, .bool false, .bool false]) by kernel_rfl) ?_
  refine bindS_mk (show aBuild Pg 225 [(0, .str [119, 114, 105, 116, 101]), (1, .bool true), (2, .bool true), (3, .bool true), (4, .bool true)] = some (.agg [.str [119, 114, 105, 116, 101], .bool true, .bool true, .bool true, .bool true]) by kernel_rfl) ?_
  refine bindS_mk (show aBuild Pg 225 [(0, .str [99, 111, 109, 109, 105, 116]), (1, .bool true)] = some (.agg [.str [99, 111, 109, 109, 105, 116], .bool true, .bool false, .bool false, .bool false]) by kernel_rfl) ?_
  refine bindS_mk (show aBuild Pg 225 [(0, .str [97, 98, 111, 114, 116]), (1, .bool true)] = some (.agg [.str [97, 98, 111, 114, 116], .bool true, .bool false, .bool false, .bool false]) by kernel_rfl) ?_
  refine bindS_mk (show aBuild Pg 225 [(0, .str [118, 97, 99, 117, 117, 109])] = some (.agg [.str [118, 97, 99, 117, 117, 109], .bool false, .bool false, .bool false, .bool false]) by kernel_rfl) ?_
  refine bindS_mk (show aBuild Pg 225 [(0, .str [99, 104, 101, 99, 107, 112, 111, 105, 110, 116])] = some (.agg [.str [99, 104, 101, 99, 107, 112, 111, 105, 110, 116], .bool false, .bool false, .bool false, .bool false]) by kernel_rfl) ?_
  refine bindS_mk (show aBuild Pg 225 [(0, .str [99, 108, 111, 115, 101])] = some (.agg [.str [99, 108, 111, 115, 101], .bool false, .bool false, .bool false, .bool false]) by kernel_rfl) ?_
  refine bindE (bs_at (e := 225) (z := .agg [.str [], .bool false, .bool false, .bool false, .bool false]) (l := callV) (by kernel_rfl) (by kernel_rfl) (by kernel_rfl)) fun h1 u1 => ?_
  exact ⟨rfl, u1⟩
structure Td where
  (who life frm to err : Int)
  (kind txn page off : Int)
  s : List UInt8
  opn : Bool
  (rtxn ts : Int)
  body : List UInt8
def vCall (kind txn page off : Int) (s : List UInt8) : V := .agg [.int .u8 kind, .int .u64 txn, .int .u16 page, .int .i64 off, .str s]
def Td.v (t : Td) : V := .agg [.int .i64 t.who, vCall t.kind t.txn t.page t.off t.s, .int .i64 t.life, .int .i64 t.frm, .int .i64 t.to, .bool t.opn, .agg [.int .i64 t.err, .int .u64 t.rtxn, .int .u32 t.ts, .agg (bytesV t.body)]]
structure Td.ok (t : Td) : Prop where
  kind : 0 ≤ t.kind ∧ t.kind < 256
  rtxn : 0 ≤ t.rtxn ∧ t.rtxn < 18446744073709551616
  ts : 0 ≤ t.ts ∧ t.ts < 4294967296
  body : t.body.length = 64
theorem shapeB {l : List UInt8} : ∀ {n : Nat}, l.length = n → shapesAll Pg (bytesV l) 5 = true := by
  intro n _
  have : ∀ l : List UInt8, shapesAll Pg (bytesV l) 5 = true := by
    intro l
    induction l with
    | nil => rfl
    | cons b l ih =>
      have e : bytesV (b :: l) = .int .u8 b.toNat :: bytesV l := rfl
      have e2 : hasShape Pg (.int .u8 b.toNat) 5 = true := by kernel_rfl
      rw [e]; simp only [shapesAll, e2, ih, Bool.and_self]
  exact this l
theorem s33 {l : List UInt8} (h : l.length = 64) : hasShape Pg (.agg (bytesV l)) 33 = true := by
  have hu : ul Pg 33 = some (.array 64 5) := by kernel_rfl
  simp only [hasShape, hu, bytesV_len, h, shapeB h, Bool.and_self, beq_self_eq_true]
theorem Td.shape (t : Td) (h : t.body.length = 64) : hasShape Pg t.v 94 = true := by
  have h1 := s33 h
  have e : hasShape Pg t.v 94 = ((hasShape Pg (.agg (bytesV t.body)) 33 && true) && true) := by kernel_rfl
  rw [e, h1]; rfl
theorem Td.flat (t : Td) : flatBs [t.v] = true := by
  have h1 := flat_bytes t.body
  simp only [flatBs, Td.v, vCall, flatB, h1, Bool.and_self]
def low (x : Int) : List UInt8 := dec (x % 4294967296).toNat
def trimB (l : List UInt8) : Nat → Nat
  | 0 => 0
  | n + 1 => if l.getD n 0 = 0 then trimB l n else n + 1
def Td.head (t : Td) : List UInt8 := jn [low t.life, low t.who, nameOf t.kind.toNat, low t.frm]
def Td.mid (t : Td) : List UInt8 := jn [t.head, low t.to, low t.err, dec t.rtxn.toNat, dec t.ts.toNat]
def Td.line (t : Td) : List UInt8 :=
  if t.opn then jn [t.head, [111, 112, 101, 110]] else if trimB t.body 64 = 0 then t.mid else jn [t.mid, hexS (t.body.take (trimB t.body 64))]
theorem hexS_len (s : List UInt8) : (hexS s).length ≤ 2 * s.length + 1 := by
  unfold hexS
  split
  · simp
  · rw [hexL_len]; omega
section
variable (t : Td) (ok : t.ok) {q : AEnd → Prop} (c : q (.ret (.str t.line)))
include ok c
end
end Go.Proofs.YtcglbpjpbjaecaaGreat.Sh
namespace Go.Proofs.YtcglbpjpbjaecaaGreat.Sh
open Go Go.Ab Go.RowKit
open Go.Proofs.YtcglbpjpbjaecaaGreat.Ru (Pg okP)
set_option maxRecDepth 10000
theorem z9 : zeroV Pg 9 = some (.str []) := by kernel_rfl
theorem z60 : zeroV Pg 60 = some (.agg [(.int .i64 0), (.int .u64 0), (.int .u32 0), (.agg (List.replicate 64 (.int .u8 0)))]) := by kernel_rfl
section
variable (t : Td) (ok : t.ok) {q : AEnd → Prop} (c : q (.ret (.str t.line)))
include ok c
end
end Go.Proofs.YtcglbpjpbjaecaaGreat.Sh
namespace Go.Proofs.YtcglbpjpbjaecaaGreat.Sh
open Go Go.Ab Go.RowKit
open Go.Proofs.YtcglbpjpbjaecaaGreat.Ru (Pg okP)
set_option maxRecDepth 10000
structure Ev where
  kind : Nat
  (a b : Int)
  (ck txn page : Nat)
  off : Int
  s : List UInt8
  keep : List Bool
structure Ev.ok (e : Ev) : Prop where
  kind : e.kind < 256
  a : -9223372036854775808 ≤ e.a ∧ e.a < 9223372036854775808
  b : -9223372036854775808 ≤ e.b ∧ e.b < 9223372036854775808
  ck : e.ck < 256
  txn : e.txn < 18446744073709551616
  page : e.page < 65536
  off : -9223372036854775808 ≤ e.off ∧ e.off < 9223372036854775808
  s : e.s.length ≤ 140737488355328
  keep : e.keep.length ≤ 140737488355328
def cV (e : Ev) : V := .agg [.int .u8 e.ck, .int .u64 e.txn, .int .u16 e.page, .int .i64 e.off, .str e.s]
def evV (e : Ev) (k : V) : V := .agg [.int .u8 e.kind, .int .i64 e.a, .int .i64 e.b, cV e, k]
def boolsV (l : List Bool) : List V := l.map .bool
def kindNames : List (List UInt8) := [[97, 115, 107], [115, 116, 101, 112], [114, 111, 117, 110, 100], [102, 117, 115, 101], [102, 97, 105, 108], [99, 114, 97, 115, 104], [111, 112, 101, 110]]
def kindName (k : Nat) : List UInt8 := kindNames.getD k []
def fTxn (k : Nat) : Bool := decide (1 ≤ k ∧ k ≤ 4)
def fPage (k : Nat) : Bool := decide (k = 1 ∨ k = 2)
def fOff (k : Nat) : Bool := decide (k = 2)
def Ev.fine (e : Ev) : Prop :=
  e.kind < 7 ∧ 0 ≤ e.a ∧ e.a < 2147483648 ∧ e.b = 0 ∧
  (e.kind ≠ 0 → e.ck = 0 ∧ e.txn = 0 ∧ e.page = 0 ∧ e.off = 0 ∧ e.s.length = 0) ∧ (e.kind ≠ 5 → e.keep.length = 0) ∧
  (e.kind = 0 → e.a < 10 ∧ e.ck < 8 ∧ e.txn < 2147483648 ∧ 0 ≤ e.off ∧ e.off < 2147483648 ∧ e.s.length ≤ 64 ∧
    (¬ (1 ≤ e.ck ∧ e.ck ≤ 4) → e.txn = 0) ∧ (¬ (e.ck = 1 ∨ e.ck = 2) → e.page = 0) ∧ (e.ck ≠ 2 → e.off = 0 ∧ e.s.length = 0)) ∧
  (e.kind = 5 → e.a = 0 ∧ e.keep.length ≤ 2000)
instance (e : Ev) : Decidable e.fine := by unfold Ev.fine; infer_instance
def bitsT (l : List Bool) : List UInt8 := l.map fun b => if b then 49 else 48
def Ev.txt (e : Ev) : List UInt8 :=
  if e.kind = 0 then [97, 115, 107] ++ 32 :: (dec e.a.toNat ++ 32 :: (nameOf e.ck ++ ((if fTxn e.ck then 32 :: dec e.txn else []) ++ ((if fPage e.ck then 32 :: dec e.page else []) ++ (if fOff e.ck then 32 :: (dec e.off.toNat ++ 32 :: hexS e.s) else [])))))
  else if e.kind = 5 then [99, 114, 97, 115, 104, 32] ++ (if e.keep.length = 0 then [45] else bitsT e.keep)
  else kindName e.kind ++ 32 :: dec e.a.toNat
def Ev.lineV (e : Ev) : V := .tup [.str (if e.fine then e.txt else []), .bool (decide e.fine)]
theorem line_yes {e : Ev} (h : e.fine) {t : List UInt8} (ht : t = e.txt) : V.tup [.str t, .bool true] = e.lineV := by rw [Ev.lineV, if_pos h, decide_eq_true h, ht]
theorem line_no {e : Ev} (h : ¬ e.fine) : V.tup [.str [], .bool false] = e.lineV := by rw [Ev.lineV, if_neg h, decide_eq_false h]
theorem boolsV_len (l : List Bool) : (boolsV l).length = l.length := by simp [boolsV]
theorem s57 (e : Ev) : hasShape Pg (cV e) 57 = true := by kernel_rfl
theorem s73 (e : Ev) (a : Option (PA × Nat)) (n : Nat) : hasShape Pg (evV e (.slc a n)) 73 = true := by kernel_rfl
def cZ : V := .agg [.int .u8 0, .int .u64 0, .int .u16 0, .int .i64 0, .str []]
theorem build57 : aBuild Pg 57 [] = some cZ := by kernel_rfl
theorem ne57 (e : Ev) (c : Bool) : aBin Pg .neq 57 (cV e) cZ c = some (.bool (!decide (e.ck = 0 ∧ e.txn = 0 ∧ e.page = 0 ∧ e.off = 0 ∧ e.s.length = 0))) := by
  have h1 : aBin Pg .neq 57 (cV e) cZ c = if eqOk Pg 57 (cV e) cZ c = true then (aEq Pg 57 (cV e) cZ).map (fun b => .bool (!b)) else none := rfl
  have h2 : eqOk Pg 57 (cV e) cZ c = true := by kernel_rfl
  have h3 : plainT Pg 20 57 = true := by kernel_rfl
  rw [h1, h2, if_pos rfl]
  unfold aEq
  have hz : hasShape Pg cZ 57 = true := by kernel_rfl
  rw [h3, if_pos rfl, s57 e, hz]
  simp only [Bool.and_self, if_true]
  have : beqV (cV e) cZ = some (decide (e.ck = 0 ∧ e.txn = 0 ∧ e.page = 0 ∧ e.off = 0 ∧ e.s.length = 0)) := by
    obtain ⟨kind, a, b, ck, txn, page, off, s, keep⟩ := e
    simp only [cV, cZ, beqV, beqVs, if_true]
    clear h1 h2 h3 hz
    have eb : ∀ x : Int, (x == 0) = decide (x = 0) := fun x => by by_cases h : x = 0 <;> simp [h]
    simp only [eb]
    by_cases k1 : ck = 0 <;> by_cases k2 : txn = 0 <;> by_cases k3 : page = 0 <;> by_cases k4 : off = 0 <;> cases s <;> simp [k1, k2, k3, k4]
  rw [this]; rfl
end Go.Proofs.YtcglbpjpbjaecaaGreat.Sh
namespace Go.Proofs.YtcglbpjpbjaecaaGreat.Sh
open Go Go.Ab Go.RowKit
open Go.Proofs.YtcglbpjpbjaecaaGreat.Ru (Pg okP)
set_option maxRecDepth 100000
noncomputable def B122 : Code := (Tryz.f122.body).getD .skip
def R122 : List ResultVar := [.tmp 2, .tmp 3]
abbrev N122 : Nat := 217
def K122 : KT := (.seq .leaf (.seq .leaf (.join (.join (.reg [[1, 4, 18, 21], [1, 4, 23, 26], [1, 4, 28, 31]]) (.two (.seq .leaf .leaf [2, 3]) .leaf) [1, 4, 32]) (.seq .leaf (.seq .leaf (.join (.join (.reg [[1, 5, 6, 43, 46], [1, 5, 6, 48, 52], [1, 5, 6, 48, 52, 56], [1, 5, 6, 48, 57]]) (.two (.seq .leaf .leaf [2, 3]) .leaf) [1, 5, 6, 58]) (.join (.seq .leaf (.one (.seq .leaf (.two (.seq .leaf (.join (.join (.reg [[1, 5, 6, 7, 74, 80]]) (.two (.seq .leaf .leaf [2, 3]) .leaf) [1, 5, 6, 7, 81]) (.seq .leaf (.join (.join (.reg [[1, 5, 6, 8, 90, 93], [1, 5, 6, 8, 95, 98], [1, 5, 6, 8, 100, 104], [1, 5, 6, 8, 106, 110], [1, 5, 6, 8, 106, 110, 113], [1, 5, 6, 8, 106, 114], [1, 5, 6, 8, 116, 120], [1, 5, 6, 8, 116, 120, 123], [1, 5, 6, 8, 116, 124], [1, 5, 6, 8, 126, 130], [1, 5, 6, 8, 126, 130, 133], [1, 5, 6, 8, 126, 134], [1, 5, 6, 8, 136, 140], [1, 5, 6, 8, 136, 140, 143], [1, 5, 6, 8, 136, 144]]) (.two (.seq .leaf .leaf [2, 3]) .leaf) [1, 5, 6, 8, 145]) (.seq (.eff [7]) (.join (.seq .leaf (.two .leaf .leaf) [5, 6, 8, 156]) (.join (.seq .leaf (.two .leaf .leaf) [5, 6, 8, 164]) (.seq .leaf (.two (.eff [8]) .leaf) [5, 6, 173]) [5, 6, 8]) [5, 6, 8]) [5, 6, 8]) [1, 5, 6, 8]) [1, 5, 6, 8]) [1, 5, 6, 7]) [1, 5, 6, 7]) (.seq .leaf (.two (.join (.join (.reg [[1, 5, 189, 193]]) (.two (.seq .leaf .leaf [2, 3]) .leaf) [1, 5, 194]) (.seq .leaf (.join (.seq .leaf (.one (.loop (.seq .leaf (.join (.two .leaf .leaf) (.join (.one (.seq .leaf (.seq .leaf (.two .leaf .leaf) [1, 5, 198, 199, 200, 204]) [1, 5, 10, 198, 199, 200])) .leaf [1, 5, 198, 199, 200]) [1, 5, 198, 199, 200]) [1, 5, 198, 199, 200, 201]) [1, 5, 198, 199, 200])) [1, 5, 198, 199, 200]) (.seq .leaf (.two .leaf .leaf) [5, 213]) [1, 5]) [1, 5]) [1, 5]) .leaf) [1, 5, 184])) [1, 5, 6, 60, 68])) [1, 5, 6, 60]) (.seq .leaf .leaf [2, 3]) [5]) [1, 5, 6]) [1, 5, 6]) [1, 5]) [1, 4]) [1, 4]) [1])
def J122_1111111 (Q : AEnd → AH → Prop) (x5 : V) (h : AH) : Prop := vcAt Pg N122 B122 K122 [1, 1, 1, 1, 1, 1, 1] [] (vcRet Pg R122 Q) [(5, x5)] h
def J122_111111010101111111 (Q : AEnd → AH → Prop) (x5 x6 x8 : V) (h : AH) : Prop := vcAt Pg N122 B122 K122 [1, 1, 1, 1, 1, 1, 0, 1, 0, 1, 0, 1, 1, 1, 1, 1, 1, 1] [] (vcRet Pg R122 Q) [(5, x5), (6, x6), (8, x8)] h
def J122_11111101010111111 (Q : AEnd → AH → Prop) (x5 x6 x8 : V) (h : AH) : Prop := vcAt Pg N122 B122 K122 [1, 1, 1, 1, 1, 1, 0, 1, 0, 1, 0, 1, 1, 1, 1, 1, 1] [] (vcRet Pg R122 Q) [(5, x5), (6, x6), (8, x8)] h
def J122_111111010101111 (Q : AEnd → AH → Prop) (x1 x5 x6 x8 : V) (h : AH) : Prop := vcAt Pg N122 B122 K122 [1, 1, 1, 1, 1, 1, 0, 1, 0, 1, 0, 1, 1, 1, 1] [] (vcRet Pg R122 Q) [(1, x1), (5, x5), (6, x6), (8, x8)] h
def J122_1111110101011101 (Q : AEnd → AH → Prop) (x1 x5 x6 x8 x145 : V) (h : AH) : Prop := vcAt Pg N122 B122 K122 [1, 1, 1, 1, 1, 1, 0, 1, 0, 1, 0, 1, 1, 1, 0, 1] [] (vcRet Pg R122 Q) [(1, x1), (5, x5), (6, x6), (8, x8), (145, x145)] h
def G122_11111101010111001022 (Q : AEnd → AH → Prop) (x1 x5 x6 x8 x136 x144 : V) (h : AH) : Prop := segAt Pg N122 B122 K122 [1, 1, 1, 1, 1, 1, 0, 1, 0, 1, 0, 1, 1, 1, 0, 0] 22 15 [] (vcRet Pg R122 Q) [(1, x1), (5, x5), (6, x6), (8, x8), (136, x136), (144, x144)] h
def G122_11111101010111001021 (Q : AEnd → AH → Prop) (x1 x5 x6 x8 x136 x140 x143 : V) (h : AH) : Prop := segAt Pg N122 B122 K122 [1, 1, 1, 1, 1, 1, 0, 1, 0, 1, 0, 1, 1, 1, 0, 0] 21 14 [] (vcRet Pg R122 Q) [(1, x1), (5, x5), (6, x6), (8, x8), (136, x136), (140, x140), (143, x143)] h
def G122_11111101010111001020 (Q : AEnd → AH → Prop) (x1 x5 x6 x8 x136 x140 : V) (h : AH) : Prop := segAt Pg N122 B122 K122 [1, 1, 1, 1, 1, 1, 0, 1, 0, 1, 0, 1, 1, 1, 0, 0] 20 13 [] (vcRet Pg R122 Q) [(1, x1), (5, x5), (6, x6), (8, x8), (136, x136), (140, x140)] h
def G122_11111101010111001018 (Q : AEnd → AH → Prop) (x1 x5 x6 x8 x126 x134 : V) (h : AH) : Prop := segAt Pg N122 B122 K122 [1, 1, 1, 1, 1, 1, 0, 1, 0, 1, 0, 1, 1, 1, 0, 0] 18 12 [] (vcRet Pg R122 Q) [(1, x1), (5, x5), (6, x6), (8, x8), (126, x126), (134, x134)] h
def G122_11111101010111001017 (Q : AEnd → AH → Prop) (x1 x5 x6 x8 x126 x130 x133 : V) (h : AH) : Prop := segAt Pg N122 B122 K122 [1, 1, 1, 1, 1, 1, 0, 1, 0, 1, 0, 1, 1, 1, 0, 0] 17 11 [] (vcRet Pg R122 Q) [(1, x1), (5, x5), (6, x6), (8, x8), (126, x126), (130, x130), (133, x133)] h
def G122_11111101010111001016 (Q : AEnd → AH → Prop) (x1 x5 x6 x8 x126 x130 : V) (h : AH) : Prop := segAt Pg N122 B122 K122 [1, 1, 1, 1, 1, 1, 0, 1, 0, 1, 0, 1, 1, 1, 0, 0] 16 10 [] (vcRet Pg R122 Q) [(1, x1), (5, x5), (6, x6), (8, x8), (126, x126), (130, x130)] h
def G122_11111101010111001014 (Q : AEnd → AH → Prop) (x1 x5 x6 x8 x116 x124 : V) (h : AH) : Prop := segAt Pg N122 B122 K122 [1, 1, 1, 1, 1, 1, 0, 1, 0, 1, 0, 1, 1, 1, 0, 0] 14 9 [] (vcRet Pg R122 Q) [(1, x1), (5, x5), (6, x6), (8, x8), (116, x116), (124, x124)] h
def G122_11111101010111001013 (Q : AEnd → AH → Prop) (x1 x5 x6 x8 x116 x120 x123 : V) (h : AH) : Prop := segAt Pg N122 B122 K122 [1, 1, 1, 1, 1, 1, 0, 1, 0, 1, 0, 1, 1, 1, 0, 0] 13 8 [] (vcRet Pg R122 Q) [(1, x1), (5, x5), (6, x6), (8, x8), (116, x116), (120, x120), (123, x123)] h
def G122_11111101010111001012 (Q : AEnd → AH → Prop) (x1 x5 x6 x8 x116 x120 : V) (h : AH) : Prop := segAt Pg N122 B122 K122 [1, 1, 1, 1, 1, 1, 0, 1, 0, 1, 0, 1, 1, 1, 0, 0] 12 7 [] (vcRet Pg R122 Q) [(1, x1), (5, x5), (6, x6), (8, x8), (116, x116), (120, x120)] h
def G122_11111101010111001010 (Q : AEnd → AH → Prop) (x1 x5 x6 x8 x106 x114 : V) (h : AH) : Prop := segAt Pg N122 B122 K122 [1, 1, 1, 1, 1, 1, 0, 1, 0, 1, 0, 1, 1, 1, 0, 0] 10 6 [] (vcRet Pg R122 Q) [(1, x1), (5, x5), (6, x6), (8, x8), (106, x106), (114, x114)] h
def G122_11111101010111001009 (Q : AEnd → AH → Prop) (x1 x5 x6 x8 x106 x110 x113 : V) (h : AH) : Prop := segAt Pg N122 B122 K122 [1, 1, 1, 1, 1, 1, 0, 1, 0, 1, 0, 1, 1, 1, 0, 0] 9 5 [] (vcRet Pg R122 Q) [(1, x1), (5, x5), (6, x6), (8, x8), (106, x106), (110, x110), (113, x113)] h
def G122_11111101010111001008 (Q : AEnd → AH → Prop) (x1 x5 x6 x8 x106 x110 : V) (h : AH) : Prop := segAt Pg N122 B122 K122 [1, 1, 1, 1, 1, 1, 0, 1, 0, 1, 0, 1, 1, 1, 0, 0] 8 4 [] (vcRet Pg R122 Q) [(1, x1), (5, x5), (6, x6), (8, x8), (106, x106), (110, x110)] h
def G122_11111101010111001006 (Q : AEnd → AH → Prop) (x1 x5 x6 x8 x100 x104 : V) (h : AH) : Prop := segAt Pg N122 B122 K122 [1, 1, 1, 1, 1, 1, 0, 1, 0, 1, 0, 1, 1, 1, 0, 0] 6 3 [] (vcRet Pg R122 Q) [(1, x1), (5, x5), (6, x6), (8, x8), (100, x100), (104, x104)] h
def G122_11111101010111001004 (Q : AEnd → AH → Prop) (x1 x5 x6 x8 x95 x98 : V) (h : AH) : Prop := segAt Pg N122 B122 K122 [1, 1, 1, 1, 1, 1, 0, 1, 0, 1, 0, 1, 1, 1, 0, 0] 4 2 [] (vcRet Pg R122 Q) [(1, x1), (5, x5), (6, x6), (8, x8), (95, x95), (98, x98)] h
def G122_11111101010111001002 (Q : AEnd → AH → Prop) (x1 x5 x6 x8 x90 x93 : V) (h : AH) : Prop := segAt Pg N122 B122 K122 [1, 1, 1, 1, 1, 1, 0, 1, 0, 1, 0, 1, 1, 1, 0, 0] 2 1 [] (vcRet Pg R122 Q) [(1, x1), (5, x5), (6, x6), (8, x8), (90, x90), (93, x93)] h
def J122_1111110101011 (Q : AEnd → AH → Prop) (x1 x5 x6 x7 : V) (h : AH) : Prop := vcAt Pg N122 B122 K122 [1, 1, 1, 1, 1, 1, 0, 1, 0, 1, 0, 1, 1] [] (vcRet Pg R122 Q) [(1, x1), (5, x5), (6, x6), (7, x7)] h
def J122_11111101010101 (Q : AEnd → AH → Prop) (x1 x5 x6 x7 x81 : V) (h : AH) : Prop := vcAt Pg N122 B122 K122 [1, 1, 1, 1, 1, 1, 0, 1, 0, 1, 0, 1, 0, 1] [] (vcRet Pg R122 Q) [(1, x1), (5, x5), (6, x6), (7, x7), (81, x81)] h
def G122_111111010101001002 (Q : AEnd → AH → Prop) (x1 x5 x6 x7 x74 x80 : V) (h : AH) : Prop := segAt Pg N122 B122 K122 [1, 1, 1, 1, 1, 1, 0, 1, 0, 1, 0, 1, 0, 0] 2 1 [] (vcRet Pg R122 Q) [(1, x1), (5, x5), (6, x6), (7, x7), (74, x74), (80, x80)] h
def J122_1111110101110110100111 (Q : AEnd → AH → Prop) (n : Nat) (x1 x5 x198 x199 x200 : V) (h : AH) : Prop := vcAt Pg N122 B122 K122 [1, 1, 1, 1, 1, 1, 0, 1, 0, 1, 1, 1, 0, 1, 1, 0, 1, 0, 0, 1, 1, 1] [n] (vcRet Pg R122 Q) [(1, x1), (5, x5), (198, x198), (199, x199), (200, x200)] h
def J122_111111010111011010011 (Q : AEnd → AH → Prop) (n : Nat) (x1 x5 x198 x199 x200 : V) (h : AH) : Prop := vcAt Pg N122 B122 K122 [1, 1, 1, 1, 1, 1, 0, 1, 0, 1, 1, 1, 0, 1, 1, 0, 1, 0, 0, 1, 1] [n] (vcRet Pg R122 Q) [(1, x1), (5, x5), (198, x198), (199, x199), (200, x200)] h
def J122_1111110101110111 (Q : AEnd → AH → Prop) (x1 x5 : V) (h : AH) : Prop := vcAt Pg N122 B122 K122 [1, 1, 1, 1, 1, 1, 0, 1, 0, 1, 1, 1, 0, 1, 1, 1] [] (vcRet Pg R122 Q) [(1, x1), (5, x5)] h
def L122_111111010111011010 (Q : AEnd → AH → Prop) (n : Nat) (x1 x5 x198 x199 x200 : V) (h : AH) : Prop := loopAt Pg N122 B122 K122 [1, 1, 1, 1, 1, 1, 0, 1, 0, 1, 1, 1, 0, 1, 1, 0, 1, 0] [] n (vcRet Pg R122 Q) [(1, x1), (5, x5), (198, x198), (199, x199), (200, x200)] h
def J122_11111101011101 (Q : AEnd → AH → Prop) (x1 x5 : V) (h : AH) : Prop := vcAt Pg N122 B122 K122 [1, 1, 1, 1, 1, 1, 0, 1, 0, 1, 1, 1, 0, 1] [] (vcRet Pg R122 Q) [(1, x1), (5, x5)] h
def J122_111111010111001 (Q : AEnd → AH → Prop) (x1 x5 x194 : V) (h : AH) : Prop := vcAt Pg N122 B122 K122 [1, 1, 1, 1, 1, 1, 0, 1, 0, 1, 1, 1, 0, 0, 1] [] (vcRet Pg R122 Q) [(1, x1), (5, x5), (194, x194)] h
def G122_1111110101110001002 (Q : AEnd → AH → Prop) (x1 x5 x189 x193 : V) (h : AH) : Prop := segAt Pg N122 B122 K122 [1, 1, 1, 1, 1, 1, 0, 1, 0, 1, 1, 1, 0, 0, 0] 2 1 [] (vcRet Pg R122 Q) [(1, x1), (5, x5), (189, x189), (193, x193)] h
def J122_111111 (Q : AEnd → AH → Prop) (x1 x5 x6 : V) (h : AH) : Prop := vcAt Pg N122 B122 K122 [1, 1, 1, 1, 1, 1] [] (vcRet Pg R122 Q) [(1, x1), (5, x5), (6, x6)] h
def J122_1111101 (Q : AEnd → AH → Prop) (x1 x5 x6 x58 : V) (h : AH) : Prop := vcAt Pg N122 B122 K122 [1, 1, 1, 1, 1, 0, 1] [] (vcRet Pg R122 Q) [(1, x1), (5, x5), (6, x6), (58, x58)] h
def G122_11111001006 (Q : AEnd → AH → Prop) (x1 x5 x6 x48 x57 : V) (h : AH) : Prop := segAt Pg N122 B122 K122 [1, 1, 1, 1, 1, 0, 0] 6 4 [] (vcRet Pg R122 Q) [(1, x1), (5, x5), (6, x6), (48, x48), (57, x57)] h
def G122_11111001005 (Q : AEnd → AH → Prop) (x1 x5 x6 x48 x52 x56 : V) (h : AH) : Prop := segAt Pg N122 B122 K122 [1, 1, 1, 1, 1, 0, 0] 5 3 [] (vcRet Pg R122 Q) [(1, x1), (5, x5), (6, x6), (48, x48), (52, x52), (56, x56)] h
def G122_11111001004 (Q : AEnd → AH → Prop) (x1 x5 x6 x48 x52 : V) (h : AH) : Prop := segAt Pg N122 B122 K122 [1, 1, 1, 1, 1, 0, 0] 4 2 [] (vcRet Pg R122 Q) [(1, x1), (5, x5), (6, x6), (48, x48), (52, x52)] h
def G122_11111001002 (Q : AEnd → AH → Prop) (x1 x5 x6 x43 x46 : V) (h : AH) : Prop := segAt Pg N122 B122 K122 [1, 1, 1, 1, 1, 0, 0] 2 1 [] (vcRet Pg R122 Q) [(1, x1), (5, x5), (6, x6), (43, x43), (46, x46)] h
def J122_111 (Q : AEnd → AH → Prop) (x1 x4 : V) (h : AH) : Prop := vcAt Pg N122 B122 K122 [1, 1, 1] [] (vcRet Pg R122 Q) [(1, x1), (4, x4)] h
def J122_1101 (Q : AEnd → AH → Prop) (x1 x4 x32 : V) (h : AH) : Prop := vcAt Pg N122 B122 K122 [1, 1, 0, 1] [] (vcRet Pg R122 Q) [(1, x1), (4, x4), (32, x32)] h
def G122_11001006 (Q : AEnd → AH → Prop) (x1 x4 x28 x31 : V) (h : AH) : Prop := segAt Pg N122 B122 K122 [1, 1, 0, 0] 6 3 [] (vcRet Pg R122 Q) [(1, x1), (4, x4), (28, x28), (31, x31)] h
def G122_11001004 (Q : AEnd → AH → Prop) (x1 x4 x23 x26 : V) (h : AH) : Prop := segAt Pg N122 B122 K122 [1, 1, 0, 0] 4 2 [] (vcRet Pg R122 Q) [(1, x1), (4, x4), (23, x23), (26, x26)] h
def G122_11001002 (Q : AEnd → AH → Prop) (x1 x4 x18 x21 : V) (h : AH) : Prop := segAt Pg N122 B122 K122 [1, 1, 0, 0] 2 1 [] (vcRet Pg R122 Q) [(1, x1), (4, x4), (18, x18), (21, x21)] h
theorem J122_1111111_eq (Q : AEnd → AH → Prop) (x5 : V) (h : AH) : J122_1111111 Q x5 h = (
  Q (.ret (V.tup [x5, (V.bool true)])) h) := by kernel_rfl
theorem J122_111111010101111111_eq (Q : AEnd → AH → Prop) (x5 x6 x8 : V) (h : AH) : J122_111111010101111111 Q x5 x6 x8 h = (
  bindV (still (aFieldAddr Pg 225 x8 3) h) fun v134 h135 =>
  bindV (aLoadV Pg h135 4 v134) fun v136 h137 =>
  vcIf v136 (
  bindO (fstV (still (aFieldAddr Pg 57 x6 3) h137)) fun v138 =>
  bindO (fstV (aLoadV Pg h137 3 v138)) fun v139 =>
  (
  bindO (fstV (still (aConv Pg h137 3 49 v139) h137)) fun v140 =>
  (
  ∃ v141, ACalls Pg 117 [v140] h137 (pureE v141 h137) ∧ (
  (
  bindO (fstV (still (aFieldAddr Pg 57 x6 4) h137)) fun v142 =>
  bindO (fstV (aLoadV Pg h137 9 v142)) fun v143 =>
  (
  ∃ v144, ACalls Pg 118 [v143] h137 (pureE v144 h137) ∧ (
  (
  bindV (aBuildSlice Pg h137 337 3 [(0, x5), (1, v141), (2, v144)]) fun v145 h146 => (
  ∃ v147, ACalls Pg 115 [v145] h146 (pureE v147 h146) ∧ (
  (
  Meet (J122_1111111 Q v147 h146)))))))))))) (
  Meet (J122_1111111 Q x5 h137))) := by kernel_rfl
theorem J122_11111101010111111_eq (Q : AEnd → AH → Prop) (x5 x6 x8 : V) (h : AH) : J122_11111101010111111 Q x5 x6 x8 h = (
  bindV (still (aFieldAddr Pg 225 x8 2) h) fun v118 h119 =>
  bindV (aLoadV Pg h119 4 v118) fun v120 h121 =>
  vcIf v120 (
  bindV (still (aFieldAddr Pg 57 x6 2) h121) fun v122 h123 =>
  bindV (aLoadV Pg h123 22 v122) fun v124 h125 =>
  bindV (still (aConv Pg h125 22 49 v124) h125) fun v126 h127 =>
  ACalls Pg 117 [v126] h127 (aEnd (fun v128 h129 =>
  bindV (aBuildSlice Pg h129 337 2 [(0, x5), (1, v128)]) fun v130 h131 =>
  ACalls Pg 115 [v130] h131 (aEnd (fun v132 h133 =>
  Meet (J122_111111010101111111 Q v132 x6 x8 h133)) fun v h => Q (.panic v) h)) fun v h => Q (.panic v) h)) (
  Meet (J122_111111010101111111 Q x5 x6 x8 h121))) := by kernel_rfl
theorem J122_111111010101111_eq (Q : AEnd → AH → Prop) (x1 x5 x6 x8 : V) (h : AH) : J122_111111010101111 Q x1 x5 x6 x8 h = (
  bindO (fstV (still (aFieldAddr Pg 73 x1 1) h)) fun v95 =>
  bindO (fstV (aLoadV Pg h 3 v95)) fun v96 =>
  (
  bindO (fstV (still (aConv Pg h 3 49 v96) h)) fun v97 =>
  (
  ∃ v98, ACalls Pg 117 [v97] h (pureE v98 h) ∧ (
  (
  bindO (fstV (still (aFieldAddr Pg 225 x8 0) h)) fun v99 =>
  bindO (fstV (aLoadV Pg h 9 v99)) fun v100 =>
  (
  bindV (aBuildSlice Pg h 337 3 [(0, x5), (1, v98), (2, v100)]) fun v101 h102 => (
  ∃ v103, ACalls Pg 115 [v101] h102 (pureE v103 h102) ∧ (
  (
  bindV (still (aFieldAddr Pg 225 x8 1) h102) fun v104 h105 =>
  bindV (aLoadV Pg h105 4 v104) fun v106 h107 =>
  vcIf v106 (
  bindV (still (aFieldAddr Pg 57 x6 1) h107) fun v108 h109 =>
  bindV (aLoadV Pg h109 49 v108) fun v110 h111 =>
  ACalls Pg 117 [v110] h111 (aEnd (fun v112 h113 =>
  bindV (aBuildSlice Pg h113 337 2 [(0, v103), (1, v112)]) fun v114 h115 =>
  ACalls Pg 115 [v114] h115 (aEnd (fun v116 h117 =>
  Meet (J122_11111101010111111 Q v116 x6 x8 h117)) fun v h => Q (.panic v) h)) fun v h => Q (.panic v) h)) (
  Meet (J122_11111101010111111 Q v103 x6 x8 h107))))))))))) := by kernel_rfl
theorem J122_1111110101011101_eq (Q : AEnd → AH → Prop) (x1 x5 x6 x8 x145 : V) (h : AH) : J122_1111110101011101 Q x1 x5 x6 x8 x145 h = (
  vcIf x145 (
  Q (.ret (V.tup [(V.str []), (V.bool false)])) h) (
  Meet (J122_111111010101111 Q x1 x5 x6 x8 h))) := by kernel_rfl
theorem G122_11111101010111001022_eq (Q : AEnd → AH → Prop) (x1 x5 x6 x8 x136 x144 : V) (h : AH) : G122_11111101010111001022 Q x1 x5 x6 x8 x136 x144 h = (
  bindV (aPick x136 (V.bool true) x144 h) fun v93 h94 =>
  Meet (J122_1111110101011101 Q x1 x5 x6 x8 v93 h94)) := by kernel_rfl
theorem G122_11111101010111001021_eq (Q : AEnd → AH → Prop) (x1 x5 x6 x8 x136 x140 x143 : V) (h : AH) : G122_11111101010111001021 Q x1 x5 x6 x8 x136 x140 x143 h = (
  vcG x136 false (
  bindV (aPick x140 x143 (V.bool false) h) fun v148 h149 =>
  Meet (G122_11111101010111001022 Q x1 x5 x6 x8 x136 v148 h149)) (Meet (G122_11111101010111001022 Q x1 x5 x6 x8 x136 hole h))) := by kernel_rfl
theorem G122_11111101010111001020_eq (Q : AEnd → AH → Prop) (x1 x5 x6 x8 x136 x140 : V) (h : AH) : G122_11111101010111001020 Q x1 x5 x6 x8 x136 x140 h = (
  vcG x140 true (
  bindV (still (aFieldAddr Pg 57 x6 4) h) fun v150 h151 =>
  bindV (aLoadV Pg h151 9 v150) fun v152 h153 =>
  bindV (still (aBin Pg .neq 9 v152 (V.str []) true) h153) fun v154 h155 =>
  Meet (G122_11111101010111001021 Q x1 x5 x6 x8 x136 x140 v154 h155)) (Meet (G122_11111101010111001021 Q x1 x5 x6 x8 x136 x140 hole h))) := by kernel_rfl
theorem G122_11111101010111001018_eq (Q : AEnd → AH → Prop) (x1 x5 x6 x8 x126 x134 : V) (h : AH) : G122_11111101010111001018 Q x1 x5 x6 x8 x126 x134 h = (
  bindV (aPick x126 (V.bool true) x134 h) fun v91 h92 =>
  vcG v91 false (
  bindV (still (aFieldAddr Pg 225 x8 4) h92) fun v156 h157 =>
  bindV (aLoadV Pg h157 4 v156) fun v158 h159 =>
  bindV (still (aUn .not v158) h159) fun v160 h161 =>
  Meet (G122_11111101010111001020 Q x1 x5 x6 x8 v91 v160 h161)) (Meet (G122_11111101010111001020 Q x1 x5 x6 x8 v91 hole h92))) := by kernel_rfl
theorem G122_11111101010111001017_eq (Q : AEnd → AH → Prop) (x1 x5 x6 x8 x126 x130 x133 : V) (h : AH) : G122_11111101010111001017 Q x1 x5 x6 x8 x126 x130 x133 h = (
  vcG x126 false (
  bindV (aPick x130 x133 (V.bool false) h) fun v162 h163 =>
  Meet (G122_11111101010111001018 Q x1 x5 x6 x8 x126 v162 h163)) (Meet (G122_11111101010111001018 Q x1 x5 x6 x8 x126 hole h))) := by kernel_rfl
theorem G122_11111101010111001016_eq (Q : AEnd → AH → Prop) (x1 x5 x6 x8 x126 x130 : V) (h : AH) : G122_11111101010111001016 Q x1 x5 x6 x8 x126 x130 h = (
  vcG x130 true (
  bindV (still (aFieldAddr Pg 57 x6 3) h) fun v164 h165 =>
  bindV (aLoadV Pg h165 3 v164) fun v166 h167 =>
  bindV (still (aBin Pg .gtr 3 v166 (V.int .i64 0) true) h167) fun v168 h169 =>
  Meet (G122_11111101010111001017 Q x1 x5 x6 x8 x126 x130 v168 h169)) (Meet (G122_11111101010111001017 Q x1 x5 x6 x8 x126 x130 hole h))) := by kernel_rfl
theorem G122_11111101010111001014_eq (Q : AEnd → AH → Prop) (x1 x5 x6 x8 x116 x124 : V) (h : AH) : G122_11111101010111001014 Q x1 x5 x6 x8 x116 x124 h = (
  bindV (aPick x116 (V.bool true) x124 h) fun v89 h90 =>
  vcG v89 false (
  bindV (still (aFieldAddr Pg 225 x8 3) h90) fun v170 h171 =>
  bindV (aLoadV Pg h171 4 v170) fun v172 h173 =>
  bindV (still (aUn .not v172) h173) fun v174 h175 =>
  Meet (G122_11111101010111001016 Q x1 x5 x6 x8 v89 v174 h175)) (Meet (G122_11111101010111001016 Q x1 x5 x6 x8 v89 hole h90))) := by kernel_rfl
theorem G122_11111101010111001013_eq (Q : AEnd → AH → Prop) (x1 x5 x6 x8 x116 x120 x123 : V) (h : AH) : G122_11111101010111001013 Q x1 x5 x6 x8 x116 x120 x123 h = (
  vcG x116 false (
  bindV (aPick x120 x123 (V.bool false) h) fun v176 h177 =>
  Meet (G122_11111101010111001014 Q x1 x5 x6 x8 x116 v176 h177)) (Meet (G122_11111101010111001014 Q x1 x5 x6 x8 x116 hole h))) := by kernel_rfl
theorem G122_11111101010111001012_eq (Q : AEnd → AH → Prop) (x1 x5 x6 x8 x116 x120 : V) (h : AH) : G122_11111101010111001012 Q x1 x5 x6 x8 x116 x120 h = (
  vcG x120 true (
  bindV (still (aFieldAddr Pg 57 x6 2) h) fun v178 h179 =>
  bindV (aLoadV Pg h179 22 v178) fun v180 h181 =>
  bindV (still (aBin Pg .gtr 22 v180 (V.int .u16 0) true) h181) fun v182 h183 =>
  Meet (G122_11111101010111001013 Q x1 x5 x6 x8 x116 x120 v182 h183)) (Meet (G122_11111101010111001013 Q x1 x5 x6 x8 x116 x120 hole h))) := by kernel_rfl
theorem G122_11111101010111001010_eq (Q : AEnd → AH → Prop) (x1 x5 x6 x8 x106 x114 : V) (h : AH) : G122_11111101010111001010 Q x1 x5 x6 x8 x106 x114 h = (
  bindV (aPick x106 (V.bool true) x114 h) fun v87 h88 =>
  vcG v87 false (
  bindV (still (aFieldAddr Pg 225 x8 2) h88) fun v184 h185 =>
  bindV (aLoadV Pg h185 4 v184) fun v186 h187 =>
  bindV (still (aUn .not v186) h187) fun v188 h189 =>
  Meet (G122_11111101010111001012 Q x1 x5 x6 x8 v87 v188 h189)) (Meet (G122_11111101010111001012 Q x1 x5 x6 x8 v87 hole h88))) := by kernel_rfl
theorem G122_11111101010111001009_eq (Q : AEnd → AH → Prop) (x1 x5 x6 x8 x106 x110 x113 : V) (h : AH) : G122_11111101010111001009 Q x1 x5 x6 x8 x106 x110 x113 h = (
  vcG x106 false (
  bindV (aPick x110 x113 (V.bool false) h) fun v190 h191 =>
  Meet (G122_11111101010111001010 Q x1 x5 x6 x8 x106 v190 h191)) (Meet (G122_11111101010111001010 Q x1 x5 x6 x8 x106 hole h))) := by kernel_rfl
theorem G122_11111101010111001008_eq (Q : AEnd → AH → Prop) (x1 x5 x6 x8 x106 x110 : V) (h : AH) : G122_11111101010111001008 Q x1 x5 x6 x8 x106 x110 h = (
  vcG x110 true (
  bindV (still (aFieldAddr Pg 57 x6 1) h) fun v192 h193 =>
  bindV (aLoadV Pg h193 49 v192) fun v194 h195 =>
  bindV (still (aBin Pg .gtr 49 v194 (V.int .u64 0) true) h195) fun v196 h197 =>
  Meet (G122_11111101010111001009 Q x1 x5 x6 x8 x106 x110 v196 h197)) (Meet (G122_11111101010111001009 Q x1 x5 x6 x8 x106 x110 hole h))) := by kernel_rfl
theorem G122_11111101010111001006_eq (Q : AEnd → AH → Prop) (x1 x5 x6 x8 x100 x104 : V) (h : AH) : G122_11111101010111001006 Q x1 x5 x6 x8 x100 x104 h = (
  bindV (aPick x100 (V.bool true) x104 h) fun v85 h86 =>
  vcG v85 false (
  bindV (still (aFieldAddr Pg 225 x8 1) h86) fun v198 h199 =>
  bindV (aLoadV Pg h199 4 v198) fun v200 h201 =>
  bindV (still (aUn .not v200) h201) fun v202 h203 =>
  Meet (G122_11111101010111001008 Q x1 x5 x6 x8 v85 v202 h203)) (Meet (G122_11111101010111001008 Q x1 x5 x6 x8 v85 hole h86))) := by kernel_rfl
theorem G122_11111101010111001004_eq (Q : AEnd → AH → Prop) (x1 x5 x6 x8 x95 x98 : V) (h : AH) : G122_11111101010111001004 Q x1 x5 x6 x8 x95 x98 h = (
  bindV (aPick x95 (V.bool true) x98 h) fun v83 h84 =>
  vcG v83 false (
  bindV (still (aFieldAddr Pg 57 x6 4) h84) fun v204 h205 =>
  bindV (aLoadV Pg h205 9 v204) fun v206 h207 =>
  bindV (aBuiltin Pg h207 .len [9] [v206]) fun v208 h209 =>
  bindV (still (aBin Pg .gtr 3 v208 (V.int .i64 64) true) h209) fun v210 h211 =>
  Meet (G122_11111101010111001006 Q x1 x5 x6 x8 v83 v210 h211)) (Meet (G122_11111101010111001006 Q x1 x5 x6 x8 v83 hole h84))) := by kernel_rfl
theorem G122_11111101010111001002_eq (Q : AEnd → AH → Prop) (x1 x5 x6 x8 x90 x93 : V) (h : AH) : G122_11111101010111001002 Q x1 x5 x6 x8 x90 x93 h = (
  bindV (aPick x90 (V.bool true) x93 h) fun v81 h82 =>
  vcG v81 false (
  bindV (still (aFieldAddr Pg 57 x6 3) h82) fun v212 h213 =>
  bindV (aLoadV Pg h213 3 v212) fun v214 h215 =>
  bindV (still (aBin Pg .geq 3 v214 (V.int .i64 2147483648) true) h215) fun v216 h217 =>
  Meet (G122_11111101010111001004 Q x1 x5 x6 x8 v81 v216 h217)) (Meet (G122_11111101010111001004 Q x1 x5 x6 x8 v81 hole h82))) := by kernel_rfl
theorem J122_1111110101011_eq (Q : AEnd → AH → Prop) (x1 x5 x6 x7 : V) (h : AH) : J122_1111110101011 Q x1 x5 x6 x7 h = (
  bindV (still (aFieldAddr Pg 57 x6 0) h) fun v63 h64 =>
  bindV (aLoadV Pg h64 5 v63) fun v65 h66 =>
  bindV (still (aIndexAddr Pg 222 x7 v65) h66) fun v67 h68 =>
  bindV (aLoadV Pg h68 225 v67) fun v69 h70 =>
  bindV (aAlloc Pg h70 225) fun v71 h72 =>
  bindV (aStoreV Pg h72 225 v71 v69) fun _ h74 =>
  bindV (still (aFieldAddr Pg 57 x6 1) h74) fun v75 h76 =>
  bindV (aLoadV Pg h76 49 v75) fun v77 h78 =>
  bindV (still (aBin Pg .geq 49 v77 (V.int .u64 2147483648) true) h78) fun v79 h80 =>
  vcG v79 false (
  bindV (still (aFieldAddr Pg 57 x6 3) h80) fun v218 h219 =>
  bindV (aLoadV Pg h219 3 v218) fun v220 h221 =>
  bindV (still (aBin Pg .lss 3 v220 (V.int .i64 0) true) h221) fun v222 h223 =>
  Meet (G122_11111101010111001002 Q x1 x5 x6 v71 v79 v222 h223)) (Meet (G122_11111101010111001002 Q x1 x5 x6 v71 v79 hole h80))) := by kernel_rfl
theorem J122_11111101010101_eq (Q : AEnd → AH → Prop) (x1 x5 x6 x7 x81 : V) (h : AH) : J122_11111101010101 Q x1 x5 x6 x7 x81 h = (
  vcIf x81 (
  Q (.ret (V.tup [(V.str []), (V.bool false)])) h) (
  Meet (J122_1111110101011 Q x1 x5 x6 x7 h))) := by kernel_rfl
theorem G122_111111010101001002_eq (Q : AEnd → AH → Prop) (x1 x5 x6 x7 x74 x80 : V) (h : AH) : G122_111111010101001002 Q x1 x5 x6 x7 x74 x80 h = (
  bindV (aPick x74 (V.bool true) x80 h) fun v61 h62 =>
  Meet (J122_11111101010101 Q x1 x5 x6 x7 v61 h62)) := by kernel_rfl
theorem J122_1111110101110110100111_eq (Q : AEnd → AH → Prop) (n : Nat) (x1 x5 x198 x199 x200 : V) (h : AH) : J122_1111110101110110100111 Q n x1 x5 x198 x199 x200 h = (
  bindV (still (aBin Pg .add 3 x200 (V.int .i64 1) true) h) fun v260 h261 =>
  Meet (L122_111111010111011010 Q n x1 x5 x198 x199 v260 h261)) := by kernel_rfl
theorem J122_111111010111011010011_eq (Q : AEnd → AH → Prop) (n : Nat) (x1 x5 x198 x199 x200 : V) (h : AH) : J122_111111010111011010011 Q n x1 x5 x198 x199 x200 h = (
  bindV (still (aIndexAddr Pg 71 x198 x200) h) fun v254 h255 =>
  bindV (aLoadV Pg h255 4 v254) fun v256 h257 =>
  vcIf v256 (
  bindV (still (aBin Pg .add 9 x5 (V.str [49]) true) h257) fun v258 h259 =>
  Meet (J122_1111110101110110100111 Q n x1 v258 x198 x199 x200 h259)) (
  bindV (still (aBin Pg .add 9 x5 (V.str [48]) true) h257) fun v262 h263 =>
  Meet (J122_1111110101110110100111 Q n x1 v262 x198 x199 x200 h263))) := by kernel_rfl
theorem J122_1111110101110111_eq (Q : AEnd → AH → Prop) (x1 x5 : V) (h : AH) : J122_1111110101110111 Q x1 x5 h = (
  bindV (still (aFieldAddr Pg 73 x1 4) h) fun v264 h265 =>
  bindV (aLoadV Pg h265 71 v264) fun v266 h267 =>
  bindV (aBuiltin Pg h267 .len [71] [v266]) fun v268 h269 =>
  bindV (still (aBin Pg .eql 3 v268 (V.int .i64 0) true) h269) fun v270 h271 =>
  vcIf v270 (
  bindV (still (aBin Pg .add 9 x5 (V.str [45]) true) h271) fun v272 h273 =>
  Meet (J122_1111111 Q v272 h273)) (
  Meet (J122_1111111 Q x5 h271))) := by kernel_rfl
theorem L122_111111010111011010_eq (Q : AEnd → AH → Prop) (n : Nat) (x1 x5 x198 x199 x200 : V) (h : AH) : L122_111111010111011010 Q (n + 1) x1 x5 x198 x199 x200 h = (
  bindV (still (aBin Pg .lss 3 x200 x199 false) h) fun v252 h253 =>
  vcIf v252 (
  Meet (J122_111111010111011010011 Q n x1 x5 x198 x199 x200 h253)) (
  Meet (J122_1111110101110111 Q x1 x5 h253))) := by kernel_rfl
theorem J122_11111101011101_eq (Q : AEnd → AH → Prop) (x1 x5 : V) (h : AH) : J122_11111101011101 Q x1 x5 h = (
  bindV (still (aBin Pg .add 9 x5 (V.str [32]) true) h) fun v244 h245 =>
  bindV (still (aFieldAddr Pg 73 x1 4) h245) fun v246 h247 =>
  bindV (aLoadV Pg h247 71 v246) fun v248 h249 =>
  bindV (aBuiltin Pg h249 .len [71] [v248]) fun v250 h251 =>
  ∃ n, Meet (L122_111111010111011010 Q n x1 v244 v248 v250 (V.int .i64 0) h251)) := by kernel_rfl
theorem J122_111111010111001_eq (Q : AEnd → AH → Prop) (x1 x5 x194 : V) (h : AH) : J122_111111010111001 Q x1 x5 x194 h = (
  vcIf x194 (
  Q (.ret (V.tup [(V.str []), (V.bool false)])) h) (
  Meet (J122_11111101011101 Q x1 x5 h))) := by kernel_rfl
theorem G122_1111110101110001002_eq (Q : AEnd → AH → Prop) (x1 x5 x189 x193 : V) (h : AH) : G122_1111110101110001002 Q x1 x5 x189 x193 h = (
  bindV (aPick x189 (V.bool true) x193 h) fun v242 h243 =>
  Meet (J122_111111010111001 Q x1 x5 v242 h243)) := by kernel_rfl
theorem J122_111111_eq (Q : AEnd → AH → Prop) (x1 x5 x6 : V) (h : AH) : J122_111111 Q x1 x5 x6 h = (
  bindV (still (aFieldAddr Pg 73 x1 0) h) fun v47 h48 =>
  bindV (aLoadV Pg h48 5 v47) fun v49 h50 =>
  bindV (still (aBin Pg .eql 5 v49 (V.int .u8 0) true) h50) fun v51 h52 =>
  vcIf v51 (
  ACalls Pg 114 [] h52 (aEnd (fun v53 h54 =>
  bindV (still (aFieldAddr Pg 73 x1 1) h54) fun v55 h56 =>
  bindV (aLoadV Pg h56 3 v55) fun v57 h58 =>
  bindV (still (aBin Pg .geq 3 v57 (V.int .i64 10) true) h58) fun v59 h60 =>
  vcG v59 false (
  bindV (still (aFieldAddr Pg 57 x6 0) h60) fun v224 h225 =>
  bindV (aLoadV Pg h225 5 v224) fun v226 h227 =>
  bindV (still (aConv Pg h227 5 3 v226) h227) fun v228 h229 =>
  bindV (aBuiltin Pg h229 .len [222] [v53]) fun v230 h231 =>
  bindV (still (aBin Pg .geq 3 v228 v230 false) h231) fun v232 h233 =>
  Meet (G122_111111010101001002 Q x1 x5 x6 v53 v59 v232 h233)) (Meet (G122_111111010101001002 Q x1 x5 x6 v53 v59 hole h60))) fun v h => Q (.panic v) h)) (
  bindV (still (aBin Pg .eql 5 v49 (V.int .u8 5) true) h52) fun v234 h235 =>
  vcIf v234 (
  bindV (still (aFieldAddr Pg 73 x1 1) h235) fun v236 h237 =>
  bindV (aLoadV Pg h237 3 v236) fun v238 h239 =>
  bindV (still (aBin Pg .neq 3 v238 (V.int .i64 0) true) h239) fun v240 h241 =>
  vcG v240 false (
  bindV (still (aFieldAddr Pg 73 x1 4) h241) fun v274 h275 =>
  bindV (aLoadV Pg h275 71 v274) fun v276 h277 =>
  bindV (aBuiltin Pg h277 .len [71] [v276]) fun v278 h279 =>
  bindV (still (aBin Pg .gtr 3 v278 (V.int .i64 2000) true) h279) fun v280 h281 =>
  Meet (G122_1111110101110001002 Q x1 x5 v240 v280 h281)) (Meet (G122_1111110101110001002 Q x1 x5 v240 hole h241))) (
  bindV (still (aFieldAddr Pg 73 x1 1) h235) fun v282 h283 =>
  bindV (aLoadV Pg h283 3 v282) fun v284 h285 =>
  bindV (still (aConv Pg h285 3 49 v284) h285) fun v286 h287 =>
  ACalls Pg 117 [v286] h287 (aEnd (fun v288 h289 =>
  bindV (aBuildSlice Pg h289 337 2 [(0, x5), (1, v288)]) fun v290 h291 =>
  ACalls Pg 115 [v290] h291 (aEnd (fun v292 h293 =>
  Meet (J122_1111111 Q v292 h293)) fun v h => Q (.panic v) h)) fun v h => Q (.panic v) h)))) := by kernel_rfl
theorem J122_1111101_eq (Q : AEnd → AH → Prop) (x1 x5 x6 x58 : V) (h : AH) : J122_1111101 Q x1 x5 x6 x58 h = (
  vcIf x58 (
  Q (.ret (V.tup [(V.str []), (V.bool false)])) h) (
  Meet (J122_111111 Q x1 x5 x6 h))) := by kernel_rfl
theorem G122_11111001006_eq (Q : AEnd → AH → Prop) (x1 x5 x6 x48 x57 : V) (h : AH) : G122_11111001006 Q x1 x5 x6 x48 x57 h = (
  bindV (aPick x48 (V.bool true) x57 h) fun v45 h46 =>
  Meet (J122_1111101 Q x1 x5 x6 v45 h46)) := by kernel_rfl
theorem G122_11111001005_eq (Q : AEnd → AH → Prop) (x1 x5 x6 x48 x52 x56 : V) (h : AH) : G122_11111001005 Q x1 x5 x6 x48 x52 x56 h = (
  vcG x48 false (
  bindV (aPick x52 x56 (V.bool false) h) fun v294 h295 =>
  Meet (G122_11111001006 Q x1 x5 x6 x48 v294 h295)) (Meet (G122_11111001006 Q x1 x5 x6 x48 hole h))) := by kernel_rfl
theorem G122_11111001004_eq (Q : AEnd → AH → Prop) (x1 x5 x6 x48 x52 : V) (h : AH) : G122_11111001004 Q x1 x5 x6 x48 x52 h = (
  vcG x52 true (
  bindV (still (aFieldAddr Pg 73 x1 4) h) fun v296 h297 =>
  bindV (aLoadV Pg h297 71 v296) fun v298 h299 =>
  bindV (aBuiltin Pg h299 .len [71] [v298]) fun v300 h301 =>
  bindV (still (aBin Pg .gtr 3 v300 (V.int .i64 0) true) h301) fun v302 h303 =>
  Meet (G122_11111001005 Q x1 x5 x6 x48 x52 v302 h303)) (Meet (G122_11111001005 Q x1 x5 x6 x48 x52 hole h))) := by kernel_rfl
theorem G122_11111001002_eq (Q : AEnd → AH → Prop) (x1 x5 x6 x43 x46 : V) (h : AH) : G122_11111001002 Q x1 x5 x6 x43 x46 h = (
  bindV (aPick x43 x46 (V.bool false) h) fun v43 h44 =>
  vcG v43 false (
  bindV (still (aFieldAddr Pg 73 x1 0) h44) fun v304 h305 =>
  bindV (aLoadV Pg h305 5 v304) fun v306 h307 =>
  bindV (still (aBin Pg .neq 5 v306 (V.int .u8 5) true) h307) fun v308 h309 =>
  Meet (G122_11111001004 Q x1 x5 x6 v43 v308 h309)) (Meet (G122_11111001004 Q x1 x5 x6 v43 hole h44))) := by kernel_rfl
theorem J122_111_eq (Q : AEnd → AH → Prop) (x1 x4 : V) (h : AH) : J122_111 Q x1 x4 h = (
  bindV (still (aFieldAddr Pg 73 x1 0) h) fun v21 h22 =>
  bindV (aLoadV Pg h22 5 v21) fun v23 h24 =>
  bindV (still (aIndexAddr Pg 337 x4 v23) h24) fun v25 h26 =>
  bindV (aLoadV Pg h26 9 v25) fun v27 h28 =>
  bindV (still (aFieldAddr Pg 73 x1 3) h28) fun v29 h30 =>
  bindV (aLoadV Pg h30 57 v29) fun v31 h32 =>
  bindV (aAlloc Pg h32 57) fun v33 h34 =>
  bindV (aStoreV Pg h34 57 v33 v31) fun _ h36 =>
  bindV (still (aFieldAddr Pg 73 x1 0) h36) fun v37 h38 =>
  bindV (aLoadV Pg h38 5 v37) fun v39 h40 =>
  bindV (still (aBin Pg .neq 5 v39 (V.int .u8 0) true) h40) fun v41 h42 =>
  vcG v41 true (
  bindV (aLoadV Pg h42 57 v33) fun v310 h311 =>
  bindV (still (aBuild Pg 57 []) h311) fun v312 h313 =>
  bindV (still (aBin Pg .neq 57 v310 v312 false) h313) fun v314 h315 =>
  Meet (G122_11111001002 Q x1 v27 v33 v41 v314 h315)) (Meet (G122_11111001002 Q x1 v27 v33 v41 hole h42))) := by kernel_rfl
theorem J122_1101_eq (Q : AEnd → AH → Prop) (x1 x4 x32 : V) (h : AH) : J122_1101 Q x1 x4 x32 h = (
  vcIf x32 (
  Q (.ret (V.tup [(V.str []), (V.bool false)])) h) (
  Meet (J122_111 Q x1 x4 h))) := by kernel_rfl
theorem G122_11001006_eq (Q : AEnd → AH → Prop) (x1 x4 x28 x31 : V) (h : AH) : G122_11001006 Q x1 x4 x28 x31 h = (
  bindV (aPick x28 (V.bool true) x31 h) fun v19 h20 =>
  Meet (J122_1101 Q x1 x4 v19 h20)) := by kernel_rfl
theorem G122_11001004_eq (Q : AEnd → AH → Prop) (x1 x4 x23 x26 : V) (h : AH) : G122_11001004 Q x1 x4 x23 x26 h = (
  bindV (aPick x23 (V.bool true) x26 h) fun v17 h18 =>
  vcG v17 false (
  bindV (still (aFieldAddr Pg 73 x1 2) h18) fun v316 h317 =>
  bindV (aLoadV Pg h317 3 v316) fun v318 h319 =>
  bindV (still (aBin Pg .neq 3 v318 (V.int .i64 0) true) h319) fun v320 h321 =>
  Meet (G122_11001006 Q x1 x4 v17 v320 h321)) (Meet (G122_11001006 Q x1 x4 v17 hole h18))) := by kernel_rfl
theorem G122_11001002_eq (Q : AEnd → AH → Prop) (x1 x4 x18 x21 : V) (h : AH) : G122_11001002 Q x1 x4 x18 x21 h = (
  bindV (aPick x18 (V.bool true) x21 h) fun v15 h16 =>
  vcG v15 false (
  bindV (still (aFieldAddr Pg 73 x1 1) h16) fun v322 h323 =>
  bindV (aLoadV Pg h323 3 v322) fun v324 h325 =>
  bindV (still (aBin Pg .geq 3 v324 (V.int .i64 2147483648) true) h325) fun v326 h327 =>
  Meet (G122_11001004 Q x1 x4 v15 v326 h327)) (Meet (G122_11001004 Q x1 x4 v15 hole h16))) := by kernel_rfl
theorem S122 (Q : AEnd → AH → Prop) (a0 : V) (h : AH) : vc Pg N122 B122 K122 (vcRet Pg R122 Q) (initEnv 0 [a0]) h = (
  bindV (aNew Pg h 73 a0) fun v1 h2 =>
  ACalls Pg 192 [] h2 (aEnd (fun v3 h4 =>
  bindV (still (aFieldAddr Pg 73 v1 0) h4) fun v5 h6 =>
  bindV (aLoadV Pg h6 5 v5) fun v7 h8 =>
  bindV (still (aConv Pg h8 5 3 v7) h8) fun v9 h10 =>
  bindV (aBuiltin Pg h10 .len [337] [v3]) fun v11 h12 =>
  bindV (still (aBin Pg .geq 3 v9 v11 false) h12) fun v13 h14 =>
  vcG v13 false (
  bindV (still (aFieldAddr Pg 73 v1 1) h14) fun v328 h329 =>
  bindV (aLoadV Pg h329 3 v328) fun v330 h331 =>
  bindV (still (aBin Pg .lss 3 v330 (V.int .i64 0) true) h331) fun v332 h333 =>
  Meet (G122_11001002 Q v1 v3 v13 v332 h333)) (Meet (G122_11001002 Q v1 v3 v13 hole h14))) fun v h => Q (.panic v) h)) := by kernel_rfl
theorem C122 (Q : AEnd → AH → Prop) (a0 : V) (h : AH) (c :
  bindV (aNew Pg h 73 a0) fun v1 h2 =>
  ACalls Pg 192 [] h2 (aEnd (fun v3 h4 =>
  bindV (still (aFieldAddr Pg 73 v1 0) h4) fun v5 h6 =>
  bindV (aLoadV Pg h6 5 v5) fun v7 h8 =>
  bindV (still (aConv Pg h8 5 3 v7) h8) fun v9 h10 =>
  bindV (aBuiltin Pg h10 .len [337] [v3]) fun v11 h12 =>
  bindV (still (aBin Pg .geq 3 v9 v11 false) h12) fun v13 h14 =>
  vcG v13 false (
  bindV (still (aFieldAddr Pg 73 v1 1) h14) fun v328 h329 =>
  bindV (aLoadV Pg h329 3 v328) fun v330 h331 =>
  bindV (still (aBin Pg .lss 3 v330 (V.int .i64 0) true) h331) fun v332 h333 =>
  Meet (G122_11001002 Q v1 v3 v13 v332 h333)) (Meet (G122_11001002 Q v1 v3 v13 hole h14))) fun v h => Q (.panic v) h)) : ACalls Pg 122 [a0] h Q :=
  acalls_of_vc okP Tryz.func122 (show Tryz.f122.body = some B122 from by kernel_rfl) K122 (by rw [← S122 Q a0 h] at c; exact c)
noncomputable def B192 : Code := (Tryz.f192.body).getD .skip
def R192 : List ResultVar := [.tmp 0]
abbrev N192 : Nat := 2
def K192 : KT := (.seq .leaf (.seq .leaf .leaf [0]) [])
theorem S192 (Q : AEnd → AH → Prop) (h : AH) : vc Pg N192 B192 K192 (vcRet Pg R192 Q) (initEnv 0 []) h = (
  bindV (aBuildSlice Pg h 337 7 [(0, (V.str [97, 115, 107])), (1, (V.str [115, 116, 101, 112])), (2, (V.str [114, 111, 117, 110, 100])), (3, (V.str [102, 117, 115, 101])), (4, (V.str [102, 97, 105, 108])), (5, (V.str [99, 114, 97, 115, 104])), (6, (V.str [111, 112, 101, 110]))]) fun v1 h2 =>
  Q (.ret v1) h2) := by kernel_rfl
theorem C192 (Q : AEnd → AH → Prop) (h : AH) (c :
  bindV (aBuildSlice Pg h 337 7 [(0, (V.str [97, 115, 107])), (1, (V.str [115, 116, 101, 112])), (2, (V.str [114, 111, 117, 110, 100])), (3, (V.str [102, 117, 115, 101])), (4, (V.str [102, 97, 105, 108])), (5, (V.str [99, 114, 97, 115, 104])), (6, (V.str [111, 112, 101, 110]))]) fun v1 h2 =>
  Q (.ret v1) h2) : ACalls Pg 192 [] h Q :=
  acalls_of_vc okP Tryz.func192 (show Tryz.f192.body = some B192 from by kernel_rfl) K192 (by rw [← S192 Q h] at c; exact c)
end Go.Proofs.YtcglbpjpbjaecaaGreat.Sh
namespace Go.Proofs.YtcglbpjpbjaecaaGreat.Sh
open Go Go.Ab Go.RowKit
open Go.Proofs.YtcglbpjpbjaecaaGreat.Ru (Pg okP)
set_option maxRecDepth 100000
noncomputable def B111 : Code := (Tryz.f111.body).getD .skip
def R111 : List ResultVar := [.tmp 4, .tmp 5, .tmp 6]
abbrev N111 : Nat := 13
def K111 : KT := (.seq .leaf (.seq .leaf .leaf [4, 5, 6]) [0, 1])
theorem S111 (Q : AEnd → AH → Prop) (a0 a1 : V) (h : AH) : vc Pg N111 B111 K111 (vcRet Pg R111 Q) (initEnv 0 [a0, a1]) h = (
  ACalls Pg 190 [a0, a1] h (aEnd (fun v1 h2 =>
  bindV (still (aExtract v1 0) h2) fun v3 h4 =>
  bindV (still (aExtract v1 1) h4) fun v5 h6 =>
  bindV (still (aExtract v1 2) h6) fun v7 h8 =>
  Q (.ret (V.tup [v3, v5, v7])) h8) fun v h => Q (.panic v) h)) := by kernel_rfl
theorem C111 (Q : AEnd → AH → Prop) (a0 a1 : V) (h : AH) (c :
  ACalls Pg 190 [a0, a1] h (aEnd (fun v1 h2 =>
  bindV (still (aExtract v1 0) h2) fun v3 h4 =>
  bindV (still (aExtract v1 1) h4) fun v5 h6 =>
  bindV (still (aExtract v1 2) h6) fun v7 h8 =>
  Q (.ret (V.tup [v3, v5, v7])) h8) fun v h => Q (.panic v) h)) : ACalls Pg 111 [a0, a1] h Q :=
  acalls_of_vc okP Tryz.func111 (show Tryz.f111.body = some B111 from by kernel_rfl) K111 (by rw [← S111 Q a0 a1 h] at c; exact c)
noncomputable def B190 : Code := (Tryz.f190.body).getD .skip
def R190 : List ResultVar := [.tmp 4, .tmp 5, .tmp 6]
abbrev N190 : Nat := 23
def K190 : KT := (.seq .leaf (.join (.seq .leaf (.seq .leaf (.two (.seq .leaf .leaf [4, 5, 6]) .leaf) [0, 1, 7, 12]) [0, 1, 7]) (.seq .leaf .leaf [4, 5, 6]) [0]) [0, 1])
def J190_11 (Q : AEnd → AH → Prop) (x0 : V) (h : AH) : Prop := vcAt Pg N190 B190 K190 [1, 1] [] (vcRet Pg R190 Q) [(0, x0)] h
theorem J190_11_eq (Q : AEnd → AH → Prop) (x0 : V) (h : AH) : J190_11 Q x0 h = (
  Q (.ret (V.tup [x0, (V.str []), (V.bool false)])) h) := by kernel_rfl
theorem S190 (Q : AEnd → AH → Prop) (a0 a1 : V) (h : AH) : vc Pg N190 B190 K190 (vcRet Pg R190 Q) (initEnv 0 [a0, a1]) h = (
  ACalls Pg 252 [a0, a1] h (aEnd (fun v1 h2 =>
  bindV (still (aBin Pg .geq 3 v1 (V.int .i64 0) true) h2) fun v3 h4 =>
  vcIf v3 (
  bindO (fstV (still (aSlice Pg h4 9 a0 none (some v1)) h4)) fun v5 =>
  bindO (fstV (aBuiltin Pg h4 .len [9] [a1])) fun v6 =>
  bindO (fstV (still (aBin Pg .add 3 v1 v6 false) h4)) fun v7 =>
  bindO (fstV (still (aSlice Pg h4 9 a0 (some v7) none) h4)) fun v8 =>
  Q (.ret (V.tup [v5, v8, (V.bool true)])) h4) (
  Meet (J190_11 Q a0 h4))) fun v h => Q (.panic v) h)) := by kernel_rfl
theorem C190 (Q : AEnd → AH → Prop) (a0 a1 : V) (h : AH) (c :
  ACalls Pg 252 [a0, a1] h (aEnd (fun v1 h2 =>
  bindV (still (aBin Pg .geq 3 v1 (V.int .i64 0) true) h2) fun v3 h4 =>
  vcIf v3 (
  bindO (fstV (still (aSlice Pg h4 9 a0 none (some v1)) h4)) fun v5 =>
  bindO (fstV (aBuiltin Pg h4 .len [9] [a1])) fun v6 =>
  bindO (fstV (still (aBin Pg .add 3 v1 v6 false) h4)) fun v7 =>
  bindO (fstV (still (aSlice Pg h4 9 a0 (some v7) none) h4)) fun v8 =>
  Q (.ret (V.tup [v5, v8, (V.bool true)])) h4) (
  Meet (J190_11 Q a0 h4))) fun v h => Q (.panic v) h)) : ACalls Pg 190 [a0, a1] h Q :=
  acalls_of_vc okP Tryz.func190 (show Tryz.f190.body = some B190 from by kernel_rfl) K190 (by rw [← S190 Q a0 a1 h] at c; exact c)
noncomputable def B252 : Code := (Tryz.f252.body).getD .skip
def R252 : List ResultVar := [.tmp 4]
abbrev N252 : Nat := 143
def K252 : KT := (.seq .leaf (.seq .leaf (.join (.one (.join (.reg [[0, 1, 5, 19, 22]]) (.two (.seq .leaf .leaf [4]) (.seq .leaf (.two (.seq .leaf .leaf [4]) (.seq .leaf (.two (.seq .leaf .leaf [4]) (.join (.reg [[0, 1, 5, 40, 43]]) (.two (.seq .leaf .leaf [4]) .leaf) [0, 1, 5, 36])) [0, 1, 5, 31])) [0, 1, 5, 24])) [0, 1, 5, 16])) (.seq .leaf (.seq .leaf (.seq .leaf (.seq .leaf (.seq .leaf (.join (.one (.loop (.join (.seq .leaf (.two .leaf .leaf) [0, 1, 5, 6, 7, 8, 9, 10, 59]) (.one (.join (.seq .leaf (.two (.seq .leaf (.join (.seq .leaf (.two (.seq .leaf .leaf [4]) .leaf) [0, 1, 5, 6, 7, 8, 9, 10, 11, 73]) .leaf [0, 1, 5, 6, 7, 8, 9, 10, 11]) [0, 1, 5, 6, 7, 8, 9, 10, 11]) .leaf) [0, 1, 5, 6, 7, 8, 9, 10, 64]) (.join (.join (.reg [[0, 1, 5, 6, 7, 8, 9, 10, 84, 92]]) (.two (.seq .leaf .leaf [4]) .leaf) [0, 1, 5, 6, 7, 8, 9, 10, 93]) (.seq .leaf (.seq .leaf (.join (.reg [[0, 1, 5, 6, 7, 8, 9, 10, 102, 106]]) (.two (.seq .leaf (.join (.seq .leaf (.two (.seq .leaf .leaf [4]) .leaf) [8, 12, 114]) (.seq .leaf .leaf [4]) []) [8, 12]) (.join (.reg [[0, 1, 5, 6, 7, 8, 9, 10, 121, 126], [0, 1, 5, 6, 7, 8, 9, 10, 128, 131]]) (.two (.seq .leaf (.join (.seq .leaf (.two (.seq .leaf .leaf [4]) .leaf) [8, 13, 139]) (.seq .leaf .leaf [4]) [8, 13]) [8, 13]) .leaf) [0, 1, 5, 6, 7, 8, 9, 10, 132])) [0, 1, 5, 6, 7, 8, 9, 10, 107]) [0, 1, 5, 6, 7, 8, 9, 10]) [0, 1, 5, 6, 7, 8, 9, 10]) [0, 1, 5, 6, 7, 8, 9, 10]) [0, 1, 5, 6, 7, 8, 9, 10])) [0, 1, 5, 6, 7, 8, 9, 10]) [0, 1, 5, 6, 7, 8, 9, 10])) (.seq .leaf .leaf [4]) []) [0, 1, 5, 6, 7, 8, 9, 10]) [0, 1, 5, 6, 7, 8, 9]) [0, 1, 5, 6, 7, 8]) [0, 1, 5, 6, 7]) [0, 1, 5, 6]) [0, 1, 5]) [0, 1, 5]) [0, 1])
def G252_110011111101002 (Q : AEnd → AH → Prop) (x0 x1 x5 x40 x43 : V) (h : AH) : Prop := segAt Pg N252 B252 K252 [1, 1, 0, 0, 1, 1, 1, 1, 1, 1, 0] 2 1 [] (vcRet Pg R252 Q) [(0, x0), (1, x1), (5, x5), (40, x40), (43, x43)] h
def J252_11001 (Q : AEnd → AH → Prop) (x0 x1 x5 x16 : V) (h : AH) : Prop := vcAt Pg N252 B252 K252 [1, 1, 0, 0, 1] [] (vcRet Pg R252 Q) [(0, x0), (1, x1), (5, x5), (16, x16)] h
def G252_110001002 (Q : AEnd → AH → Prop) (x0 x1 x5 x19 x22 : V) (h : AH) : Prop := segAt Pg N252 B252 K252 [1, 1, 0, 0, 0] 2 1 [] (vcRet Pg R252 Q) [(0, x0), (1, x1), (5, x5), (19, x19), (22, x22)] h
theorem J252_11001_eq (Q : AEnd → AH → Prop) (x0 x1 x5 x16 : V) (h : AH) : J252_11001 Q x0 x1 x5 x16 h = (
  vcIf x16 (
  Q (.ret (V.int .i64 0)) h) (
  bindV (still (aBin Pg .eql 3 x5 (V.int .i64 1) true) h) fun v7 h8 =>
  vcIf v7 (
  bindV (still (aIndex Pg 9 x1 (V.int .i64 0)) h8) fun v9 h10 =>
  ACalls Pg 289 [x0, v9] h10 (aEnd (fun v11 h12 =>
  Q (.ret v11) h12) fun v h => Q (.panic v) h)) (
  bindV (aBuiltin Pg h8 .len [9] [x0]) fun v13 h14 =>
  bindV (still (aBin Pg .geq 3 x5 v13 false) h14) fun v15 h16 =>
  vcIf v15 (
  Q (.ret (V.int .i64 (-1))) h16) (
  bindV (aLoadV Pg h16 3 V.und) fun v17 h18 =>
  bindV (still (aBin Pg .leq 3 x5 v17 false) h18) fun v19 h20 =>
  vcG v19 true (
  bindV (aBuiltin Pg h20 .len [9] [x0]) fun v113 h114 =>
  bindV (still (aBin Pg .leq 3 v113 (V.int .i64 64) true) h114) fun v115 h116 =>
  Meet (G252_110011111101002 Q x0 x1 x5 v19 v115 h116)) (Meet (G252_110011111101002 Q x0 x1 x5 v19 hole h20)))))) := by kernel_rfl
theorem G252_110001002_eq (Q : AEnd → AH → Prop) (x0 x1 x5 x19 x22 : V) (h : AH) : G252_110001002 Q x0 x1 x5 x19 x22 h = (
  bindV (aPick x19 (V.bool true) x22 h) fun v5 h6 =>
  Meet (J252_11001 Q x0 x1 x5 v5 h6)) := by kernel_rfl
theorem S252 (Q : AEnd → AH → Prop) (a0 a1 : V) (h : AH) : vc Pg N252 B252 K252 (vcRet Pg R252 Q) (initEnv 0 [a0, a1]) h = (
  bindV (aBuiltin Pg h .len [9] [a1]) fun v1 h2 =>
  bindV (still (aBin Pg .eql 3 v1 (V.int .i64 0) true) h2) fun v3 h4 =>
  vcG v3 false (
  bindV (still (aBin Pg .eql 9 a1 a0 false) h4) fun v117 h118 =>
  Meet (G252_110001002 Q a0 a1 v1 v3 v117 h118)) (Meet (G252_110001002 Q a0 a1 v1 v3 hole h4))) := by kernel_rfl
theorem C252 (Q : AEnd → AH → Prop) (a0 a1 : V) (h : AH) (c :
  bindV (aBuiltin Pg h .len [9] [a1]) fun v1 h2 =>
  bindV (still (aBin Pg .eql 3 v1 (V.int .i64 0) true) h2) fun v3 h4 =>
  vcG v3 false (
  bindV (still (aBin Pg .eql 9 a1 a0 false) h4) fun v117 h118 =>
  Meet (G252_110001002 Q a0 a1 v1 v3 v117 h118)) (Meet (G252_110001002 Q a0 a1 v1 v3 hole h4))) : ACalls Pg 252 [a0, a1] h Q :=
  acalls_of_vc okP Tryz.func252 (show Tryz.f252.body = some B252 from by kernel_rfl) K252 (by rw [← S252 Q a0 a1 h] at c; exact c)
end Go.Proofs.YtcglbpjpbjaecaaGreat.Sh
namespace Go.Proofs.YtcglbpjpbjaecaaGreat.Sj
open Go Go.Ab Go.RowKit Go.Proofs
open Go.Proofs.YtcglbpjpbjaecaaGreat.Ru (Pg okP)
set_option maxRecDepth 100000
def ixRen : Go.Shelf.Ren := ⟨fun | 217 => 289 | 266 => 301 | n => n, fun | 9 => 9 | 5 => 5 | 3 => 3 | n => n, fun n => n⟩
theorem ixLay : Lays.n217 Tryz.prog ixRen := {
  mixed := by kernel_rfl,
  f217 := Tryz.func289.trans (congrArg some (by kernel_rfl)),
  f266 := Tryz.func301.trans (congrArg some (by kernel_rfl)),
  t3 := Tryz.underlying3,
  a3 := Tryz.isAgg3,
  z3 := Tryz.sizeOf3,
  v3 := Tryz.zeroValue3,
  t5 := Tryz.underlying5,
  a5 := Tryz.isAgg5,
  z5 := Tryz.sizeOf5,
  v5 := Tryz.zeroValue5,
  t9 := Tryz.underlying9,
  a9 := Tryz.isAgg9,
  z9 := Tryz.sizeOf9,
  v9 := Tryz.zeroValue9 }
theorem idxP (s : List UInt8) (c : Int) (h : AH) : ACalls Pg 289 [.str s, .int .u8 c] h (pureE (.int .i64 (Go.Lib.indexByte s c.toNat.toUInt8)) h) := by
  intro B ι W vs F r
  obtain ⟨v0, vs0, h0, r0, rfl⟩ := relL_cons_iff.1 r
  obtain ⟨v1, vs1, h1, r1, rfl⟩ := relL_cons_iff.1 r0
  simp only [relL] at r1
  subst r1
  obtain rfl := rel_str h0
  obtain rfl := rel_int h1
  refine Calls.mono (Any.stringslite_IndexByte ixLay ⟨s.toArray⟩ c W) ?_
  rintro e w' ⟨rfl, rfl⟩
  exact ⟨ι, h, .ret _, Names.le_refl _, F, mk_int _ _, rfl, rfl⟩
def cutAt (c : UInt8) : List UInt8 → List UInt8 × List UInt8 × Bool
  | [] => ([], [], false)
  | b :: s => if b = c then ([], s, true) else (b :: (cutAt c s).1, (cutAt c s).2.1, (cutAt c s).2.2)
theorem cut_idx (c : UInt8) : ∀ s : List UInt8, (Go.Lib.indexByte s c = -1 ∧ cutAt c s = (s, [], false)) ∨ ∃ i : Nat, Go.Lib.indexByte s c = i ∧ i < s.length ∧ cutAt c s = (s.take i, s.drop (i + 1), true)
  | [] => .inl ⟨rfl, rfl⟩
  | b :: s => by
    by_cases hb : b = c
    · subst hb
      exact .inr ⟨0, by simp [Go.Lib.indexByte], by simp, by simp [cutAt]⟩
    · rcases cut_idx c s with ⟨h1, h2⟩ | ⟨i, h1, h2, h3⟩
      · exact .inl ⟨by simp [Go.Lib.indexByte, hb, h1], by simp [cutAt, hb, h2]⟩
      · have hne : ¬ ((i : Int) = -1) := by omega
        exact .inr ⟨i + 1, by simp [Go.Lib.indexByte, hb, h1, hne], by simp; omega, by simp [cutAt, hb, h3]⟩
section
open Go.Proofs.YtcglbpjpbjaecaaGreat.Sh
theorem idx1 (s : List UInt8) (c : UInt8) (h : AH) : ACalls Pg 252 [.str s, .str [c]] h (pureE (.int .i64 (Go.Lib.indexByte s c)) h) := by
  refine C252 _ _ _ _ ?_
  refine bindV_mk (len_str (by kernel_rfl)) ?_
  refine bindS_mk (b_eql_f (by simp)) ?_
  refine g_ff ?_
  refine bindS_mk (t_eql) ?_
  refine Meet.of (cast_p (G252_110001002_eq _ _ _ _ _ _ _) ?_)
  refine bindV_mk p_f ?_
  refine Meet.of (cast_p (J252_11001_eq _ _ _ _ _ _) ?_)
  refine i_split (fun cc => ?_) (fun cc => ?_)
  · replace cc := eq_of_beq cc
    subst cc
    exact ⟨by simp [Go.Lib.indexByte], rfl⟩
  · replace cc := ne_of_beq_false cc
    refine bindS_mk (b_eql_t (by simp)) ?_
    refine i_t ?_
    refine bindS_mk (ixS (b := c) (by kernel_rfl) (by omega) rfl) ?_
    refine callS (idxP s c.toNat _) ?_
    exact ⟨by simp, rfl⟩
theorem cut190 (s : List UInt8) (c : UInt8) (hs : s.length ≤ 4611686018427387904) (h : AH) : ACalls Pg 190 [.str s, .str [c]] h (pureE (.tup [.str (cutAt c s).1, .str (cutAt c s).2.1, .bool (cutAt c s).2.2]) h) := by
  rcases cut_idx c s with ⟨hi, hc⟩ | ⟨i, hi, hl, hc⟩
  · rw [hc]
    refine C190 _ _ _ _ (callS (hi ▸ idx1 s c h) ?_)
    refine bindS_mk (b_geq_f (by omega)) (i_f (Meet.of ?_))
    rw [J190_11_eq]
    exact ⟨rfl, rfl⟩
  · rw [hc]
    refine C190 _ _ _ _ (callS (hi ▸ idx1 s c h) ?_)
    refine bindS_mk (b_geq_t (by omega)) (i_t ?_)
    refine bindSO_mk (sl_str (by kernel_rfl) rfl (bnd_i (by omega)) (by omega) (by omega)) ?_
    refine bindVO_mk (len_str (by kernel_rfl)) ?_
    refine bindSO_mk (w_add (wrap_i64 (by simp only [List.length_cons, List.length_nil]; omega) (by simp only [List.length_cons, List.length_nil]; omega))) ?_
    refine bindSO_mk (sl_str (by kernel_rfl) (bnd_i (by omega)) rfl (by simp only [List.length_cons, List.length_nil]; omega) (by omega)) ?_
    refine ⟨?_, rfl⟩
    have e1 : ((i : Int) + (([c].length : Nat) : Int)).toNat = i + 1 := by simp
    rw [e1]
    simp only [Int.toNat_natCast, List.drop_zero, Nat.sub_zero]
    rw [List.take_of_length_le (l := s.drop (i + 1)) (by simp)]
theorem cutP (s : List UInt8) (c : UInt8) (hs : s.length ≤ 4611686018427387904) (h : AH) : ACalls Pg 111 [.str s, .str [c]] h (pureE (.tup [.str (cutAt c s).1, .str (cutAt c s).2.1, .bool (cutAt c s).2.2]) h) := by
  refine C111 _ _ _ _ (callS (cut190 s c hs h) ?_)
  refine bindS_mk (show aExtract _ _ = some _ from rfl) ?_
  refine bindS_mk (show aExtract _ _ = some _ from rfl) ?_
  refine bindS_mk (show aExtract _ _ = some _ from rfl) ?_
  exact ⟨rfl, rfl⟩
end
end Go.Proofs.YtcglbpjpbjaecaaGreat.Sj
namespace Go.Proofs.YtcglbpjpbjaecaaGreat.Sh
open Go Go.Ab Go.RowKit
open Go.Proofs.YtcglbpjpbjaecaaGreat.Ru (Pg okP)
open Go.Proofs.YtcglbpjpbjaecaaGreat.Sj (cutAt cutP cut_idx)
set_option maxRecDepth 10000
theorem eventsP (h : AH) : ACalls Pg 192 [] h fun e h' => e = .ret (.slc (some (⟨h.next, .row 9, []⟩, 0)) 7) ∧ New h h' (.cells true (.row 9) (.agg (kindNames.map .str))) := by
  refine C192 _ _ ?_
  refine bindE (bs_at (e := 9) (z := .str []) (l := kindNames.map .str) (by kernel_rfl) (by kernel_rfl) (by kernel_rfl)) fun h1 u1 => ?_
  exact ⟨rfl, u1⟩
section
variable {q : AEnd → Prop}
end
end Go.Proofs.YtcglbpjpbjaecaaGreat.Sh
namespace Go.Proofs.YtcglbpjpbjaecaaGreat.Sh
open Go Go.Ab Go.RowKit
open Go.Proofs.YtcglbpjpbjaecaaGreat.Ru (Pg okP)
open Go.Proofs.YtcglbpjpbjaecaaGreat.Sj (cutAt cutP cut_idx)
set_option maxRecDepth 10000
section
variable {q : AEnd → Prop}
end
end Go.Proofs.YtcglbpjpbjaecaaGreat.Sh
namespace Go.Proofs.YtcglbpjpbjaecaaGreat.Sh
open Go Go.Ab Go.RowKit
open Go.Proofs.YtcglbpjpbjaecaaGreat.Ru (Pg okP)
set_option maxRecDepth 10000
def KeepB (h : AH) (k : V) (l : List Bool) : Prop :=
  (k = .slc none 0 ∧ l = []) ∨ ∃ n, n < h.next ∧ k = .slc (some (⟨n, .row 4, []⟩, 0)) l.length ∧ h.m n = some (.cells true (.row 4) (.agg (boolsV l)))
theorem KeepB.shape {h : AH} {k : V} {l : List Bool} (b : KeepB h k l) : ∃ a, k = .slc a l.length := by
  rcases b with ⟨rfl, rfl⟩ | ⟨n, _, rfl, _⟩ <;> exact ⟨_, rfl⟩
theorem KeepB.keep {h h' : AH} {k : V} {l : List Bool} (b : KeepB h k l) (hn : h.next ≤ h'.next) (hk : ∀ n, n < h.next → h'.m n = h.m n) : KeepB h' k l := by
  rcases b with ⟨rfl, rfl⟩ | ⟨n, h1, rfl, h3⟩
  · exact .inl ⟨rfl, rfl⟩
  · exact .inr ⟨n, by omega, rfl, (hk n h1).trans h3⟩
def Ends (v : V) (h0 : AH) : AEnd → AH → Prop := fun e h' => e = .ret v ∧ ∀ n, n < h0.next → h'.m n = h0.m n
def rowV (k : Nat) : V := .agg [.str (nameOf k), .bool (fTxn k), .bool (fPage k), .bool (fOff k), .bool (fOff k)]
theorem getRow {k : Nat} (h : k < 8) : getV (.agg callV) [0 + (k : Int).toNat] = some (rowV k) := by
  have : ∀ y : Fin 8, getV (.agg callV) [0 + (y.val : Int).toNat] = some (rowV y.val) := by
    intro y
    match y with
    | ⟨0, _⟩ => rfl
    | ⟨1, _⟩ => rfl
    | ⟨2, _⟩ => rfl
    | ⟨3, _⟩ => rfl
    | ⟨4, _⟩ => rfl
    | ⟨5, _⟩ => rfl
    | ⟨6, _⟩ => rfl
    | ⟨7, _⟩ => rfl
  exact this ⟨k, h⟩
theorem getKind {k : Nat} (h : k < 7) : getV (.agg (kindNames.map V.str)) [0 + (k : Int).toNat] = some (.str (kindName k)) := by
  have : ∀ y : Fin 7, getV (.agg (kindNames.map V.str)) [0 + (y.val : Int).toNat] = some (.str (kindName y.val)) := by
    intro y
    match y with
    | ⟨0, _⟩ => rfl
    | ⟨1, _⟩ => rfl
    | ⟨2, _⟩ => rfl
    | ⟨3, _⟩ => rfl
    | ⟨4, _⟩ => rfl
    | ⟨5, _⟩ => rfl
    | ⟨6, _⟩ => rfl
  exact this ⟨k, h⟩
theorem kindName_len (k : Nat) : (kindName k).length ≤ 10 := by
  by_cases h : k < 7
  · have : ∀ y : Fin 7, (kindName y.val).length ≤ 10 := by decide +kernel
    exact this ⟨k, h⟩
  · unfold kindName; rw [List.getD_eq_getElem?_getD, List.getElem?_eq_none (by show 7 ≤ k; omega)]; decide
def pTxn (e : Ev) : List UInt8 := if fTxn e.ck then 32 :: dec e.txn else []
def pPage (e : Ev) : List UInt8 := if fPage e.ck then 32 :: dec e.page else []
def pOff (e : Ev) : List UInt8 := if fOff e.ck then 32 :: (dec e.off.toNat ++ 32 :: hexS e.s) else []
theorem numN (n : Nat) (hn : n < 18446744073709551616) (h : AH) : ACalls Pg 117 [.int .u64 n] h (pureE (.str (dec n)) h) := numP n (by omega) (by omega) h
section
variable (e : Ev) (ok : e.ok) {v : V} {h0 : AH} {n1 n6 n8 : Nat} {h : AH} {k : V}
include ok
theorem st3 (s : List UInt8) (hs : s.length ≤ 500) (h64 : e.s.length ≤ 64) (ho : 0 ≤ e.off) (hv : .tup [.str (s ++ pOff e), .bool true] = v) (hn : h0.next ≤ h.next) (fr : ∀ n, n < h0.next → h.m n = h0.m n) (hm6 : h.m n6 = some (.cells true (.one 57) (cV e))) (hn6 : n6 < h.next ∧ h0.next ≤ n6) (hm8 : h.m n8 = some (.cells true (.one 225) (rowV e.ck))) (hn8 : n8 < h.next ∧ h0.next ≤ n8) : J122_111111010101111111 (Ends v h0) (.str s) (.ptr (some ⟨n6, .one 57, []⟩)) (.ptr (some ⟨n8, .one 225, []⟩)) h := by
  have k1 := ok.kind; have k2 := ok.a; have k3 := ok.b; have k4 := ok.ck; have k5 := ok.txn; have k6 := ok.page; have k7 := ok.off; have k8 := ok.s; have k9 := ok.keep
  rw [J122_111111010101111111_eq]
  refine bindS_mk (fa_mk (by kernel_rfl)) ?_
  refine bindV_mk (ld_mk hm8 (by kernel_rfl) rfl) ?_
  refine i_split (fun c1 => ?_) (fun c1 => ?_)
  · try rw [c1]
    refine bindSO_mk (fa_mk (by kernel_rfl)) ?_
    refine bindVO_mk (ld_mk hm6 (by kernel_rfl) rfl) ?_
    refine bindSO_mk (cv_wr (d := 49) (k := .u64) (by kernel_rfl) (wr_u64 (by omega) (by omega))) ?_
    refine ⟨_, numP _ (by omega) (by omega) _, ?_⟩
    refine bindSO_mk (fa_mk (by kernel_rfl)) ?_
    refine bindVO_mk (ld_mk hm6 (by kernel_rfl) rfl) ?_
    refine ⟨_, bytesP _ (by omega) _, ?_⟩
    refine bindE (bs3_at (e := 9) (by kernel_rfl) z9 (by kernel_rfl) (by kernel_rfl) (by kernel_rfl)) fun h2 u2 => ?_
    have n2 := u2.next
    have fFR_2 := fun k (hk : k < h0.next) => (u2.other k (by omega)).trans (fr k hk)
    have fX6_2 := (u2.other _ (by omega)).trans hm6
    have fX8_2 := (u2.other _ (by omega)).trans hm8
    have f2_2 := u2.at_
    refine ⟨_, wordsP _ _ [s, dec e.off.toNat, hexS e.s] _ f2_2 (by simp) (by simp) (by rw [jn3]; have l1 := hexS_len e.s; have l2 := dec_len20 (n := e.off.toNat) (by omega); simp; omega), ?_⟩
    refine Meet.of (cast_p (J122_1111111_eq _ _ _) ?_)
    refine ⟨congrArg AEnd.ret ?_, fFR_2⟩
    rw [← hv, pOff]; simp [*, jn3, jn2]
  · try rw [c1]
    refine Meet.of (cast_p (J122_1111111_eq _ _ _) ?_)
    refine ⟨congrArg AEnd.ret ?_, fr⟩
    rw [← hv, pOff]; simp [*, jn3, jn2]
theorem st2 (s : List UInt8) (hs : s.length ≤ 400) (h64 : e.s.length ≤ 64) (ho : 0 ≤ e.off) (hv : .tup [.str (s ++ (pPage e ++ pOff e)), .bool true] = v) (hn : h0.next ≤ h.next) (fr : ∀ n, n < h0.next → h.m n = h0.m n) (hm6 : h.m n6 = some (.cells true (.one 57) (cV e))) (hn6 : n6 < h.next ∧ h0.next ≤ n6) (hm8 : h.m n8 = some (.cells true (.one 225) (rowV e.ck))) (hn8 : n8 < h.next ∧ h0.next ≤ n8) : J122_11111101010111111 (Ends v h0) (.str s) (.ptr (some ⟨n6, .one 57, []⟩)) (.ptr (some ⟨n8, .one 225, []⟩)) h := by
  have k1 := ok.kind; have k2 := ok.a; have k3 := ok.b; have k4 := ok.ck; have k5 := ok.txn; have k6 := ok.page; have k7 := ok.off; have k8 := ok.s; have k9 := ok.keep
  rw [J122_11111101010111111_eq]
  refine bindS_mk (fa_mk (by kernel_rfl)) ?_
  refine bindV_mk (ld_mk hm8 (by kernel_rfl) rfl) ?_
  refine i_split (fun c1 => ?_) (fun c1 => ?_)
  · try rw [c1]
    refine bindS_mk (fa_mk (by kernel_rfl)) ?_
    refine bindV_mk (ld_mk hm6 (by kernel_rfl) rfl) ?_
    refine bindS_mk (cv_wr (d := 49) (k := .u64) (by kernel_rfl) (wr_u64 (by omega) (by omega))) ?_
    refine callS (numN e.page (by omega) _) ?_
    refine bindE (bs2_at (e := 9) (by kernel_rfl) z9 (by kernel_rfl) (by kernel_rfl)) fun h2 u2 => ?_
    have n2 := u2.next
    have fFR_2 := fun k (hk : k < h0.next) => (u2.other k (by omega)).trans (fr k hk)
    have fX6_2 := (u2.other _ (by omega)).trans hm6
    have fX8_2 := (u2.other _ (by omega)).trans hm8
    have f2_2 := u2.at_
    refine callS (wordsP _ _ [s, dec e.page] _ f2_2 (by simp) (by simp) (by rw [jn2]; have l2 := dec_len20 (n := e.page) (by omega); simp; omega)) ?_
    refine Meet.of (st3 e ok _ (by first | omega | (rw [jn2]; have l2 := dec_len20 (n := e.page) (by omega); simp; omega)) h64 ho ?_ (by omega) fFR_2 fX6_2 (by omega) fX8_2 (by omega))
    rw [← hv, pPage]; simp [*, jn2]
  · try rw [c1]
    refine Meet.of (st3 e ok _ (by first | omega | (rw [jn2]; have l2 := dec_len20 (n := e.page) (by omega); simp; omega)) h64 ho ?_ (by omega) fr hm6 (by omega) hm8 (by omega))
    rw [← hv, pPage]; simp [*, jn2]
theorem st1 (s : List UInt8) (hs : s.length ≤ 100) (h64 : e.s.length ≤ 64) (ho : 0 ≤ e.off) (ha : 0 ≤ e.a) (hv : .tup [.str (s ++ 32 :: (dec e.a.toNat ++ 32 :: (nameOf e.ck ++ (pTxn e ++ (pPage e ++ pOff e))))), .bool true] = v) (hn : h0.next ≤ h.next) (fr : ∀ n, n < h0.next → h.m n = h0.m n) (hm1 : h.m n1 = some (.cells true (.one 73) (evV e k))) (hn1 : n1 < h.next ∧ h0.next ≤ n1) (hm6 : h.m n6 = some (.cells true (.one 57) (cV e))) (hn6 : n6 < h.next ∧ h0.next ≤ n6) (hm8 : h.m n8 = some (.cells true (.one 225) (rowV e.ck))) (hn8 : n8 < h.next ∧ h0.next ≤ n8) : J122_111111010101111 (Ends v h0) (.ptr (some ⟨n1, .one 73, []⟩)) (.str s) (.ptr (some ⟨n6, .one 57, []⟩)) (.ptr (some ⟨n8, .one 225, []⟩)) h := by
  have k1 := ok.kind; have k2 := ok.a; have k3 := ok.b; have k4 := ok.ck; have k5 := ok.txn; have k6 := ok.page; have k7 := ok.off; have k8 := ok.s; have k9 := ok.keep
  rw [J122_111111010101111_eq]
  refine bindSO_mk (fa_mk (by kernel_rfl)) ?_
  refine bindVO_mk (ld_mk hm1 (by kernel_rfl) rfl) ?_
  refine bindSO_mk (cv_wr (d := 49) (k := .u64) (by kernel_rfl) (wr_u64 (by omega) (by omega))) ?_
  refine ⟨_, numP _ (by omega) (by omega) _, ?_⟩
  refine bindSO_mk (fa_mk (by kernel_rfl)) ?_
  refine bindVO_mk (ld_mk hm8 (by kernel_rfl) rfl) ?_
  refine bindE (bs3_at (e := 9) (by kernel_rfl) z9 (by kernel_rfl) (by kernel_rfl) (by kernel_rfl)) fun h1 u1 => ?_
  have n1 := u1.next
  have fFR_1 := fun k (hk : k < h0.next) => (u1.other k (by omega)).trans (fr k hk)
  have fX1_1 := (u1.other _ (by omega)).trans hm1
  have fX6_1 := (u1.other _ (by omega)).trans hm6
  have fX8_1 := (u1.other _ (by omega)).trans hm8
  have f1_1 := u1.at_
  refine ⟨_, wordsP _ _ [s, dec e.a.toNat, nameOf e.ck] _ f1_1 (by simp) (by simp) (by rw [jn3]; have l1 := name_len e.ck; have l2 := dec_len20 (n := e.a.toNat) (by omega); simp; omega), ?_⟩
  refine bindS_mk (fa_mk (by kernel_rfl)) ?_
  refine bindV_mk (ld_mk fX8_1 (by kernel_rfl) rfl) ?_
  refine i_split (fun c2 => ?_) (fun c2 => ?_)
  · try rw [c2]
    refine bindS_mk (fa_mk (by kernel_rfl)) ?_
    refine bindV_mk (ld_mk fX6_1 (by kernel_rfl) rfl) ?_
    refine callS (numN e.txn (by omega) _) ?_
    refine bindE (bs2_at (e := 9) (by kernel_rfl) z9 (by kernel_rfl) (by kernel_rfl)) fun h3 u3 => ?_
    have n3 := u3.next
    have fFR_3 := fun k (hk : k < h0.next) => (u3.other k (by omega)).trans (fFR_1 k hk)
    have fX1_3 := (u3.other _ (by omega)).trans fX1_1
    have fX6_3 := (u3.other _ (by omega)).trans fX6_1
    have fX8_3 := (u3.other _ (by omega)).trans fX8_1
    have f1_3 := (u3.other _ (by omega)).trans f1_1
    have f3_3 := u3.at_
    refine callS (wordsP _ _ [jn [s, dec e.a.toNat, nameOf e.ck], dec e.txn] _ f3_3 (by simp) (by simp) (by rw [jn2, jn3]; have l1 := name_len e.ck; have l2 := dec_len20 (n := e.a.toNat) (by omega); have l3 := dec_len20 (n := e.txn) (by omega); simp; omega)) ?_
    refine Meet.of (st2 e ok _ (by simp only [jn2, jn3]; have l1 := name_len e.ck; have l2 := dec_len20 (n := e.a.toNat) (by omega); have l3 := dec_len20 (n := e.txn) (by omega); simp; omega) h64 ho ?_ (by omega) fFR_3 fX6_3 (by omega) fX8_3 (by omega))
    rw [← hv, pTxn]; simp [*, jn2, jn3]
  · try rw [c2]
    refine Meet.of (st2 e ok _ (by simp only [jn2, jn3]; have l1 := name_len e.ck; have l2 := dec_len20 (n := e.a.toNat) (by omega); have l3 := dec_len20 (n := e.txn) (by omega); simp; omega) h64 ho ?_ (by omega) fFR_1 fX6_1 (by omega) fX8_1 (by omega))
    rw [← hv, pTxn]; simp [*, jn2, jn3]
theorem g20 (hA : e.kind = 0 ∧ 0 ≤ e.a ∧ e.a < 10 ∧ e.b = 0 ∧ e.keep.length = 0 ∧ e.ck < 8 ∧ e.txn < 2147483648 ∧ 0 ≤ e.off ∧ e.off < 2147483648 ∧ e.s.length ≤ 64) (hT : ¬ (1 ≤ e.ck ∧ e.ck ≤ 4) → e.txn = 0) (hP : ¬ (e.ck = 1 ∨ e.ck = 2) → e.page = 0) (hO : e.ck ≠ 2 → e.off = 0) (hv : e.lineV = v) (hn : h0.next ≤ h.next) (fr : ∀ n, n < h0.next → h.m n = h0.m n) (hm1 : h.m n1 = some (.cells true (.one 73) (evV e k))) (hn1 : n1 < h.next ∧ h0.next ≤ n1) (hm6 : h.m n6 = some (.cells true (.one 57) (cV e))) (hn6 : n6 < h.next ∧ h0.next ≤ n6) (hm8 : h.m n8 = some (.cells true (.one 225) (rowV e.ck))) (hn8 : n8 < h.next ∧ h0.next ≤ n8) : G122_11111101010111001020 (Ends v h0) (.ptr (some ⟨n1, .one 73, []⟩)) (.str (kindName 0)) (.ptr (some ⟨n6, .one 57, []⟩)) (.ptr (some ⟨n8, .one 225, []⟩)) (.bool false) (.bool (!fOff e.ck)) h := by
  have k1 := ok.kind; have k2 := ok.a; have k3 := ok.b; have k4 := ok.ck; have k5 := ok.txn; have k6 := ok.page; have k7 := ok.off; have k8 := ok.s; have k9 := ok.keep
  rw [G122_11111101010111001020_eq]
  refine g_split_t (fun c1 => ?_) (fun c1 => ?_)
  · try rw [c1]
    try simp [fTxn, fPage, fOff] at c1
    refine bindS_mk (fa_mk (by kernel_rfl)) ?_
    refine bindV_mk (ld_mk hm6 (by kernel_rfl) rfl) ?_
    refine bindS_mk (t_neq) ?_
    refine Meet.of (cast_p (G122_11111101010111001021_eq _ _ _ _ _ _ _ _ _) ?_)
    refine g_ff ?_
    refine bindV_mk p_t ?_
    refine Meet.of (cast_p (G122_11111101010111001022_eq _ _ _ _ _ _ _ _) ?_)
    refine bindV_mk p_f ?_
    refine Meet.of (cast_p (J122_1111110101011101_eq _ _ _ _ _ _ _) ?_)
    refine i_split (fun c2 => ?_) (fun c2 => ?_)
    · try rw [c2]
      have l2 : e.s.length ≠ 0 := fun h => absurd (List.length_eq_zero_iff.1 h) (by simpa using c2)
      exact ⟨congrArg AEnd.ret ((hv ▸ line_no (by unfold Ev.fine; omega))), fr⟩
    · try rw [c2]
      have l2 : e.s.length = 0 := List.length_eq_zero_iff.2 (by simpa using c2)
      refine Meet.of (st1 e ok (kindName 0) (by decide) (by omega) (by omega) (by omega) ?_ (by omega) fr hm1 (by omega) hm6 (by omega) hm8 (by omega))
      exact (line_yes (e := e) (by unfold Ev.fine; omega) (by rw [Ev.txt, if_pos (by omega)]; rfl)).trans hv
  · try rw [c1]
    try simp [fTxn, fPage, fOff] at c1
    refine Meet.of (cast_p (G122_11111101010111001021_eq _ _ _ _ _ _ _ _ _) ?_)
    refine g_ff ?_
    refine bindV_mk p_f ?_
    refine Meet.of (cast_p (G122_11111101010111001022_eq _ _ _ _ _ _ _ _) ?_)
    refine bindV_mk p_f ?_
    refine Meet.of (cast_p (J122_1111110101011101_eq _ _ _ _ _ _ _) ?_)
    refine i_f ?_
    refine Meet.of (st1 e ok (kindName 0) (by decide) (by omega) (by omega) (by omega) ?_ (by omega) fr hm1 (by omega) hm6 (by omega) hm8 (by omega))
    exact (line_yes (e := e) (by unfold Ev.fine; omega) (by rw [Ev.txt, if_pos (by omega)]; rfl)).trans hv
theorem g16 (hA : e.kind = 0 ∧ 0 ≤ e.a ∧ e.a < 10 ∧ e.b = 0 ∧ e.keep.length = 0 ∧ e.ck < 8 ∧ e.txn < 2147483648 ∧ 0 ≤ e.off ∧ e.off < 2147483648 ∧ e.s.length ≤ 64) (hT : ¬ (1 ≤ e.ck ∧ e.ck ≤ 4) → e.txn = 0) (hP : ¬ (e.ck = 1 ∨ e.ck = 2) → e.page = 0) (hv : e.lineV = v) (hn : h0.next ≤ h.next) (fr : ∀ n, n < h0.next → h.m n = h0.m n) (hm1 : h.m n1 = some (.cells true (.one 73) (evV e k))) (hn1 : n1 < h.next ∧ h0.next ≤ n1) (hm6 : h.m n6 = some (.cells true (.one 57) (cV e))) (hn6 : n6 < h.next ∧ h0.next ≤ n6) (hm8 : h.m n8 = some (.cells true (.one 225) (rowV e.ck))) (hn8 : n8 < h.next ∧ h0.next ≤ n8) : G122_11111101010111001016 (Ends v h0) (.ptr (some ⟨n1, .one 73, []⟩)) (.str (kindName 0)) (.ptr (some ⟨n6, .one 57, []⟩)) (.ptr (some ⟨n8, .one 225, []⟩)) (.bool false) (.bool (!fOff e.ck)) h := by
  have k1 := ok.kind; have k2 := ok.a; have k3 := ok.b; have k4 := ok.ck; have k5 := ok.txn; have k6 := ok.page; have k7 := ok.off; have k8 := ok.s; have k9 := ok.keep
  rw [G122_11111101010111001016_eq]
  refine g_split_t (fun c1 => ?_) (fun c1 => ?_)
  · try rw [c1]
    try simp [fTxn, fPage, fOff] at c1
    refine bindS_mk (fa_mk (by kernel_rfl)) ?_
    refine bindV_mk (ld_mk hm6 (by kernel_rfl) rfl) ?_
    refine bindS_mk (b_gtr) ?_
    refine Meet.of (cast_p (G122_11111101010111001017_eq _ _ _ _ _ _ _ _ _) ?_)
    refine g_ff ?_
    refine bindV_mk p_t ?_
    refine Meet.of (cast_p (G122_11111101010111001018_eq _ _ _ _ _ _ _ _) ?_)
    refine bindV_mk p_f ?_
    refine g_split_f (fun c2 => ?_) (fun c2 => ?_)
    · try rw [c2]
      replace c2 := of_decide_eq_false c2
      refine bindS_mk (fa_mk (by kernel_rfl)) ?_
      refine bindV_mk (ld_mk hm8 (by kernel_rfl) rfl) ?_
      refine bindS_mk (u_not) ?_
      exact Meet.of (g20 e ok hA hT hP (by omega) hv (by omega) fr hm1 (by omega) hm6 (by omega) hm8 (by omega))
    · try rw [c2]
      replace c2 := of_decide_eq_true c2
      refine Meet.of (cast_p (G122_11111101010111001020_eq _ _ _ _ _ _ _ _) ?_)
      refine g_hole ?_
      refine Meet.of (cast_p (G122_11111101010111001021_eq _ _ _ _ _ _ _ _ _) ?_)
      refine g_tf ?_
      refine Meet.of (cast_p (G122_11111101010111001022_eq _ _ _ _ _ _ _ _) ?_)
      refine bindV_mk p_t ?_
      refine Meet.of (cast_p (J122_1111110101011101_eq _ _ _ _ _ _ _) ?_)
      refine i_t ?_
      exact ⟨congrArg AEnd.ret ((hv ▸ line_no (by unfold Ev.fine; omega))), fr⟩
  · try rw [c1]
    try simp [fTxn, fPage, fOff] at c1
    refine Meet.of (cast_p (G122_11111101010111001017_eq _ _ _ _ _ _ _ _ _) ?_)
    refine g_ff ?_
    refine bindV_mk p_f ?_
    refine Meet.of (cast_p (G122_11111101010111001018_eq _ _ _ _ _ _ _ _) ?_)
    refine bindV_mk p_f ?_
    refine g_ff ?_
    refine bindS_mk (fa_mk (by kernel_rfl)) ?_
    refine bindV_mk (ld_mk hm8 (by kernel_rfl) rfl) ?_
    refine bindS_mk (u_not) ?_
    exact Meet.of (g20 e ok hA hT hP (by omega) hv (by omega) fr hm1 (by omega) hm6 (by omega) hm8 (by omega))
theorem g12 (hA : e.kind = 0 ∧ 0 ≤ e.a ∧ e.a < 10 ∧ e.b = 0 ∧ e.keep.length = 0 ∧ e.ck < 8 ∧ e.txn < 2147483648 ∧ 0 ≤ e.off ∧ e.off < 2147483648 ∧ e.s.length ≤ 64) (hT : ¬ (1 ≤ e.ck ∧ e.ck ≤ 4) → e.txn = 0) (hv : e.lineV = v) (hn : h0.next ≤ h.next) (fr : ∀ n, n < h0.next → h.m n = h0.m n) (hm1 : h.m n1 = some (.cells true (.one 73) (evV e k))) (hn1 : n1 < h.next ∧ h0.next ≤ n1) (hm6 : h.m n6 = some (.cells true (.one 57) (cV e))) (hn6 : n6 < h.next ∧ h0.next ≤ n6) (hm8 : h.m n8 = some (.cells true (.one 225) (rowV e.ck))) (hn8 : n8 < h.next ∧ h0.next ≤ n8) : G122_11111101010111001012 (Ends v h0) (.ptr (some ⟨n1, .one 73, []⟩)) (.str (kindName 0)) (.ptr (some ⟨n6, .one 57, []⟩)) (.ptr (some ⟨n8, .one 225, []⟩)) (.bool false) (.bool (!fPage e.ck)) h := by
  have k1 := ok.kind; have k2 := ok.a; have k3 := ok.b; have k4 := ok.ck; have k5 := ok.txn; have k6 := ok.page; have k7 := ok.off; have k8 := ok.s; have k9 := ok.keep
  rw [G122_11111101010111001012_eq]
  refine g_split_t (fun c1 => ?_) (fun c1 => ?_)
  · try rw [c1]
    try simp [fTxn, fPage, fOff] at c1
    refine bindS_mk (fa_mk (by kernel_rfl)) ?_
    refine bindV_mk (ld_mk hm6 (by kernel_rfl) rfl) ?_
    refine bindS_mk (b_gtr) ?_
    refine Meet.of (cast_p (G122_11111101010111001013_eq _ _ _ _ _ _ _ _ _) ?_)
    refine g_ff ?_
    refine bindV_mk p_t ?_
    refine Meet.of (cast_p (G122_11111101010111001014_eq _ _ _ _ _ _ _ _) ?_)
    refine bindV_mk p_f ?_
    refine g_split_f (fun c2 => ?_) (fun c2 => ?_)
    · try rw [c2]
      replace c2 := of_decide_eq_false c2
      refine bindS_mk (fa_mk (by kernel_rfl)) ?_
      refine bindV_mk (ld_mk hm8 (by kernel_rfl) rfl) ?_
      refine bindS_mk (u_not) ?_
      exact Meet.of (g16 e ok hA hT (by omega) hv (by omega) fr hm1 (by omega) hm6 (by omega) hm8 (by omega))
    · try rw [c2]
      replace c2 := of_decide_eq_true c2
      refine Meet.of (cast_p (G122_11111101010111001016_eq _ _ _ _ _ _ _ _) ?_)
      refine g_hole ?_
      refine Meet.of (cast_p (G122_11111101010111001017_eq _ _ _ _ _ _ _ _ _) ?_)
      refine g_tf ?_
      refine Meet.of (cast_p (G122_11111101010111001018_eq _ _ _ _ _ _ _ _) ?_)
      refine bindV_mk p_t ?_
      refine g_tf ?_
      refine Meet.of (cast_p (G122_11111101010111001020_eq _ _ _ _ _ _ _ _) ?_)
      refine g_hole ?_
      refine Meet.of (cast_p (G122_11111101010111001021_eq _ _ _ _ _ _ _ _ _) ?_)
      refine g_tf ?_
      refine Meet.of (cast_p (G122_11111101010111001022_eq _ _ _ _ _ _ _ _) ?_)
      refine bindV_mk p_t ?_
      refine Meet.of (cast_p (J122_1111110101011101_eq _ _ _ _ _ _ _) ?_)
      refine i_t ?_
      exact ⟨congrArg AEnd.ret ((hv ▸ line_no (by unfold Ev.fine; omega))), fr⟩
  · try rw [c1]
    try simp [fTxn, fPage, fOff] at c1
    refine Meet.of (cast_p (G122_11111101010111001013_eq _ _ _ _ _ _ _ _ _) ?_)
    refine g_ff ?_
    refine bindV_mk p_f ?_
    refine Meet.of (cast_p (G122_11111101010111001014_eq _ _ _ _ _ _ _ _) ?_)
    refine bindV_mk p_f ?_
    refine g_ff ?_
    refine bindS_mk (fa_mk (by kernel_rfl)) ?_
    refine bindV_mk (ld_mk hm8 (by kernel_rfl) rfl) ?_
    refine bindS_mk (u_not) ?_
    exact Meet.of (g16 e ok hA hT (by omega) hv (by omega) fr hm1 (by omega) hm6 (by omega) hm8 (by omega))
theorem g8 (hA : e.kind = 0 ∧ 0 ≤ e.a ∧ e.a < 10 ∧ e.b = 0 ∧ e.keep.length = 0 ∧ e.ck < 8 ∧ e.txn < 2147483648 ∧ 0 ≤ e.off ∧ e.off < 2147483648 ∧ e.s.length ≤ 64) (hv : e.lineV = v) (hn : h0.next ≤ h.next) (fr : ∀ n, n < h0.next → h.m n = h0.m n) (hm1 : h.m n1 = some (.cells true (.one 73) (evV e k))) (hn1 : n1 < h.next ∧ h0.next ≤ n1) (hm6 : h.m n6 = some (.cells true (.one 57) (cV e))) (hn6 : n6 < h.next ∧ h0.next ≤ n6) (hm8 : h.m n8 = some (.cells true (.one 225) (rowV e.ck))) (hn8 : n8 < h.next ∧ h0.next ≤ n8) : G122_11111101010111001008 (Ends v h0) (.ptr (some ⟨n1, .one 73, []⟩)) (.str (kindName 0)) (.ptr (some ⟨n6, .one 57, []⟩)) (.ptr (some ⟨n8, .one 225, []⟩)) (.bool false) (.bool (!fTxn e.ck)) h := by
  have k1 := ok.kind; have k2 := ok.a; have k3 := ok.b; have k4 := ok.ck; have k5 := ok.txn; have k6 := ok.page; have k7 := ok.off; have k8 := ok.s; have k9 := ok.keep
  rw [G122_11111101010111001008_eq]
  refine g_split_t (fun c1 => ?_) (fun c1 => ?_)
  · try rw [c1]
    try simp [fTxn, fPage, fOff] at c1
    refine bindS_mk (fa_mk (by kernel_rfl)) ?_
    refine bindV_mk (ld_mk hm6 (by kernel_rfl) rfl) ?_
    refine bindS_mk (b_gtr) ?_
    refine Meet.of (cast_p (G122_11111101010111001009_eq _ _ _ _ _ _ _ _ _) ?_)
    refine g_ff ?_
    refine bindV_mk p_t ?_
    refine Meet.of (cast_p (G122_11111101010111001010_eq _ _ _ _ _ _ _ _) ?_)
    refine bindV_mk p_f ?_
    refine g_split_f (fun c2 => ?_) (fun c2 => ?_)
    · try rw [c2]
      replace c2 := of_decide_eq_false c2
      refine bindS_mk (fa_mk (by kernel_rfl)) ?_
      refine bindV_mk (ld_mk hm8 (by kernel_rfl) rfl) ?_
      refine bindS_mk (u_not) ?_
      exact Meet.of (g12 e ok hA (by omega) hv (by omega) fr hm1 (by omega) hm6 (by omega) hm8 (by omega))
    · try rw [c2]
      replace c2 := of_decide_eq_true c2
      refine Meet.of (cast_p (G122_11111101010111001012_eq _ _ _ _ _ _ _ _) ?_)
      refine g_hole ?_
      refine Meet.of (cast_p (G122_11111101010111001013_eq _ _ _ _ _ _ _ _ _) ?_)
      refine g_tf ?_
      refine Meet.of (cast_p (G122_11111101010111001014_eq _ _ _ _ _ _ _ _) ?_)
      refine bindV_mk p_t ?_
      refine g_tf ?_
      refine Meet.of (cast_p (G122_11111101010111001016_eq _ _ _ _ _ _ _ _) ?_)
      refine g_hole ?_
      refine Meet.of (cast_p (G122_11111101010111001017_eq _ _ _ _ _ _ _ _ _) ?_)
      refine g_tf ?_
      refine Meet.of (cast_p (G122_11111101010111001018_eq _ _ _ _ _ _ _ _) ?_)
      refine bindV_mk p_t ?_
      refine g_tf ?_
      refine Meet.of (cast_p (G122_11111101010111001020_eq _ _ _ _ _ _ _ _) ?_)
      refine g_hole ?_
      refine Meet.of (cast_p (G122_11111101010111001021_eq _ _ _ _ _ _ _ _ _) ?_)
      refine g_tf ?_
      refine Meet.of (cast_p (G122_11111101010111001022_eq _ _ _ _ _ _ _ _) ?_)
      refine bindV_mk p_t ?_
      refine Meet.of (cast_p (J122_1111110101011101_eq _ _ _ _ _ _ _) ?_)
      refine i_t ?_
      exact ⟨congrArg AEnd.ret ((hv ▸ line_no (by unfold Ev.fine; omega))), fr⟩
  · try rw [c1]
    try simp [fTxn, fPage, fOff] at c1
    refine Meet.of (cast_p (G122_11111101010111001009_eq _ _ _ _ _ _ _ _ _) ?_)
    refine g_ff ?_
    refine bindV_mk p_f ?_
    refine Meet.of (cast_p (G122_11111101010111001010_eq _ _ _ _ _ _ _ _) ?_)
    refine bindV_mk p_f ?_
    refine g_ff ?_
    refine bindS_mk (fa_mk (by kernel_rfl)) ?_
    refine bindV_mk (ld_mk hm8 (by kernel_rfl) rfl) ?_
    refine bindS_mk (u_not) ?_
    exact Meet.of (g12 e ok hA (by omega) hv (by omega) fr hm1 (by omega) hm6 (by omega) hm8 (by omega))
end
end Go.Proofs.YtcglbpjpbjaecaaGreat.Sh
namespace Go.Proofs.YtcglbpjpbjaecaaGreat.Sh
open Go Go.Ab Go.RowKit
open Go.Proofs.YtcglbpjpbjaecaaGreat.Ru (Pg okP)
set_option maxRecDepth 10000
theorem z225 : zeroV Pg 225 = some (.agg [(.str []), (.bool false), (.bool false), (.bool false), (.bool false)]) := by kernel_rfl
theorem zs225 : hasShape Pg (.agg [(.str []), (.bool false), (.bool false), (.bool false), (.bool false)]) 225 = true := by kernel_rfl
section
variable (e : Ev) (ok : e.ok) {v : V} {h0 : AH} {n1 n6 n8 : Nat} {h : AH} {k : V}
include ok
theorem ask (hA : e.kind = 0 ∧ 0 ≤ e.a ∧ e.a < 10 ∧ e.b = 0 ∧ e.keep.length = 0 ∧ e.ck < 8) (hv : e.lineV = v) (hn : h0.next ≤ h.next) (fr : ∀ n, n < h0.next → h.m n = h0.m n) (hm1 : h.m n1 = some (.cells true (.one 73) (evV e k))) (hn1 : n1 < h.next ∧ h0.next ≤ n1) (hm6 : h.m n6 = some (.cells true (.one 57) (cV e))) (hn6 : n6 < h.next ∧ h0.next ≤ n6) {nC : Nat} (hmC : h.m nC = some (.cells true (.row 225) (.agg callV))) (hnC : nC < h.next) : J122_1111110101011 (Ends v h0) (.ptr (some ⟨n1, .one 73, []⟩)) (.str (kindName 0)) (.ptr (some ⟨n6, .one 57, []⟩)) (.slc (some (⟨nC, .row 225, []⟩, 0)) 8) h := by
  have k1 := ok.kind; have k2 := ok.a; have k3 := ok.b; have k4 := ok.ck; have k5 := ok.txn; have k6 := ok.page; have k7 := ok.off; have k8 := ok.s; have k9 := ok.keep
  rw [J122_1111110101011_eq]
  refine bindS_mk (fa_mk (by kernel_rfl)) ?_
  refine bindV_mk (ld_mk hm6 (by kernel_rfl) rfl) ?_
  refine bindS_mk (ia_slc _ (by kernel_rfl) (by omega) (by omega)) ?_
  refine bindV_mk (ld_mk hmC (by kernel_rfl) (getRow (k := e.ck) (by omega))) ?_
  refine bindE (al_at z225 zs225) fun h1 u1 => ?_
  have n1 := u1.next
  have fFR_1 := fun k (hk : k < h0.next) => (u1.other k (by omega)).trans (fr k hk)
  have fX1_1 := (u1.other _ (by omega)).trans hm1
  have fX6_1 := (u1.other _ (by omega)).trans hm6
  have fC_1 := (u1.other _ (by omega)).trans hmC
  have f1_1 := u1.at_
  refine bindE (st_at f1_1 (by kernel_rfl) rfl (by kernel_rfl) rfl) fun h2 u2 => ?_
  have n2 := u2.next
  have fFR_2 := fun k (hk : k < h0.next) => (u2.other k (by omega)).trans (fFR_1 k hk)
  have fX1_2 := (u2.other _ (by omega)).trans fX1_1
  have fX6_2 := (u2.other _ (by omega)).trans fX6_1
  have fC_2 := (u2.other _ (by omega)).trans fC_1
  have f1_2 := u2.at_
  refine bindS_mk (fa_mk (by kernel_rfl)) ?_
  refine bindV_mk (ld_mk fX6_2 (by kernel_rfl) rfl) ?_
  refine bindS_mk (b_geq) ?_
  refine g_split_f (fun c3 => ?_) (fun c3 => ?_)
  · try rw [c3]
    replace c3 := of_decide_eq_false c3
    refine bindS_mk (fa_mk (by kernel_rfl)) ?_
    refine bindV_mk (ld_mk fX6_2 (by kernel_rfl) rfl) ?_
    refine bindS_mk (b_lss) ?_
    refine Meet.of (cast_p (G122_11111101010111001002_eq _ _ _ _ _ _ _ _) ?_)
    refine bindV_mk p_f ?_
    refine g_split_f (fun c4 => ?_) (fun c4 => ?_)
    · try rw [c4]
      replace c4 := of_decide_eq_false c4
      refine bindS_mk (fa_mk (by kernel_rfl)) ?_
      refine bindV_mk (ld_mk fX6_2 (by kernel_rfl) rfl) ?_
      refine bindS_mk (b_geq) ?_
      refine Meet.of (cast_p (G122_11111101010111001004_eq _ _ _ _ _ _ _ _) ?_)
      refine bindV_mk p_f ?_
      refine g_split_f (fun c5 => ?_) (fun c5 => ?_)
      · try rw [c5]
        replace c5 := of_decide_eq_false c5
        refine bindS_mk (fa_mk (by kernel_rfl)) ?_
        refine bindV_mk (ld_mk fX6_2 (by kernel_rfl) rfl) ?_
        refine bindV_mk (len_str (by kernel_rfl)) ?_
        refine bindS_mk (b_gtr) ?_
        refine Meet.of (cast_p (G122_11111101010111001006_eq _ _ _ _ _ _ _ _) ?_)
        refine bindV_mk p_f ?_
        refine g_split_f (fun c6 => ?_) (fun c6 => ?_)
        · try rw [c6]
          replace c6 := of_decide_eq_false c6
          refine bindS_mk (fa_mk (by kernel_rfl)) ?_
          refine bindV_mk (ld_mk f1_2 (by kernel_rfl) rfl) ?_
          refine bindS_mk (u_not) ?_
          exact Meet.of (g8 e ok (by omega) hv (by omega) fFR_2 fX1_2 (by omega) fX6_2 (by omega) f1_2 (by omega))
        · try rw [c6]
          replace c6 := of_decide_eq_true c6
          refine Meet.of (cast_p (G122_11111101010111001008_eq _ _ _ _ _ _ _ _) ?_)
          refine g_hole ?_
          refine Meet.of (cast_p (G122_11111101010111001009_eq _ _ _ _ _ _ _ _ _) ?_)
          refine g_tf ?_
          refine Meet.of (cast_p (G122_11111101010111001010_eq _ _ _ _ _ _ _ _) ?_)
          refine bindV_mk p_t ?_
          refine g_tf ?_
          refine Meet.of (cast_p (G122_11111101010111001012_eq _ _ _ _ _ _ _ _) ?_)
          refine g_hole ?_
          refine Meet.of (cast_p (G122_11111101010111001013_eq _ _ _ _ _ _ _ _ _) ?_)
          refine g_tf ?_
          refine Meet.of (cast_p (G122_11111101010111001014_eq _ _ _ _ _ _ _ _) ?_)
          refine bindV_mk p_t ?_
          refine g_tf ?_
          refine Meet.of (cast_p (G122_11111101010111001016_eq _ _ _ _ _ _ _ _) ?_)
          refine g_hole ?_
          refine Meet.of (cast_p (G122_11111101010111001017_eq _ _ _ _ _ _ _ _ _) ?_)
          refine g_tf ?_
          refine Meet.of (cast_p (G122_11111101010111001018_eq _ _ _ _ _ _ _ _) ?_)
          refine bindV_mk p_t ?_
          refine g_tf ?_
          refine Meet.of (cast_p (G122_11111101010111001020_eq _ _ _ _ _ _ _ _) ?_)
          refine g_hole ?_
          refine Meet.of (cast_p (G122_11111101010111001021_eq _ _ _ _ _ _ _ _ _) ?_)
          refine g_tf ?_
          refine Meet.of (cast_p (G122_11111101010111001022_eq _ _ _ _ _ _ _ _) ?_)
          refine bindV_mk p_t ?_
          refine Meet.of (cast_p (J122_1111110101011101_eq _ _ _ _ _ _ _) ?_)
          refine i_t ?_
          exact ⟨congrArg AEnd.ret ((hv ▸ line_no (by unfold Ev.fine; omega))), fFR_2⟩
      · try rw [c5]
        replace c5 := of_decide_eq_true c5
        refine Meet.of (cast_p (G122_11111101010111001006_eq _ _ _ _ _ _ _ _) ?_)
        refine bindV_mk p_t ?_
        refine g_tf ?_
        refine Meet.of (cast_p (G122_11111101010111001008_eq _ _ _ _ _ _ _ _) ?_)
        refine g_hole ?_
        refine Meet.of (cast_p (G122_11111101010111001009_eq _ _ _ _ _ _ _ _ _) ?_)
        refine g_tf ?_
        refine Meet.of (cast_p (G122_11111101010111001010_eq _ _ _ _ _ _ _ _) ?_)
        refine bindV_mk p_t ?_
        refine g_tf ?_
        refine Meet.of (cast_p (G122_11111101010111001012_eq _ _ _ _ _ _ _ _) ?_)
        refine g_hole ?_
        refine Meet.of (cast_p (G122_11111101010111001013_eq _ _ _ _ _ _ _ _ _) ?_)
        refine g_tf ?_
        refine Meet.of (cast_p (G122_11111101010111001014_eq _ _ _ _ _ _ _ _) ?_)
        refine bindV_mk p_t ?_
        refine g_tf ?_
        refine Meet.of (cast_p (G122_11111101010111001016_eq _ _ _ _ _ _ _ _) ?_)
        refine g_hole ?_
        refine Meet.of (cast_p (G122_11111101010111001017_eq _ _ _ _ _ _ _ _ _) ?_)
        refine g_tf ?_
        refine Meet.of (cast_p (G122_11111101010111001018_eq _ _ _ _ _ _ _ _) ?_)
        refine bindV_mk p_t ?_
        refine g_tf ?_
        refine Meet.of (cast_p (G122_11111101010111001020_eq _ _ _ _ _ _ _ _) ?_)
        refine g_hole ?_
        refine Meet.of (cast_p (G122_11111101010111001021_eq _ _ _ _ _ _ _ _ _) ?_)
        refine g_tf ?_
        refine Meet.of (cast_p (G122_11111101010111001022_eq _ _ _ _ _ _ _ _) ?_)
        refine bindV_mk p_t ?_
        refine Meet.of (cast_p (J122_1111110101011101_eq _ _ _ _ _ _ _) ?_)
        refine i_t ?_
        exact ⟨congrArg AEnd.ret ((hv ▸ line_no (by unfold Ev.fine; omega))), fFR_2⟩
    · try rw [c4]
      replace c4 := of_decide_eq_true c4
      refine Meet.of (cast_p (G122_11111101010111001004_eq _ _ _ _ _ _ _ _) ?_)
      refine bindV_mk p_t ?_
      refine g_tf ?_
      refine Meet.of (cast_p (G122_11111101010111001006_eq _ _ _ _ _ _ _ _) ?_)
      refine bindV_mk p_t ?_
      refine g_tf ?_
      refine Meet.of (cast_p (G122_11111101010111001008_eq _ _ _ _ _ _ _ _) ?_)
      refine g_hole ?_
      refine Meet.of (cast_p (G122_11111101010111001009_eq _ _ _ _ _ _ _ _ _) ?_)
      refine g_tf ?_
      refine Meet.of (cast_p (G122_11111101010111001010_eq _ _ _ _ _ _ _ _) ?_)
      refine bindV_mk p_t ?_
      refine g_tf ?_
      refine Meet.of (cast_p (G122_11111101010111001012_eq _ _ _ _ _ _ _ _) ?_)
      refine g_hole ?_
      refine Meet.of (cast_p (G122_11111101010111001013_eq _ _ _ _ _ _ _ _ _) ?_)
      refine g_tf ?_
      refine Meet.of (cast_p (G122_11111101010111001014_eq _ _ _ _ _ _ _ _) ?_)
      refine bindV_mk p_t ?_
      refine g_tf ?_
      refine Meet.of (cast_p (G122_11111101010111001016_eq _ _ _ _ _ _ _ _) ?_)
      refine g_hole ?_
      refine Meet.of (cast_p (G122_11111101010111001017_eq _ _ _ _ _ _ _ _ _) ?_)
      refine g_tf ?_
      refine Meet.of (cast_p (G122_11111101010111001018_eq _ _ _ _ _ _ _ _) ?_)
      refine bindV_mk p_t ?_
      refine g_tf ?_
      refine Meet.of (cast_p (G122_11111101010111001020_eq _ _ _ _ _ _ _ _) ?_)
      refine g_hole ?_
      refine Meet.of (cast_p (G122_11111101010111001021_eq _ _ _ _ _ _ _ _ _) ?_)
      refine g_tf ?_
      refine Meet.of (cast_p (G122_11111101010111001022_eq _ _ _ _ _ _ _ _) ?_)
      refine bindV_mk p_t ?_
      refine Meet.of (cast_p (J122_1111110101011101_eq _ _ _ _ _ _ _) ?_)
      refine i_t ?_
      exact ⟨congrArg AEnd.ret ((hv ▸ line_no (by unfold Ev.fine; omega))), fFR_2⟩
  · try rw [c3]
    replace c3 := of_decide_eq_true c3
    refine Meet.of (cast_p (G122_11111101010111001002_eq _ _ _ _ _ _ _ _) ?_)
    refine bindV_mk p_t ?_
    refine g_tf ?_
    refine Meet.of (cast_p (G122_11111101010111001004_eq _ _ _ _ _ _ _ _) ?_)
    refine bindV_mk p_t ?_
    refine g_tf ?_
    refine Meet.of (cast_p (G122_11111101010111001006_eq _ _ _ _ _ _ _ _) ?_)
    refine bindV_mk p_t ?_
    refine g_tf ?_
    refine Meet.of (cast_p (G122_11111101010111001008_eq _ _ _ _ _ _ _ _) ?_)
    refine g_hole ?_
    refine Meet.of (cast_p (G122_11111101010111001009_eq _ _ _ _ _ _ _ _ _) ?_)
    refine g_tf ?_
    refine Meet.of (cast_p (G122_11111101010111001010_eq _ _ _ _ _ _ _ _) ?_)
    refine bindV_mk p_t ?_
    refine g_tf ?_
    refine Meet.of (cast_p (G122_11111101010111001012_eq _ _ _ _ _ _ _ _) ?_)
    refine g_hole ?_
    refine Meet.of (cast_p (G122_11111101010111001013_eq _ _ _ _ _ _ _ _ _) ?_)
    refine g_tf ?_
    refine Meet.of (cast_p (G122_11111101010111001014_eq _ _ _ _ _ _ _ _) ?_)
    refine bindV_mk p_t ?_
    refine g_tf ?_
    refine Meet.of (cast_p (G122_11111101010111001016_eq _ _ _ _ _ _ _ _) ?_)
    refine g_hole ?_
    refine Meet.of (cast_p (G122_11111101010111001017_eq _ _ _ _ _ _ _ _ _) ?_)
    refine g_tf ?_
    refine Meet.of (cast_p (G122_11111101010111001018_eq _ _ _ _ _ _ _ _) ?_)
    refine bindV_mk p_t ?_
    refine g_tf ?_
    refine Meet.of (cast_p (G122_11111101010111001020_eq _ _ _ _ _ _ _ _) ?_)
    refine g_hole ?_
    refine Meet.of (cast_p (G122_11111101010111001021_eq _ _ _ _ _ _ _ _ _) ?_)
    refine g_tf ?_
    refine Meet.of (cast_p (G122_11111101010111001022_eq _ _ _ _ _ _ _ _) ?_)
    refine bindV_mk p_t ?_
    refine Meet.of (cast_p (J122_1111110101011101_eq _ _ _ _ _ _ _) ?_)
    refine i_t ?_
    exact ⟨congrArg AEnd.ret ((hv ▸ line_no (by unfold Ev.fine; omega))), fFR_2⟩
omit ok in
theorem drop_at' {α : Type} {s : List α} {i : Nat} {b : α} (h : s[i]? = some b) : s.drop i = b :: s.drop (i + 1) := by
  obtain ⟨h1, h2⟩ := List.getElem?_eq_some_iff.1 h
  rw [List.drop_eq_getElem_cons h1, h2]
omit ok in
theorem boolsV_get {l : List Bool} {i : Nat} {b : Bool} (h : l[i]? = some b) : (boolsV l)[i]? = some (.bool b) := by simp [boolsV, h]
theorem crashL (hk : KeepB h k e.keep) (hl : e.keep.length ≤ 2000) (hn : h0.next ≤ h.next) (fr : ∀ n, n < h0.next → h.m n = h0.m n) (hm1 : h.m n1 = some (.cells true (.one 73) (evV e k))) (hn1 : n1 < h.next ∧ h0.next ≤ n1) : ∀ (j i : Nat) (s : List UInt8) (m : Nat), i ≤ e.keep.length → e.keep.length - i = j → j < m → s.length ≤ 100 + i → .tup [.str (s ++ (bitsT (e.keep.drop i) ++ (if e.keep.length = 0 then [45] else []))), .bool true] = v → L122_111111010111011010 (Ends v h0) m (.ptr (some ⟨n1, .one 73, []⟩)) (.str s) k (.int .i64 e.keep.length) (.int .i64 i) h := by
  have k1 := ok.kind; have k2 := ok.a; have k3 := ok.b; have k4 := ok.ck; have k5 := ok.txn; have k6 := ok.page; have k7 := ok.off; have k8 := ok.s; have k9 := ok.keep
  obtain ⟨a, rfl⟩ := hk.shape
  intro j
  induction j with
  | zero =>
    intro i s m hi hj hm hs hv
    obtain ⟨m, rfl⟩ : ∃ j, m = j + 1 := ⟨m - 1, by omega⟩
    rw [L122_111111010111011010_eq]
    refine bindS_mk (b_lss) ?_
    refine i_split (fun c1 => ?_) (fun c1 => ?_)
    · try rw [c1]
      replace c1 := of_decide_eq_true c1
      exfalso; omega
    · try rw [c1]
      replace c1 := of_decide_eq_false c1
      refine Meet.of (cast_p (J122_1111110101110111_eq _ _ _ _) ?_)
      refine bindS_mk (fa_mk (by kernel_rfl)) ?_
      refine bindV_mk (ld_mk hm1 (by kernel_rfl) rfl) ?_
      refine bindV_mk (len_slc (by kernel_rfl)) ?_
      refine bindS_mk (b_eql) ?_
      refine i_split (fun c2 => ?_) (fun c2 => ?_)
      · try rw [c2]
        replace c2 := eq_of_beq c2
        refine bindS_mk (t_add (by first | omega | (simp only [List.length_append] at *; omega) | (simp; omega))) ?_
        refine Meet.of (cast_p (J122_1111111_eq _ _ _) ?_)
        refine ⟨congrArg AEnd.ret ?_, fr⟩
        rw [← hv, List.drop_of_length_le (by omega)]
        first | rw [if_pos (by omega)] | rw [if_neg (by omega)]
        simp [bitsT]
      · try rw [c2]
        replace c2 := ne_of_beq_false c2
        refine Meet.of (cast_p (J122_1111111_eq _ _ _) ?_)
        refine ⟨congrArg AEnd.ret ?_, fr⟩
        rw [← hv, List.drop_of_length_le (by omega)]
        first | rw [if_pos (by omega)] | rw [if_neg (by omega)]
        simp [bitsT]
  | succ j ih =>
    intro i s m hi hj hm hs hv
    obtain ⟨m, rfl⟩ : ∃ j, m = j + 1 := ⟨m - 1, by omega⟩
    have ih := fun i s m h1 h2 h3 h4 h5 => ih i s m h1 h2 h3 h4 h5
    obtain ⟨b, hb0⟩ : ∃ b, e.keep[i]? = some b := ⟨e.keep[i]'(by omega), List.getElem?_eq_getElem (by omega)⟩
    have hd : e.keep.drop i = b :: e.keep.drop (i + 1) := drop_at' hb0
    rw [L122_111111010111011010_eq]
    refine bindS_mk (b_lss) ?_
    refine (show decide (((i : Nat) : Int) < ((e.keep.length : Nat) : Int)) = true from decide_eq_true (by omega)) ▸ i_t ?_
    rcases hk with ⟨_, hk⟩ | ⟨nK, hnK, hke, hmK⟩
    · rw [hk] at hb0; cases hb0
    obtain ⟨rfl, _⟩ := V.slc.injEq .. ▸ hke
    refine Meet.of ?_
    rw [J122_111111010111011010011_eq]
    refine bindS_mk (ia_slc _ (by kernel_rfl) (by omega) (by omega)) ?_
    refine bindV_mk (ld_mk hmK (by kernel_rfl) (getV_row (boolsV_get (by rw [show 0 + ((i : Nat) : Int).toNat = i by omega]; exact hb0)))) ?_
    refine i_split (fun hb2 => ?_) (fun hb2 => ?_)
    · skip
      refine bindS_mk (t_add (by first | omega | (simp only [List.length_append] at *; omega) | (simp; omega))) ?_
      refine Meet.of (cast_p (J122_1111110101110110100111_eq _ _ _ _ _ _ _ _) ?_)
      first | refine bindS_mk (w_add (by first | exact wrap_i64 (by omega) (by omega) | exact wr_u8 (by omega) (by omega) | exact wr_u16 (by omega) (by omega) | exact wr_u32 (by omega) (by omega) | exact wr_u64 (by omega) (by omega))) ?_ | refine bindS_mk (b_add) ?_
      refine Meet.of ((congrArg (fun x : Int => L122_111111010111011010 (Ends v h0) m (.ptr (some ⟨n1, .one 73, []⟩)) _ _ (.int .i64 e.keep.length) (.int .i64 x) h) (show ((i : Nat) : Int) + 1 = ((i + 1 : Nat) : Int) by omega)).mpr (ih (i + 1) _ m (by omega) (by omega) (by omega) (by simp; omega) ?_))
      rw [← hv, hd]; simp [bitsT, hb2]
    · skip
      refine bindS_mk (t_add (by first | omega | (simp only [List.length_append] at *; omega) | (simp; omega))) ?_
      refine Meet.of (cast_p (J122_1111110101110110100111_eq _ _ _ _ _ _ _ _) ?_)
      first | refine bindS_mk (w_add (by first | exact wrap_i64 (by omega) (by omega) | exact wr_u8 (by omega) (by omega) | exact wr_u16 (by omega) (by omega) | exact wr_u32 (by omega) (by omega) | exact wr_u64 (by omega) (by omega))) ?_ | refine bindS_mk (b_add) ?_
      refine Meet.of ((congrArg (fun x : Int => L122_111111010111011010 (Ends v h0) m (.ptr (some ⟨n1, .one 73, []⟩)) _ _ (.int .i64 e.keep.length) (.int .i64 x) h) (show ((i : Nat) : Int) + 1 = ((i + 1 : Nat) : Int) by omega)).mpr (ih (i + 1) _ m (by omega) (by omega) (by omega) (by simp; omega) ?_))
      rw [← hv, hd]; simp [bitsT, hb2]
end
end Go.Proofs.YtcglbpjpbjaecaaGreat.Sh
