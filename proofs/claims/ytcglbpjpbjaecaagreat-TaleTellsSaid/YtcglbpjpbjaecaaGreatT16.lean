/- A line that tells of a call. -/
import Derived.Test.YtcglbpjpbjaecaaGreatT15
import Derived.Test.YtcglbpjpbjaecaaGreatT14
import Derived.Shelf.Strings.Search1
import Derived.Shelf.Strings.OnBuilder
import Derived.Test.YtcglbpjpbjaecaaGreatT13
import Derived.RangeFuncLeaves
import Derived.RangeFuncRecord
set_option linter.unusedVariables false
set_option linter.unusedSimpArgs false
namespace Go.Proofs.YtcglbpjpbjaecaaGreat.Sh
open Go Go.Ab Go.RowKit
open Go.Proofs.YtcglbpjpbjaecaaGreat.Ru (Pg okP)
set_option maxRecDepth 10000
set_option linter.unusedVariables false
/-- Words with a blank between. -/
def jn (ss : List (List UInt8)) : List UInt8 := Go.Lib.join ss [32]
theorem jn2 (a b : List UInt8) : jn [a, b] = a ++ 32 :: b := by simp [jn, Go.Lib.join, List.intercalate]
theorem jn3 (a b c : List UInt8) : jn [a, b, c] = a ++ 32 :: (b ++ 32 :: c) := by simp [jn, Go.Lib.join, List.intercalate]
theorem jn4 (a b c d : List UInt8) : jn [a, b, c, d] = a ++ 32 :: (b ++ 32 :: (c ++ 32 :: d)) := by simp [jn, Go.Lib.join, List.intercalate]
theorem jn5 (a b c d e : List UInt8) : jn [a, b, c, d, e] = a ++ 32 :: (b ++ 32 :: (c ++ 32 :: (d ++ 32 :: e))) := by simp [jn, Go.Lib.join, List.intercalate]
theorem wordsP (n : Nat) (own : Bool) (ss : List (List UInt8)) (h : AH) (hm : h.m n = some (.cells own (.row 9) (.agg (ss.map V.str)))) (hl : ss.length ≤ 1000) (hne : ss ≠ []) (hj : (jn ss).length ≤ 140737488355328) :
    ACalls Pg 115 [.slc (some (⟨n, .row 9, []⟩, 0)) ss.length] h (pureE (.str (jn ss)) h) :=
  C115 _ _ _ (callS (Sj.joinP n own ss [32] h hm hl hne hj) ⟨rfl, rfl⟩)
def callV : List V := [.agg [.str [98, 101, 103, 105, 110], .bool false, .bool false, .bool false, .bool false],
  .agg [.str [114, 101, 97, 100], .bool true, .bool true, .bool false, .bool false],
  .agg [.str [119, 114, 105, 116, 101], .bool true, .bool true, .bool true, .bool true],
  .agg [.str [99, 111, 109, 109, 105, 116], .bool true, .bool false, .bool false, .bool false],
  .agg [.str [97, 98, 111, 114, 116], .bool true, .bool false, .bool false, .bool false],
  .agg [.str [118, 97, 99, 117, 117, 109], .bool false, .bool false, .bool false, .bool false],
  .agg [.str [99, 104, 101, 99, 107, 112, 111, 105, 110, 116], .bool false, .bool false, .bool false, .bool false],
  .agg [.str [99, 108, 111, 115, 101], .bool false, .bool false, .bool false, .bool false]]
theorem callsP (h : AH) : ACalls Pg 114 [] h fun e h' => e = .ret (.slc (some (⟨h.next, .row 225, []⟩, 0)) 8) ∧ New h h' (.cells true (.row 225) (.agg callV)) := by
  refine C114 _ _ ?_
  refine bindS_mk (show aBuild Pg 225 [(0, .str [98, 101, 103, 105, 110])] = some (.agg [.str [98, 101, 103, 105, 110], .bool false, .bool false, .bool false, .bool false]) by kernel_rfl) ?_
  refine bindS_mk (show aBuild Pg 225 [(0, .str [114, 101, 97, 100]), (1, .bool true), (2, .bool true)] = some (.agg [.str [114, 101, 97, 100], .bool true, .bool true, .bool false, .bool false]) by kernel_rfl) ?_
  refine bindS_mk (show aBuild Pg 225 [(0, .str [119, 114, 105, 116, 101]), (1, .bool true), (2, .bool true), (3, .bool true), (4, .bool true)] = some (.agg [.str [119, 114, 105, 116, 101], .bool true, .bool true, .bool true, .bool true]) by kernel_rfl) ?_
  refine bindS_mk (show aBuild Pg 225 [(0, .str [99, 111, 109, 109, 105, 116]), (1, .bool true)] = some (.agg [.str [99, 111, 109, 109, 105, 116], .bool true, .bool false, .bool false, .bool false]) by kernel_rfl) ?_
  refine bindS_mk (show aBuild Pg 225 [(0, .str [97, 98, 111, 114, 116]), (1, .bool true)] = some (.agg [.str [97, 98, 111, 114, 116], .bool true, .bool false, .bool false, .bool false]) by kernel_rfl) ?_
  refine bindS_mk (show aBuild Pg 225 [(0, .str [118, 97, 99, 117, 117, 109])] = some (.agg [.str [118, 97, 99, 117, 117, 109], .bool false, .bool false, .bool false, .bool false]) by kernel_rfl) ?_
  refine bindS_mk (show aBuild Pg 225 [(0, .str [99, 104, 101, 99, 107, 112, 111, 105, 110, 116])] = some (.agg [.str [99, 104, 101, 99, 107, 112, 111, 105, 110, 116], .bool false, .bool false, .bool false, .bool false]) by kernel_rfl) ?_
  refine bindS_mk (show aBuild Pg 225 [(0, .str [99, 108, 111, 115, 101])] = some (.agg [.str [99, 108, 111, 115, 101], .bool false, .bool false, .bool false, .bool false]) by kernel_rfl) ?_
  refine bindE (bs_at (e := 225) (z := .agg [.str [], .bool false, .bool false, .bool false, .bool false]) (l := callV) (by kernel_rfl) (by kernel_rfl) (by kernel_rfl)) fun h1 u1 => ?_
  exact ⟨rfl, u1⟩
/-- What was told of a call. -/
structure Td where
  (who life frm to err : Int)
  (kind txn page off : Int)
  s : List UInt8
  opn : Bool
  (rtxn ts : Int)
  body : List UInt8
def vCall (kind txn page off : Int) (s : List UInt8) : V := .agg [.int .u8 kind, .int .u64 txn, .int .u16 page, .int .i64 off, .str s]
def Td.v (t : Td) : V := .agg [.int .i64 t.who, vCall t.kind t.txn t.page t.off t.s, .int .i64 t.life, .int .i64 t.frm, .int .i64 t.to, .bool t.opn, .agg [.int .i64 t.err, .int .u64 t.rtxn, .int .u32 t.ts, .agg (bytesV t.body)]]
structure Td.ok (t : Td) : Prop where
  kind : 0 ≤ t.kind ∧ t.kind < 256
  rtxn : 0 ≤ t.rtxn ∧ t.rtxn < 18446744073709551616
  ts : 0 ≤ t.ts ∧ t.ts < 4294967296
  body : t.body.length = 64
theorem shapeB {l : List UInt8} : ∀ {n : Nat}, l.length = n → shapesAll Pg (bytesV l) 5 = true := by
  intro n _
  have : ∀ l : List UInt8, shapesAll Pg (bytesV l) 5 = true := by
    intro l
    induction l with
    | nil => rfl
    | cons b l ih =>
      have e : bytesV (b :: l) = .int .u8 b.toNat :: bytesV l := rfl
      have e2 : hasShape Pg (.int .u8 b.toNat) 5 = true := by kernel_rfl
      rw [e]; simp only [shapesAll, e2, ih, Bool.and_self]
  exact this l
theorem s33 {l : List UInt8} (h : l.length = 64) : hasShape Pg (.agg (bytesV l)) 33 = true := by
  have hu : ul Pg 33 = some (.array 64 5) := by kernel_rfl
  simp only [hasShape, hu, bytesV_len, h, shapeB h, Bool.and_self, beq_self_eq_true]
theorem Td.shape (t : Td) (h : t.body.length = 64) : hasShape Pg t.v 94 = true := by
  have h1 := s33 h
  have e : hasShape Pg t.v 94 = ((hasShape Pg (.agg (bytesV t.body)) 33 && true) && true) := by kernel_rfl
  rw [e, h1]; rfl
theorem Td.flat (t : Td) : flatBs [t.v] = true := by
  have h1 := flat_bytes t.body
  simp only [flatBs, Td.v, vCall, flatB, h1, Bool.and_self]
theorem s60 (t : Td) (h : t.body.length = 64) : hasShape Pg (.agg [.int .i64 t.err, .int .u64 t.rtxn, .int .u32 t.ts, .agg (bytesV t.body)]) 60 = true := by
  have h1 := s33 h
  have e : hasShape Pg (.agg [.int .i64 t.err, .int .u64 t.rtxn, .int .u32 t.ts, .agg (bytesV t.body)]) 60 = (hasShape Pg (.agg (bytesV t.body)) 33 && true) := by kernel_rfl
  rw [e, h1]; rfl
/-- The lowest 32 bits, without a sign. -/
def low (x : Int) : List UInt8 := dec (x % 4294967296).toNat
theorem low_len (x : Int) : (low x).length ≤ 20 := dec_len20 (by omega)
/-- A body without the noughts at its end. -/
def trimB (l : List UInt8) : Nat → Nat
  | 0 => 0
  | n + 1 => if l.getD n 0 = 0 then trimB l n else n + 1
def Td.head (t : Td) : List UInt8 := jn [low t.life, low t.who, nameOf t.kind.toNat, low t.frm]
def Td.mid (t : Td) : List UInt8 := jn [t.head, low t.to, low t.err, dec t.rtxn.toNat, dec t.ts.toNat]
/-- The line. -/
def Td.line (t : Td) : List UInt8 :=
  if t.opn then jn [t.head, [111, 112, 101, 110]] else if trimB t.body 64 = 0 then t.mid else jn [t.mid, hexS (t.body.take (trimB t.body 64))]
theorem Td.head_len (t : Td) : t.head.length ≤ 100 := by
  have := low_len t.life; have := low_len t.who; have := low_len t.frm; have := name_len t.kind.toNat
  rw [Td.head, jn4]; simp; omega
theorem trimB_le (l : List UInt8) : ∀ n, trimB l n ≤ n
  | 0 => Nat.le_refl _
  | n + 1 => by
    simp only [trimB]
    split
    · have := trimB_le l n; omega
    · omega
theorem hexS_len (s : List UInt8) : (hexS s).length ≤ 2 * s.length + 1 := by
  unfold hexS
  split
  · simp
  · rw [hexL_len]; omega
theorem Td.mid_len (t : Td) (ok : t.ok) : t.mid.length ≤ 300 := by
  have l1 := low_len t.life; have l2 := low_len t.who; have l3 := low_len t.frm; have l4 := name_len t.kind.toNat; have l5 := low_len t.to; have l6 := low_len t.err; have l7 := dec_len20 (n := t.rtxn.toNat) (by have := ok.rtxn; omega); have l8 := dec_len20 (n := t.ts.toNat) (by have := ok.ts; omega); have k1 := ok.kind; have k2 := ok.rtxn; have k3 := ok.ts
  have l9 := t.head_len
  rw [Td.mid, jn5]; simp; omega
theorem getBody (t : Td) (ok : t.ok) {i : Int} {b : UInt8} (h0 : 0 ≤ i) (h : t.body[i.toNat]? = some b) : getV t.v ([] ++ [6] ++ [3] ++ [i.toNat]) = some (.int .u8 b.toNat) := by
  show getV (.agg (bytesV t.body)) [i.toNat] = _
  exact getV_row (bytesV_get h)
theorem NumLow (x : Int) (h : AH) : ACalls Pg 119 [.int .u64 (IntKind.u32.wrap x)] h (pureE (.str (low x)) h) :=
  NumP _ (by rw [wrap_u32]; omega) (by rw [wrap_u32]; omega) h
section
variable (t : Td) (ok : t.ok) {q : AEnd → Prop} (c : q (.ret (.str t.line)))
include ok c
theorem end48 (ho : t.opn = false) (m : Nat) (h : AH) (hm : h.m m = some (.cells true (.one 94) t.v)) : J48_111111 (fun e _ => q e) (.ptr (some ⟨m, .one 94, []⟩)) (.str t.mid) (.int .i64 (trimB t.body 64)) h := by
  rw [J48_111111_eq]
  refine bindS_mk (b_gtr) ?_
  refine i_split (fun c1 => ?_) (fun c1 => ?_)
  · try rw [c1]
    replace c1 := of_decide_eq_true c1
    refine bindS_mk (fa_mk (by kernel_rfl)) ?_
    refine bindS_mk (fa_mk (by kernel_rfl)) ?_
    refine bindS_mk (sl_arr 64 5 hm (by kernel_rfl) (show getV t.v [6, 3] = some (.agg (bytesV t.body)) from rfl) rfl (bnd_i (by omega)) (by omega) (by have := trimB_le t.body 64; omega)) ?_
    refine bindS_mk (cvBS (e := 5) (l := t.body.take (trimB t.body 64)) (by kernel_rfl) ((elems_arr hm (by kernel_rfl) (show getV t.v [6, 3] = some (.agg (bytesV t.body)) from rfl) (by rw [bytesV_len, ok.body]; have := trimB_le t.body 64; omega)).trans (by rw [List.drop_zero, bytesV_take]; rfl)) (.inr ⟨_, _, rfl⟩)) ?_
    refine callS (HexP _ (by rw [List.length_take, ok.body]; omega) _) ?_
    refine bindS_mk (t_add (by have l9 := t.mid_len ok; have l10 := hexS_len (t.body.take (trimB t.body 64)); have l11 : (t.body.take (trimB t.body 64)).length ≤ 64 := (by rw [List.length_take, ok.body]; omega); simp only [List.length_append, List.length_cons, List.length_nil]; omega)) ?_
    refine bindS_mk (t_add (by have l9 := t.mid_len ok; have l10 := hexS_len (t.body.take (trimB t.body 64)); have l11 : (t.body.take (trimB t.body 64)).length ≤ 64 := (by rw [List.length_take, ok.body]; omega); simp only [List.length_append, List.length_cons, List.length_nil]; omega)) ?_
    refine Meet.of (cast_p (J48_1111111_eq _ _ _) ?_)
    rw [Td.line, if_neg (by simp [ho]), if_neg (by omega), jn2] at c
    simpa using c
  · try rw [c1]
    replace c1 := of_decide_eq_false c1
    refine Meet.of (cast_p (J48_1111111_eq _ _ _) ?_)
    rw [Td.line, if_neg (by simp [ho]), if_pos (by omega)] at c
    exact c
theorem loop48 (ho : t.opn = false) (m : Nat) (h : AH) (hm : h.m m = some (.cells true (.one 94) t.v)) : ∀ (k i n : Nat), i ≤ 64 → 64 - i = k → k < n → L48_11111010 (fun e _ => q e) n (.ptr (some ⟨m, .one 94, []⟩)) (.str t.mid) (.int .i64 (trimB t.body i)) (.int .i64 i) h := by
  intro k
  induction k with
  | zero =>
    intro i n hi hk hn
    obtain ⟨n, rfl⟩ : ∃ m, n = m + 1 := ⟨n - 1, by omega⟩
    rw [L48_11111010_eq]
    refine bindS_mk (b_lss) ?_
    refine i_split (fun c1 => ?_) (fun c1 => ?_)
    · try rw [c1]
      replace c1 := of_decide_eq_true c1
      exfalso; omega
    · try rw [c1]
      replace c1 := of_decide_eq_false c1
      have hi : i = 64 := by omega
      subst hi
      exact Meet.of (end48 t ok c ho m h hm)
  | succ k ih0 =>
    intro i n hi hk hn
    obtain ⟨n, rfl⟩ : ∃ m, n = m + 1 := ⟨n - 1, by omega⟩
    have ih : ∀ (i n : Nat), i ≤ 64 → 64 - i = k → k < n → L48_11111010 (fun e _ => q e) n (.ptr (some ⟨m, .one 94, []⟩)) (.str t.mid) (.int .i64 (trimB t.body i)) (.int .i64 i) h := fun i n a b d => ih0 i n a b d
    rw [L48_11111010_eq]
    refine bindS_mk (b_lss) ?_
    refine i_split (fun c1 => ?_) (fun c1 => ?_)
    · try rw [c1]
      replace c1 := of_decide_eq_true c1
      obtain ⟨b, hb0⟩ : ∃ b, t.body[i]? = some b := ⟨t.body[i]'(by have := ok.body; omega), List.getElem?_eq_getElem (by have := ok.body; omega)⟩
      have hb : t.body[((i : Nat) : Int).toNat]? = some b := hb0
      refine Meet.of (cast_p (J48_1111101001_eq _ _ _ _ _ _ _) ?_)
      refine bindS_mk (fa_mk (by kernel_rfl)) ?_
      refine bindS_mk (fa_mk (by kernel_rfl)) ?_
      refine bindS_mk (ia_arr 64 5 (by kernel_rfl) (by omega) (by omega)) ?_
      refine bindV_mk (ld_mk hm (by kernel_rfl) (getBody t ok (by omega) hb)) ?_
      refine bindS_mk (b_neq) ?_
      refine i_split (fun c2 => ?_) (fun c2 => ?_)
      · try rw [c2]
        replace c2 := ne_of_bne c2
        first | refine bindS_mk (w_add (by first | exact wrap_i64 (by omega) (by omega) | exact wr_u8 (by omega) (by omega) | exact wr_u16 (by omega) (by omega) | exact wr_u32 (by omega) (by omega) | exact wr_u64 (by omega) (by omega))) ?_ | refine bindS_mk (b_add) ?_
        refine Meet.of (cast_p (J48_11111010011_eq _ _ _ _ _ _ _) ?_)
        first | refine bindS_mk (w_add (by first | exact wrap_i64 (by omega) (by omega) | exact wr_u8 (by omega) (by omega) | exact wr_u16 (by omega) (by omega) | exact wr_u32 (by omega) (by omega) | exact wr_u64 (by omega) (by omega))) ?_ | refine bindS_mk (b_add) ?_
        refine Meet.of ((congrArg (fun x : Int => L48_11111010 (fun e _ => q e) n (.ptr (some ⟨m, .one 94, []⟩)) (.str t.mid) _ (.int .i64 x) h) (show ((i : Nat) : Int) + 1 = ((i + 1 : Nat) : Int) by omega)).mpr ?_)
        refine (congrArg (fun x : Int => L48_11111010 (fun e _ => q e) n (.ptr (some ⟨m, .one 94, []⟩)) (.str t.mid) (.int .i64 x) (.int .i64 ((i + 1 : Nat) : Int)) h) ?_).mpr (ih (i + 1) n (by omega) (by omega) (by omega))
        have hbd : t.body.getD i 0 = b := by rw [List.getD_eq_getElem?_getD, hb0]; rfl
        simp only [trimB, hbd]
        first | (rw [if_neg (fun e => c2 (by rw [e]; rfl))]; done) | (rw [if_neg (fun e => c2 (by rw [e]; rfl))]; omega) | (rw [if_pos (UInt8.toNat_inj.1 (by simpa using c2))])
      · try rw [c2]
        replace c2 := eq_of_bne_false c2
        refine Meet.of (cast_p (J48_11111010011_eq _ _ _ _ _ _ _) ?_)
        first | refine bindS_mk (w_add (by first | exact wrap_i64 (by omega) (by omega) | exact wr_u8 (by omega) (by omega) | exact wr_u16 (by omega) (by omega) | exact wr_u32 (by omega) (by omega) | exact wr_u64 (by omega) (by omega))) ?_ | refine bindS_mk (b_add) ?_
        refine Meet.of ((congrArg (fun x : Int => L48_11111010 (fun e _ => q e) n (.ptr (some ⟨m, .one 94, []⟩)) (.str t.mid) _ (.int .i64 x) h) (show ((i : Nat) : Int) + 1 = ((i + 1 : Nat) : Int) by omega)).mpr ?_)
        refine (congrArg (fun x : Int => L48_11111010 (fun e _ => q e) n (.ptr (some ⟨m, .one 94, []⟩)) (.str t.mid) (.int .i64 x) (.int .i64 ((i + 1 : Nat) : Int)) h) ?_).mpr (ih (i + 1) n (by omega) (by omega) (by omega))
        have hbd : t.body.getD i 0 = b := by rw [List.getD_eq_getElem?_getD, hb0]; rfl
        simp only [trimB, hbd]
        first | (rw [if_neg (fun e => c2 (by rw [e]; rfl))]; done) | (rw [if_neg (fun e => c2 (by rw [e]; rfl))]; omega) | (rw [if_pos (UInt8.toNat_inj.1 (by simpa using c2))])
    · try rw [c1]
      replace c1 := of_decide_eq_false c1
      have hi : i = 64 := by omega
      subst hi
      exact Meet.of (end48 t ok c ho m h hm)
theorem tail48 (ho : t.opn = false) (m : Nat) (h : AH) (hm : h.m m = some (.cells true (.one 94) t.v)) : J48_111 (fun e _ => q e) (.ptr (some ⟨m, .one 94, []⟩)) (.str t.head) h := by
  have l1 := low_len t.life; have l2 := low_len t.who; have l3 := low_len t.frm; have l4 := name_len t.kind.toNat; have l5 := low_len t.to; have l6 := low_len t.err; have l7 := dec_len20 (n := t.rtxn.toNat) (by have := ok.rtxn; omega); have l8 := dec_len20 (n := t.ts.toNat) (by have := ok.ts; omega); have k1 := ok.kind; have k2 := ok.rtxn; have k3 := ok.ts
  have l9 := t.head_len
  rw [J48_111_eq]
  refine bindSO_mk (fa_mk (by kernel_rfl)) ?_
  refine bindVO_mk (ld_mk hm (by kernel_rfl) rfl) ?_
  refine bindSO_mk (cv_int (d := 31) .u32 (by kernel_rfl)) ?_
  refine bindSO_mk (cv_wr (d := 49) (k := .u64) (by kernel_rfl) (wr_u64 (by rw [wrap_u32]; omega) (by rw [wrap_u32]; omega))) ?_
  refine ⟨_, NumLow _ _, ?_⟩
  refine bindSO_mk (t_add (by simp only [List.length_append, List.length_cons, List.length_nil]; omega)) ?_
  refine bindSO_mk (t_add (by simp only [List.length_append, List.length_cons, List.length_nil]; omega)) ?_
  refine bindSO_mk (fa_mk (by kernel_rfl)) ?_
  refine bindSO_mk (fa_mk (by kernel_rfl)) ?_
  refine bindVO_mk (ld_mk hm (by kernel_rfl) rfl) ?_
  refine bindSO_mk (cv_int (d := 31) .u32 (by kernel_rfl)) ?_
  refine bindSO_mk (cv_wr (d := 49) (k := .u64) (by kernel_rfl) (wr_u64 (by rw [wrap_u32]; omega) (by rw [wrap_u32]; omega))) ?_
  refine ⟨_, NumLow _ _, ?_⟩
  refine bindSO_mk (t_add (by simp only [List.length_append, List.length_cons, List.length_nil]; omega)) ?_
  refine bindSO_mk (t_add (by simp only [List.length_append, List.length_cons, List.length_nil]; omega)) ?_
  refine bindSO_mk (fa_mk (by kernel_rfl)) ?_
  refine bindSO_mk (fa_mk (by kernel_rfl)) ?_
  refine bindVO_mk (ld_mk hm (by kernel_rfl) rfl) ?_
  refine ⟨_, NumP _ (by omega) (by omega) _, ?_⟩
  refine bindSO_mk (t_add (by simp only [List.length_append, List.length_cons, List.length_nil]; omega)) ?_
  refine bindSO_mk (t_add (by simp only [List.length_append, List.length_cons, List.length_nil]; omega)) ?_
  refine bindSO_mk (fa_mk (by kernel_rfl)) ?_
  refine bindSO_mk (fa_mk (by kernel_rfl)) ?_
  refine bindVO_mk (ld_mk hm (by kernel_rfl) rfl) ?_
  refine bindSO_mk (cv_wr (d := 49) (k := .u64) (by kernel_rfl) (wr_u64 (by omega) (by omega))) ?_
  refine ⟨_, NumP _ (by omega) (by omega) _, ?_⟩
  refine bindSO_mk (t_add (by simp only [List.length_append, List.length_cons, List.length_nil]; omega)) ?_
  refine bindSO_mk (t_add (by simp only [List.length_append, List.length_cons, List.length_nil]; omega)) ?_
  have e1 : t.head ++ ([32] ++ low t.to ++ [32] ++ low t.err ++ [32] ++ dec t.rtxn.toNat ++ [32] ++ dec t.ts.toNat) = t.mid := by simp [Td.mid, jn5]
  rw [e1]
  exact ⟨65, Meet.of (loop48 t ok c ho m h hm 64 0 65 (by omega) (by omega) (by omega))⟩
end
theorem tellR (t : Td) (ok : t.ok) (h : AH) : ACalls Pg 48 [t.v] h (pureE (.str t.line) h) := by
  refine pure_lift t.flat rfl ?_ h
  have l1 := low_len t.life; have l2 := low_len t.who; have l3 := low_len t.frm; have l4 := name_len t.kind.toNat; have l5 := low_len t.to; have l6 := low_len t.err; have l7 := dec_len20 (n := t.rtxn.toNat) (by have := ok.rtxn; omega); have l8 := dec_len20 (n := t.ts.toNat) (by have := ok.ts; omega); have k1 := ok.kind; have k2 := ok.rtxn; have k3 := ok.ts
  have hb64 := ok.body
  refine C48 _ _ _ ?_
  refine bindE (new_at (t.shape ok.body)) fun h1 u1 => ?_
  have n1 := u1.next
  have f1_1 := u1.at_
  refine bindSO_mk (fa_mk (by kernel_rfl)) ?_
  refine bindVO_mk (ld_mk f1_1 (by kernel_rfl) rfl) ?_
  refine bindSO_mk (cv_int (d := 31) .u32 (by kernel_rfl)) ?_
  refine bindSO_mk (cv_wr (d := 49) (k := .u64) (by kernel_rfl) (wr_u64 (by rw [wrap_u32]; omega) (by rw [wrap_u32]; omega))) ?_
  refine ⟨_, NumLow _ _, ?_⟩
  refine bindSO_mk (t_add (by simp only [List.length_append, List.length_cons, List.length_nil]; omega)) ?_
  refine bindSO_mk (fa_mk (by kernel_rfl)) ?_
  refine bindVO_mk (ld_mk f1_1 (by kernel_rfl) rfl) ?_
  refine bindSO_mk (cv_int (d := 31) .u32 (by kernel_rfl)) ?_
  refine bindSO_mk (cv_wr (d := 49) (k := .u64) (by kernel_rfl) (wr_u64 (by rw [wrap_u32]; omega) (by rw [wrap_u32]; omega))) ?_
  refine ⟨_, NumLow _ _, ?_⟩
  refine bindSO_mk (t_add (by simp only [List.length_append, List.length_cons, List.length_nil]; omega)) ?_
  refine bindSO_mk (t_add (by simp only [List.length_append, List.length_cons, List.length_nil]; omega)) ?_
  refine bindSO_mk (fa_mk (by kernel_rfl)) ?_
  refine bindSO_mk (fa_mk (by kernel_rfl)) ?_
  refine bindVO_mk (ld_mk f1_1 (by kernel_rfl) rfl) ?_
  refine ⟨_, NameP _ (by omega) _, ?_⟩
  refine bindSO_mk (t_add (by simp only [List.length_append, List.length_cons, List.length_nil]; omega)) ?_
  refine bindSO_mk (t_add (by simp only [List.length_append, List.length_cons, List.length_nil]; omega)) ?_
  refine bindSO_mk (fa_mk (by kernel_rfl)) ?_
  refine bindVO_mk (ld_mk f1_1 (by kernel_rfl) rfl) ?_
  refine bindSO_mk (cv_int (d := 31) .u32 (by kernel_rfl)) ?_
  refine bindSO_mk (cv_wr (d := 49) (k := .u64) (by kernel_rfl) (wr_u64 (by rw [wrap_u32]; omega) (by rw [wrap_u32]; omega))) ?_
  refine ⟨_, NumLow _ _, ?_⟩
  refine bindSO_mk (t_add (by simp only [List.length_append, List.length_cons, List.length_nil]; omega)) ?_
  refine bindS_mk (fa_mk (by kernel_rfl)) ?_
  refine bindV_mk (ld_mk f1_1 (by kernel_rfl) rfl) ?_
  refine i_split (fun c2 => ?_) (fun c2 => ?_)
  · try rw [c2]
    refine bindS_mk (t_add (by simp only [List.length_append, List.length_cons, List.length_nil]; omega)) ?_
    show AEnd.ret (.str _) = .ret (.str t.line)
    simp [Td.line, c2, jn2, Td.head, jn4]
  · try rw [c2]
    have e0 : low t.life ++ [32] ++ low t.who ++ [32] ++ nameOf t.kind.toNat ++ [32] ++ low t.frm = t.head := by simp [Td.head, jn4]
    rw [e0]
    exact Meet.of (tail48 t ok (q := fun e => e = .ret (.str t.line)) rfl c2 _ _ f1_1)
end Go.Proofs.YtcglbpjpbjaecaaGreat.Sh
/- Tell's line, by the program. -/
namespace Go.Proofs.YtcglbpjpbjaecaaGreat.Sh
open Go Go.Ab Go.RowKit
open Go.Proofs.YtcglbpjpbjaecaaGreat.Ru (Pg okP)
set_option maxRecDepth 10000
set_option linter.unusedVariables false
theorem getName {k : Nat} (h : k < 8) : getV (.agg callV) ([0 + k] ++ [0]) = some (.str (nameOf k)) := by
  have : ∀ y : Fin 8, getV (.agg callV) ([0 + y.val] ++ [0]) = some (.str (nameOf y.val)) := by
    intro y
    match y with
    | ⟨0, _⟩ => rfl
    | ⟨1, _⟩ => rfl
    | ⟨2, _⟩ => rfl
    | ⟨3, _⟩ => rfl
    | ⟨4, _⟩ => rfl
    | ⟨5, _⟩ => rfl
    | ⟨6, _⟩ => rfl
    | ⟨7, _⟩ => rfl
  exact this ⟨k, h⟩
def zeroB : List UInt8 := List.replicate 64 0
theorem build33 : aBuild Pg 33 [] = some (.agg (bytesV zeroB)) := by kernel_rfl
theorem trim_zero : ∀ (n : Nat) (l : List UInt8), trimB l n = 0 ↔ ∀ i, i < n → l.getD i 0 = 0
  | 0, l => by simp [trimB]
  | n + 1, l => by
    simp only [trimB]
    split
    · rename_i h
      rw [trim_zero n l]
      refine ⟨fun g i hi => ?_, fun g i hi => g i (by omega)⟩
      rcases Nat.lt_or_ge i n with k | k
      · exact g i k
      · have : i = n := by omega
        subst this; exact h
    · rename_i h
      refine ⟨fun g => by omega, fun g => absurd (g n (by omega)) h⟩
theorem zeroB_get {i : Nat} (h : i < 64) : zeroB[i]? = some 0 := by rw [zeroB, List.getElem?_replicate, if_pos h]
theorem body_zero (l : List UInt8) (h : l.length = 64) : l = zeroB ↔ trimB l 64 = 0 := by
  rw [trim_zero]
  constructor
  · rintro rfl i hi
    rw [List.getD_eq_getElem?_getD, zeroB_get hi]; rfl
  · intro g
    apply List.ext_getElem?
    intro i
    by_cases hi : i < 64
    · have := g i hi
      rw [List.getD_eq_getElem?_getD, List.getElem?_eq_getElem (by omega)] at this
      simp at this
      rw [List.getElem?_eq_getElem (by omega), this, zeroB_get hi]
    · rw [List.getElem?_eq_none (by omega), List.getElem?_eq_none (by rw [zeroB, List.length_replicate]; omega)]
theorem ne33 (l : List UInt8) (h : l.length = 64) (c : Bool) : aBin Pg .neq 33 (.agg (bytesV l)) (.agg (bytesV zeroB)) c = some (.bool (!decide (trimB l 64 = 0))) := by
  have h1 : aBin Pg .neq 33 (.agg (bytesV l)) (.agg (bytesV zeroB)) c = if eqOk Pg 33 (.agg (bytesV l)) (.agg (bytesV zeroB)) c = true then (aEq Pg 33 (.agg (bytesV l)) (.agg (bytesV zeroB))).map (fun b => .bool (!b)) else none := rfl
  have h2 : eqOk Pg 33 (.agg (bytesV l)) (.agg (bytesV zeroB)) c = true := by kernel_rfl
  have h3 : plainT Pg 20 33 = true := by kernel_rfl
  rw [h1, h2, if_pos rfl]
  unfold aEq
  rw [h3, if_pos rfl, s33 h, s33 (l := zeroB) rfl]
  simp only [Bool.and_self, if_true, beqV]
  rw [beq_bytes l zeroB (by rw [h]; rfl)]
  have : (l == zeroB) = decide (trimB l 64 = 0) := by
    by_cases e : l = zeroB
    · rw [decide_eq_true ((body_zero l h).1 e)]; simpa using e
    · rw [decide_eq_false (fun k => e ((body_zero l h).2 k))]; simpa using e
  rw [this]; rfl
theorem z9 : zeroV Pg 9 = some (.str []) := by kernel_rfl
theorem zs9 : hasShape Pg (.str []) 9 = true := by kernel_rfl
theorem z60 : zeroV Pg 60 = some (.agg [(.int .i64 0), (.int .u64 0), (.int .u32 0), (.agg (List.replicate 64 (.int .u8 0)))]) := by kernel_rfl
theorem zs60 : hasShape Pg (.agg [(.int .i64 0), (.int .u64 0), (.int .u32 0), (.agg (List.replicate 64 (.int .u8 0)))]) 60 = true := by kernel_rfl
theorem lowP' (x : Int) (h : AH) : ACalls Pg 116 [.int .i64 x] h (pureE (.str (low x)) h) := lowP x h
section
variable (t : Td) (ok : t.ok) {q : AEnd → Prop} (c : q (.ret (.str t.line)))
include ok c
theorem end47 (ho : t.opn = false) (m : Nat) (h : AH) (hm : h.m m = some (.cells true (.one 60) (.agg [.int .i64 t.err, .int .u64 t.rtxn, .int .u32 t.ts, .agg (bytesV t.body)]))) (hn : m < h.next) (k : Nat) (hi : k = trimB t.body 64) (hk : trimB t.body 64 ≠ 0) : J47_111111101011 (fun e _ => q e) (.str t.mid) (.ptr (some ⟨m, .one 60, []⟩)) (.int .i64 k) h := by
  have l1 := low_len t.life; have l2 := low_len t.who; have l3 := low_len t.frm; have l4 := name_len t.kind.toNat; have l5 := low_len t.to; have l6 := low_len t.err; have l7 := dec_len20 (n := t.rtxn.toNat) (by have := ok.rtxn; omega); have l8 := dec_len20 (n := t.ts.toNat) (by have := ok.ts; omega); have k1 := ok.kind; have k2 := ok.rtxn; have k3 := ok.ts; have l9 := t.head_len; have l0 := t.mid_len ok
  have l11 := trimB_le t.body 64
  rw [J47_111111101011_eq]
  refine bindS_mk (fa_mk (by kernel_rfl)) ?_
  refine bindS_mk (sl_arr 64 5 hm (by kernel_rfl) (show getV (.agg [.int .i64 t.err, .int .u64 t.rtxn, .int .u32 t.ts, .agg (bytesV t.body)]) [3] = some (.agg (bytesV t.body)) from rfl) rfl (bnd_i (by omega)) (by omega) (by omega)) ?_
  refine bindS_mk (cvBS (e := 5) (l := t.body.take (trimB t.body 64)) (by kernel_rfl) ((elems_arr hm (by kernel_rfl) (show getV (.agg [.int .i64 t.err, .int .u64 t.rtxn, .int .u32 t.ts, .agg (bytesV t.body)]) [3] = some (.agg (bytesV t.body)) from rfl) (by rw [bytesV_len, ok.body]; omega)).trans (by rw [List.drop_zero, bytesV_take, hi]; congr 4)) (.inr ⟨_, _, rfl⟩)) ?_
  refine callS (bytesP _ (by rw [List.length_take, ok.body]; omega) _) ?_
  refine bindE (bs2_at (e := 9) (by kernel_rfl) z9 (by kernel_rfl) (by kernel_rfl)) fun h1 u1 => ?_
  have n1 := u1.next
  have fT_1 := (u1.other _ (by omega)).trans hm
  have f1_1 := u1.at_
  refine callS (wordsP _ _ [t.mid, hexS (t.body.take (trimB t.body 64))] _ f1_1 (by simp) (by simp) (by rw [jn2]; have l10 := hexS_len (t.body.take (trimB t.body 64)); rw [List.length_take] at l10; simp; omega)) ?_
  refine Meet.of (cast_p (J47_11111111_eq _ _ _) ?_)
  rw [Td.line, if_neg (by simp [ho]), if_neg (by omega)] at c
  exact c
theorem loop47 (ho : t.opn = false) (m : Nat) (h : AH) (hm : h.m m = some (.cells true (.one 60) (.agg [.int .i64 t.err, .int .u64 t.rtxn, .int .u32 t.ts, .agg (bytesV t.body)]))) (hn : m < h.next) (hk : trimB t.body 64 ≠ 0) : ∀ (i n : Nat), i ≤ 64 → i < n → trimB t.body 64 = trimB t.body i → L47_1111111010100 (fun e _ => q e) n (.str t.mid) (.ptr (some ⟨m, .one 60, []⟩)) (.int .i64 i) h := by
  intro i
  induction i with
  | zero => intro n _ _ hi; exact absurd hi hk
  | succ i ih =>
    intro n hi64 hin hi
    obtain ⟨n, rfl⟩ : ∃ m, n = m + 1 := ⟨n - 1, by omega⟩
    have hb64 := ok.body
    obtain ⟨b, hb0⟩ : ∃ b, t.body[i]? = some b := ⟨t.body[i]'(by omega), List.getElem?_eq_getElem (by omega)⟩
    rw [L47_1111111010100_eq]
    first | refine bindS_mk (w_sub (by first | exact wrap_i64 (by omega) (by omega) | exact wr_u8 (by omega) (by omega) | exact wr_u16 (by omega) (by omega) | exact wr_u32 (by omega) (by omega) | exact wr_u64 (by omega) (by omega))) ?_ | refine bindS_mk (b_sub) ?_
    refine bindS_mk (fa_mk (by kernel_rfl)) ?_
    refine bindS_mk (ia_arr 64 5 (by kernel_rfl) (by omega) (by omega)) ?_
    refine bindV_mk (ld_mk hm (by kernel_rfl) (show getV (.agg (bytesV t.body)) [((((i + 1 : Nat) : Int)) - 1).toNat] = some (.int .u8 b.toNat) from getV_row (bytesV_get (by rw [show ((((i + 1 : Nat) : Int)) - 1).toNat = i by omega]; exact hb0)))) ?_
    refine bindS_mk (b_eql) ?_
    refine i_split (fun c1 => ?_) (fun c1 => ?_)
    · try rw [c1]
      replace c1 := eq_of_beq c1
      refine Meet.of (cast_p (J47_111111101010001_eq _ _ _ _ _ _) ?_)
      first | refine bindS_mk (w_sub (by first | exact wrap_i64 (by omega) (by omega) | exact wr_u8 (by omega) (by omega) | exact wr_u16 (by omega) (by omega) | exact wr_u32 (by omega) (by omega) | exact wr_u64 (by omega) (by omega))) ?_ | refine bindS_mk (b_sub) ?_
      refine Meet.of ((congrArg (fun x : Int => L47_1111111010100 (fun e _ => q e) n (.str t.mid) (.ptr (some ⟨m, .one 60, []⟩)) (.int .i64 x) h) (show (((i + 1 : Nat) : Int)) - 1 = ((i : Nat) : Int) by omega)).mpr (ih n (by omega) (by omega) ?_))
      have hbd : t.body.getD i 0 = b := by rw [List.getD_eq_getElem?_getD, hb0]; rfl
      rw [hi, trimB, hbd, if_pos (UInt8.toNat_inj.1 (by simpa using c1))]
    · try rw [c1]
      replace c1 := ne_of_beq_false c1
      have hbd : t.body.getD i 0 = b := by rw [List.getD_eq_getElem?_getD, hb0]; rfl
      have hi2 : trimB t.body 64 = i + 1 := by rw [hi, trimB, hbd, if_neg (fun e => c1 (by rw [e]; rfl))]
      exact Meet.of (end47 t ok c ho m h hm hn (i + 1) hi2.symm hk)
theorem tail47b (ho : t.opn = false) (m : Nat) (h : AH) (hm : h.m m = some (.cells true (.one 94) t.v)) (hn : m < h.next) : J47_11111 (fun e _ => q e) (.ptr (some ⟨m, .one 94, []⟩)) (.str t.head) h := by
  have l1 := low_len t.life; have l2 := low_len t.who; have l3 := low_len t.frm; have l4 := name_len t.kind.toNat; have l5 := low_len t.to; have l6 := low_len t.err; have l7 := dec_len20 (n := t.rtxn.toNat) (by have := ok.rtxn; omega); have l8 := dec_len20 (n := t.ts.toNat) (by have := ok.ts; omega); have k1 := ok.kind; have k2 := ok.rtxn; have k3 := ok.ts; have l9 := t.head_len; have l0 := t.mid_len ok
  rw [J47_11111_eq]
  refine bindS_mk (fa_mk (by kernel_rfl)) ?_
  refine bindV_mk (ld_mk hm (by kernel_rfl) rfl) ?_
  refine bindE (al_at z60 zs60) fun h1 u1 => ?_
  have n1 := u1.next
  have fT_1 := (u1.other _ (by omega)).trans hm
  have f1_1 := u1.at_
  refine bindE (st_at f1_1 (by kernel_rfl) rfl (s60 t ok.body) rfl) fun h2 u2 => ?_
  have n2 := u2.next
  have fT_2 := (u2.other _ (by omega)).trans fT_1
  have f1_2 := u2.at_
  refine bindSO_mk (fa_mk (by kernel_rfl)) ?_
  refine bindVO_mk (ld_mk fT_2 (by kernel_rfl) rfl) ?_
  refine ⟨_, lowP' _ _, ?_⟩
  refine bindSO_mk (fa_mk (by kernel_rfl)) ?_
  refine bindVO_mk (ld_mk f1_2 (by kernel_rfl) rfl) ?_
  refine ⟨_, lowP' _ _, ?_⟩
  refine bindSO_mk (fa_mk (by kernel_rfl)) ?_
  refine bindVO_mk (ld_mk f1_2 (by kernel_rfl) rfl) ?_
  refine ⟨_, numP _ (by omega) (by omega) _, ?_⟩
  refine bindSO_mk (fa_mk (by kernel_rfl)) ?_
  refine bindVO_mk (ld_mk f1_2 (by kernel_rfl) rfl) ?_
  refine bindSO_mk (cv_wr (d := 49) (k := .u64) (by kernel_rfl) (wr_u64 (by omega) (by omega))) ?_
  refine ⟨_, numP _ (by omega) (by omega) _, ?_⟩
  refine bindE (bs5_at (e := 9) (by kernel_rfl) z9 (by kernel_rfl) (by kernel_rfl) (by kernel_rfl) (by kernel_rfl) (by kernel_rfl)) fun h3 u3 => ?_
  have n3 := u3.next
  have fT_3 := (u3.other _ (by omega)).trans fT_2
  have f1_3 := (u3.other _ (by omega)).trans f1_2
  have f3_3 := u3.at_
  refine ⟨_, _, wordsP _ _ [t.head, low t.to, low t.err, dec t.rtxn.toNat, dec t.ts.toNat] _ f3_3 (by simp) (by simp) (by exact Nat.le_trans l0 (by decide)), ?_⟩
  refine bindS_mk (fa_mk (by kernel_rfl)) ?_
  refine bindV_mk (ld_mk f1_3 (by kernel_rfl) rfl) ?_
  refine bindS_mk (build33) ?_
  refine bindS_mk (ne33 t.body ok.body _) ?_
  refine i_split (fun c4 => ?_) (fun c4 => ?_)
  · try rw [c4]
    exact ⟨65, Meet.of (loop47 t ok c (by assumption) _ _ f1_3 (by omega) (by simpa using c4) 64 65 (by omega) (by omega) rfl)⟩
  · try rw [c4]
    refine Meet.of (cast_p (J47_11111111_eq _ _ _) ?_)
    have hz : trimB t.body 64 = 0 := by simpa using c4
    rw [Td.line, if_neg (by simp [ho]), if_pos hz] at c
    exact c
theorem tail47 (m : Nat) (h : AH) (hm : h.m m = some (.cells true (.one 94) t.v)) (hn : m < h.next) : J47_111 (fun e _ => q e) (.ptr (some ⟨m, .one 94, []⟩)) (.str (nameOf t.kind.toNat)) h := by
  have l1 := low_len t.life; have l2 := low_len t.who; have l3 := low_len t.frm; have l4 := name_len t.kind.toNat; have l5 := low_len t.to; have l6 := low_len t.err; have l7 := dec_len20 (n := t.rtxn.toNat) (by have := ok.rtxn; omega); have l8 := dec_len20 (n := t.ts.toNat) (by have := ok.ts; omega); have k1 := ok.kind; have k2 := ok.rtxn; have k3 := ok.ts; have l9 := t.head_len; have l0 := t.mid_len ok
  rw [J47_111_eq]
  refine bindSO_mk (fa_mk (by kernel_rfl)) ?_
  refine bindVO_mk (ld_mk hm (by kernel_rfl) rfl) ?_
  refine ⟨_, lowP' _ _, ?_⟩
  refine bindSO_mk (fa_mk (by kernel_rfl)) ?_
  refine bindVO_mk (ld_mk hm (by kernel_rfl) rfl) ?_
  refine ⟨_, lowP' _ _, ?_⟩
  refine bindSO_mk (fa_mk (by kernel_rfl)) ?_
  refine bindVO_mk (ld_mk hm (by kernel_rfl) rfl) ?_
  refine ⟨_, lowP' _ _, ?_⟩
  refine bindE (bs4_at (e := 9) (by kernel_rfl) z9 (by kernel_rfl) (by kernel_rfl) (by kernel_rfl) (by kernel_rfl)) fun h1 u1 => ?_
  have n1 := u1.next
  have fT_1 := (u1.other _ (by omega)).trans hm
  have f1_1 := u1.at_
  refine ⟨_, _, wordsP _ _ [low t.life, low t.who, nameOf t.kind.toNat, low t.frm] _ f1_1 (by simp) (by simp) (by exact Nat.le_trans t.head_len (by decide)), ?_⟩
  refine bindS_mk (fa_mk (by kernel_rfl)) ?_
  refine bindV_mk (ld_mk fT_1 (by kernel_rfl) rfl) ?_
  refine i_split (fun c2 => ?_) (fun c2 => ?_)
  · try rw [c2]
    refine bindE (bs2_at (e := 9) (by kernel_rfl) z9 (by kernel_rfl) (by kernel_rfl)) fun h3 u3 => ?_
    have n3 := u3.next
    have fT_3 := (u3.other _ (by omega)).trans fT_1
    have f1_3 := (u3.other _ (by omega)).trans f1_1
    have f3_3 := u3.at_
    refine callS (wordsP _ _ [t.head, [111, 112, 101, 110]] _ f3_3 (by simp) (by simp) (by rw [jn2]; simp; omega)) ?_
    rw [Td.line, if_pos (by assumption)] at c
    exact c
  · try rw [c2]
    exact Meet.of (tail47b t ok c (by assumption) _ _ fT_1 (by omega))
end
theorem tellP (t : Td) (ok : t.ok) (h : AH) : ACalls Pg 47 [t.v] h (pureE (.str t.line) h) := by
  refine pure_lift t.flat rfl ?_ h
  have l1 := low_len t.life; have l2 := low_len t.who; have l3 := low_len t.frm; have l4 := name_len t.kind.toNat; have l5 := low_len t.to; have l6 := low_len t.err; have l7 := dec_len20 (n := t.rtxn.toNat) (by have := ok.rtxn; omega); have l8 := dec_len20 (n := t.ts.toNat) (by have := ok.ts; omega); have k1 := ok.kind; have k2 := ok.rtxn; have k3 := ok.ts; have l9 := t.head_len; have l0 := t.mid_len ok
  refine C47 _ _ _ ?_
  refine bindE (new_at (t.shape ok.body)) fun h1 u1 => ?_
  have n1 := u1.next
  have f1_1 := u1.at_
  refine callQ (callsP _) fun h2 u2 => ?_
  have n2 := u2.next
  have f1_2 := (u2.other _ (by omega)).trans f1_1
  have fC_2 := u2.at_
  refine bindS_mk (fa_mk (by kernel_rfl)) ?_
  refine bindS_mk (fa_mk (by kernel_rfl)) ?_
  refine bindV_mk (ld_mk f1_2 (by kernel_rfl) rfl) ?_
  first | refine bindS_mk (cv_wr (d := 3) (k := .i64) (by kernel_rfl) (by first | exact wrap_i64 (by omega) (by omega) | exact wr_u8 (by omega) (by omega) | exact wr_u16 (by omega) (by omega) | exact wr_u32 (by omega) (by omega) | exact wr_u64 (by omega) (by omega))) ?_ | refine bindS_mk (cv_int (d := 3) .i64 (by kernel_rfl)) ?_
  refine bindV_mk (len_slc (by kernel_rfl)) ?_
  refine bindS_mk (b_lss) ?_
  refine i_split (fun c3 => ?_) (fun c3 => ?_)
  · try rw [c3]
    replace c3 := of_decide_eq_true c3
    refine bindS_mk (fa_mk (by kernel_rfl)) ?_
    refine bindS_mk (fa_mk (by kernel_rfl)) ?_
    refine bindV_mk (ld_mk f1_2 (by kernel_rfl) rfl) ?_
    refine bindS_mk (ia_slc _ (by kernel_rfl) (by omega) (by omega)) ?_
    refine bindS_mk (fa_mk (by kernel_rfl)) ?_
    refine bindV_mk (ld_mk fC_2 (by kernel_rfl) (getName (k := t.kind.toNat) (by omega))) ?_
    exact Meet.of (tail47 t ok (q := fun e => e = .ret (.str t.line)) rfl _ _ f1_2 (by omega))
  · try rw [c3]
    replace c3 := of_decide_eq_false c3
    rw [← name_call (k := t.kind.toNat) (by omega)]
    exact Meet.of (tail47 t ok (q := fun e => e = .ret (.str t.line)) rfl _ _ f1_2 (by omega))
end Go.Proofs.YtcglbpjpbjaecaaGreat.Sh
namespace Go.Proofs.YtcglbpjpbjaecaaGreat.Sh
open Go Go.Ab Go.RowKit
open Go.Proofs.YtcglbpjpbjaecaaGreat.Ru (Pg okP)
set_option maxRecDepth 100000
set_option linter.unusedVariables false
-- 111 strings.Cut
noncomputable def B111 : Code := (Tryz.f111.body).getD .skip
def R111 : List ResultVar := [.tmp 4, .tmp 5, .tmp 6]
abbrev N111 : Nat := 13
def K111 : KT := (.seq .leaf (.seq .leaf .leaf [4, 5, 6]) [0, 1])
theorem S111 (Q : AEnd → AH → Prop) (a0 a1 : V) (h : AH) : vc Pg N111 B111 K111 (vcRet Pg R111 Q) (initEnv 0 [a0, a1]) h = (
  ACalls Pg 190 [a0, a1] h (aEnd (fun v1 h2 =>
  bindV (still (aExtract v1 0) h2) fun v3 h4 =>
  bindV (still (aExtract v1 1) h4) fun v5 h6 =>
  bindV (still (aExtract v1 2) h6) fun v7 h8 =>
  Q (.ret (V.tup [v3, v5, v7])) h8) fun v h => Q (.panic v) h)) := by kernel_rfl
theorem C111 (Q : AEnd → AH → Prop) (a0 a1 : V) (h : AH) (c :
  ACalls Pg 190 [a0, a1] h (aEnd (fun v1 h2 =>
  bindV (still (aExtract v1 0) h2) fun v3 h4 =>
  bindV (still (aExtract v1 1) h4) fun v5 h6 =>
  bindV (still (aExtract v1 2) h6) fun v7 h8 =>
  Q (.ret (V.tup [v3, v5, v7])) h8) fun v h => Q (.panic v) h)) : ACalls Pg 111 [a0, a1] h Q :=
  acalls_of_vc okP Tryz.func111 (show Tryz.f111.body = some B111 from by kernel_rfl) K111 (by rw [← S111 Q a0 a1 h] at c; exact c)

-- 190 internal/stringslite.Cut
noncomputable def B190 : Code := (Tryz.f190.body).getD .skip
def R190 : List ResultVar := [.tmp 4, .tmp 5, .tmp 6]
abbrev N190 : Nat := 23
def K190 : KT := (.seq .leaf (.join (.seq .leaf (.seq .leaf (.two (.seq .leaf .leaf [4, 5, 6]) .leaf) [0, 1, 7, 12]) [0, 1, 7]) (.seq .leaf .leaf [4, 5, 6]) [0]) [0, 1])
def J190_11 (Q : AEnd → AH → Prop) (x0 : V) (h : AH) : Prop := vcAt Pg N190 B190 K190 [1, 1] [] (vcRet Pg R190 Q) [(0, x0)] h
theorem J190_11_eq (Q : AEnd → AH → Prop) (x0 : V) (h : AH) : J190_11 Q x0 h = (
  Q (.ret (V.tup [x0, (V.str []), (V.bool false)])) h) := by kernel_rfl
theorem S190 (Q : AEnd → AH → Prop) (a0 a1 : V) (h : AH) : vc Pg N190 B190 K190 (vcRet Pg R190 Q) (initEnv 0 [a0, a1]) h = (
  ACalls Pg 252 [a0, a1] h (aEnd (fun v1 h2 =>
  bindV (still (aBin Pg .geq 3 v1 (V.int .i64 0) true) h2) fun v3 h4 =>
  vcIf v3 (
  bindO (fstV (still (aSlice Pg h4 9 a0 none (some v1)) h4)) fun v5 =>
  bindO (fstV (aBuiltin Pg h4 .len [9] [a1])) fun v6 =>
  bindO (fstV (still (aBin Pg .add 3 v1 v6 false) h4)) fun v7 =>
  bindO (fstV (still (aSlice Pg h4 9 a0 (some v7) none) h4)) fun v8 =>
  Q (.ret (V.tup [v5, v8, (V.bool true)])) h4) (
  Meet (J190_11 Q a0 h4))) fun v h => Q (.panic v) h)) := by kernel_rfl
theorem C190 (Q : AEnd → AH → Prop) (a0 a1 : V) (h : AH) (c :
  ACalls Pg 252 [a0, a1] h (aEnd (fun v1 h2 =>
  bindV (still (aBin Pg .geq 3 v1 (V.int .i64 0) true) h2) fun v3 h4 =>
  vcIf v3 (
  bindO (fstV (still (aSlice Pg h4 9 a0 none (some v1)) h4)) fun v5 =>
  bindO (fstV (aBuiltin Pg h4 .len [9] [a1])) fun v6 =>
  bindO (fstV (still (aBin Pg .add 3 v1 v6 false) h4)) fun v7 =>
  bindO (fstV (still (aSlice Pg h4 9 a0 (some v7) none) h4)) fun v8 =>
  Q (.ret (V.tup [v5, v8, (V.bool true)])) h4) (
  Meet (J190_11 Q a0 h4))) fun v h => Q (.panic v) h)) : ACalls Pg 190 [a0, a1] h Q :=
  acalls_of_vc okP Tryz.func190 (show Tryz.f190.body = some B190 from by kernel_rfl) K190 (by rw [← S190 Q a0 a1 h] at c; exact c)

-- 252 internal/stringslite.Index
noncomputable def B252 : Code := (Tryz.f252.body).getD .skip
def R252 : List ResultVar := [.tmp 4]
abbrev N252 : Nat := 143
def K252 : KT := (.seq .leaf (.seq .leaf (.join (.one (.join (.reg [[0, 1, 5, 19, 22]]) (.two (.seq .leaf .leaf [4]) (.seq .leaf (.two (.seq .leaf .leaf [4]) (.seq .leaf (.two (.seq .leaf .leaf [4]) (.join (.reg [[0, 1, 5, 40, 43]]) (.two (.seq .leaf .leaf [4]) .leaf) [0, 1, 5, 36])) [0, 1, 5, 31])) [0, 1, 5, 24])) [0, 1, 5, 16])) (.seq .leaf (.seq .leaf (.seq .leaf (.seq .leaf (.seq .leaf (.join (.one (.loop (.join (.seq .leaf (.two .leaf .leaf) [0, 1, 5, 6, 7, 8, 9, 10, 59]) (.one (.join (.seq .leaf (.two (.seq .leaf (.join (.seq .leaf (.two (.seq .leaf .leaf [4]) .leaf) [0, 1, 5, 6, 7, 8, 9, 10, 11, 73]) .leaf [0, 1, 5, 6, 7, 8, 9, 10, 11]) [0, 1, 5, 6, 7, 8, 9, 10, 11]) .leaf) [0, 1, 5, 6, 7, 8, 9, 10, 64]) (.join (.join (.reg [[0, 1, 5, 6, 7, 8, 9, 10, 84, 92]]) (.two (.seq .leaf .leaf [4]) .leaf) [0, 1, 5, 6, 7, 8, 9, 10, 93]) (.seq .leaf (.seq .leaf (.join (.reg [[0, 1, 5, 6, 7, 8, 9, 10, 102, 106]]) (.two (.seq .leaf (.join (.seq .leaf (.two (.seq .leaf .leaf [4]) .leaf) [8, 12, 114]) (.seq .leaf .leaf [4]) []) [8, 12]) (.join (.reg [[0, 1, 5, 6, 7, 8, 9, 10, 121, 126], [0, 1, 5, 6, 7, 8, 9, 10, 128, 131]]) (.two (.seq .leaf (.join (.seq .leaf (.two (.seq .leaf .leaf [4]) .leaf) [8, 13, 139]) (.seq .leaf .leaf [4]) [8, 13]) [8, 13]) .leaf) [0, 1, 5, 6, 7, 8, 9, 10, 132])) [0, 1, 5, 6, 7, 8, 9, 10, 107]) [0, 1, 5, 6, 7, 8, 9, 10]) [0, 1, 5, 6, 7, 8, 9, 10]) [0, 1, 5, 6, 7, 8, 9, 10]) [0, 1, 5, 6, 7, 8, 9, 10])) [0, 1, 5, 6, 7, 8, 9, 10]) [0, 1, 5, 6, 7, 8, 9, 10])) (.seq .leaf .leaf [4]) []) [0, 1, 5, 6, 7, 8, 9, 10]) [0, 1, 5, 6, 7, 8, 9]) [0, 1, 5, 6, 7, 8]) [0, 1, 5, 6, 7]) [0, 1, 5, 6]) [0, 1, 5]) [0, 1, 5]) [0, 1])
def J252_111111110001011111011 (Q : AEnd → AH → Prop) (n : Nat) (h : AH) : Prop := vcAt Pg N252 B252 K252 [1, 1, 1, 1, 1, 1, 1, 1, 0, 0, 0, 1, 0, 1, 1, 1, 1, 1, 0, 1, 1] [n] (vcRet Pg R252 Q) [] h
def J252_11111111000101111111011 (Q : AEnd → AH → Prop) (n : Nat) (x8 x13 : V) (h : AH) : Prop := vcAt Pg N252 B252 K252 [1, 1, 1, 1, 1, 1, 1, 1, 0, 0, 0, 1, 0, 1, 1, 1, 1, 1, 1, 1, 0, 1, 1] [n] (vcRet Pg R252 Q) [(8, x8), (13, x13)] h
def J252_11111111000101111111 (Q : AEnd → AH → Prop) (n : Nat) (x0 x1 x5 x6 x7 x8 x9 x10 x132 : V) (h : AH) : Prop := vcAt Pg N252 B252 K252 [1, 1, 1, 1, 1, 1, 1, 1, 0, 0, 0, 1, 0, 1, 1, 1, 1, 1, 1, 1] [n] (vcRet Pg R252 Q) [(0, x0), (1, x1), (5, x5), (6, x6), (7, x7), (8, x8), (9, x9), (10, x10), (132, x132)] h
def G252_111111110001011111101004 (Q : AEnd → AH → Prop) (n : Nat) (x0 x1 x5 x6 x7 x8 x9 x10 x128 x131 : V) (h : AH) : Prop := segAt Pg N252 B252 K252 [1, 1, 1, 1, 1, 1, 1, 1, 0, 0, 0, 1, 0, 1, 1, 1, 1, 1, 1, 0] 4 2 [n] (vcRet Pg R252 Q) [(0, x0), (1, x1), (5, x5), (6, x6), (7, x7), (8, x8), (9, x9), (10, x10), (128, x128), (131, x131)] h
def G252_111111110001011111101002 (Q : AEnd → AH → Prop) (n : Nat) (x0 x1 x5 x6 x7 x8 x9 x10 x121 x126 : V) (h : AH) : Prop := segAt Pg N252 B252 K252 [1, 1, 1, 1, 1, 1, 1, 1, 0, 0, 0, 1, 0, 1, 1, 1, 1, 1, 1, 0] 2 1 [n] (vcRet Pg R252 Q) [(0, x0), (1, x1), (5, x5), (6, x6), (7, x7), (8, x8), (9, x9), (10, x10), (121, x121), (126, x126)] h
def J252_111111110001011111 (Q : AEnd → AH → Prop) (n : Nat) (x0 x1 x5 x6 x7 x8 x9 x10 x107 : V) (h : AH) : Prop := vcAt Pg N252 B252 K252 [1, 1, 1, 1, 1, 1, 1, 1, 0, 0, 0, 1, 0, 1, 1, 1, 1, 1] [n] (vcRet Pg R252 Q) [(0, x0), (1, x1), (5, x5), (6, x6), (7, x7), (8, x8), (9, x9), (10, x10), (107, x107)] h
def G252_1111111100010111101002 (Q : AEnd → AH → Prop) (n : Nat) (x0 x1 x5 x6 x7 x8 x9 x10 x102 x106 : V) (h : AH) : Prop := segAt Pg N252 B252 K252 [1, 1, 1, 1, 1, 1, 1, 1, 0, 0, 0, 1, 0, 1, 1, 1, 1, 0] 2 1 [n] (vcRet Pg R252 Q) [(0, x0), (1, x1), (5, x5), (6, x6), (7, x7), (8, x8), (9, x9), (10, x10), (102, x102), (106, x106)] h
def J252_111111110001011 (Q : AEnd → AH → Prop) (n : Nat) (x0 x1 x5 x6 x7 x8 x9 x10 : V) (h : AH) : Prop := vcAt Pg N252 B252 K252 [1, 1, 1, 1, 1, 1, 1, 1, 0, 0, 0, 1, 0, 1, 1] [n] (vcRet Pg R252 Q) [(0, x0), (1, x1), (5, x5), (6, x6), (7, x7), (8, x8), (9, x9), (10, x10)] h
def J252_1111111100010101 (Q : AEnd → AH → Prop) (n : Nat) (x0 x1 x5 x6 x7 x8 x9 x10 x93 : V) (h : AH) : Prop := vcAt Pg N252 B252 K252 [1, 1, 1, 1, 1, 1, 1, 1, 0, 0, 0, 1, 0, 1, 0, 1] [n] (vcRet Pg R252 Q) [(0, x0), (1, x1), (5, x5), (6, x6), (7, x7), (8, x8), (9, x9), (10, x10), (93, x93)] h
def G252_11111111000101001002 (Q : AEnd → AH → Prop) (n : Nat) (x0 x1 x5 x6 x7 x8 x9 x10 x84 x92 : V) (h : AH) : Prop := segAt Pg N252 B252 K252 [1, 1, 1, 1, 1, 1, 1, 1, 0, 0, 0, 1, 0, 1, 0, 0] 2 1 [n] (vcRet Pg R252 Q) [(0, x0), (1, x1), (5, x5), (6, x6), (7, x7), (8, x8), (9, x9), (10, x10), (84, x84), (92, x92)] h
def J252_11111111000101 (Q : AEnd → AH → Prop) (n : Nat) (x0 x1 x5 x6 x7 x8 x9 x10 : V) (h : AH) : Prop := vcAt Pg N252 B252 K252 [1, 1, 1, 1, 1, 1, 1, 1, 0, 0, 0, 1, 0, 1] [n] (vcRet Pg R252 Q) [(0, x0), (1, x1), (5, x5), (6, x6), (7, x7), (8, x8), (9, x9), (10, x10)] h
def J252_111111110001001011 (Q : AEnd → AH → Prop) (n : Nat) (x0 x1 x5 x6 x7 x8 x9 x10 x11 : V) (h : AH) : Prop := vcAt Pg N252 B252 K252 [1, 1, 1, 1, 1, 1, 1, 1, 0, 0, 0, 1, 0, 0, 1, 0, 1, 1] [n] (vcRet Pg R252 Q) [(0, x0), (1, x1), (5, x5), (6, x6), (7, x7), (8, x8), (9, x9), (10, x10), (11, x11)] h
def J252_111111110001 (Q : AEnd → AH → Prop) (n : Nat) (x0 x1 x5 x6 x7 x8 x9 x10 : V) (h : AH) : Prop := vcAt Pg N252 B252 K252 [1, 1, 1, 1, 1, 1, 1, 1, 0, 0, 0, 1] [n] (vcRet Pg R252 Q) [(0, x0), (1, x1), (5, x5), (6, x6), (7, x7), (8, x8), (9, x9), (10, x10)] h
def J252_111111111 (Q : AEnd → AH → Prop) (h : AH) : Prop := vcAt Pg N252 B252 K252 [1, 1, 1, 1, 1, 1, 1, 1, 1] [] (vcRet Pg R252 Q) [] h
def L252_1111111100 (Q : AEnd → AH → Prop) (n : Nat) (x0 x1 x5 x6 x7 x8 x9 x10 : V) (h : AH) : Prop := loopAt Pg N252 B252 K252 [1, 1, 1, 1, 1, 1, 1, 1, 0, 0] [] n (vcRet Pg R252 Q) [(0, x0), (1, x1), (5, x5), (6, x6), (7, x7), (8, x8), (9, x9), (10, x10)] h
def J252_111 (Q : AEnd → AH → Prop) (x0 x1 x5 : V) (h : AH) : Prop := vcAt Pg N252 B252 K252 [1, 1, 1] [] (vcRet Pg R252 Q) [(0, x0), (1, x1), (5, x5)] h
def J252_11001111111 (Q : AEnd → AH → Prop) (x0 x1 x5 x36 : V) (h : AH) : Prop := vcAt Pg N252 B252 K252 [1, 1, 0, 0, 1, 1, 1, 1, 1, 1, 1] [] (vcRet Pg R252 Q) [(0, x0), (1, x1), (5, x5), (36, x36)] h
def G252_110011111101002 (Q : AEnd → AH → Prop) (x0 x1 x5 x40 x43 : V) (h : AH) : Prop := segAt Pg N252 B252 K252 [1, 1, 0, 0, 1, 1, 1, 1, 1, 1, 0] 2 1 [] (vcRet Pg R252 Q) [(0, x0), (1, x1), (5, x5), (40, x40), (43, x43)] h
def J252_11001 (Q : AEnd → AH → Prop) (x0 x1 x5 x16 : V) (h : AH) : Prop := vcAt Pg N252 B252 K252 [1, 1, 0, 0, 1] [] (vcRet Pg R252 Q) [(0, x0), (1, x1), (5, x5), (16, x16)] h
def G252_110001002 (Q : AEnd → AH → Prop) (x0 x1 x5 x19 x22 : V) (h : AH) : Prop := segAt Pg N252 B252 K252 [1, 1, 0, 0, 0] 2 1 [] (vcRet Pg R252 Q) [(0, x0), (1, x1), (5, x5), (19, x19), (22, x22)] h
theorem J252_111111110001011111011_eq (Q : AEnd → AH → Prop) (n : Nat) (h : AH) : J252_111111110001011111011 Q n h = (
  Q (.ret (V.int .i64 (-1))) h) := by kernel_rfl
theorem J252_11111111000101111111011_eq (Q : AEnd → AH → Prop) (n : Nat) (x8 x13 : V) (h : AH) : J252_11111111000101111111011 Q n x8 x13 h = (
  bindV (still (aBin Pg .add 3 x8 x13 false) h) fun v93 h94 =>
  Q (.ret v93) h94) := by kernel_rfl
theorem J252_11111111000101111111_eq (Q : AEnd → AH → Prop) (n : Nat) (x0 x1 x5 x6 x7 x8 x9 x10 x132 : V) (h : AH) : J252_11111111000101111111 Q n x0 x1 x5 x6 x7 x8 x9 x10 x132 h = (
  vcIf x132 (
  bindV (still (aSlice Pg h 9 x0 (some x8) none) h) fun v87 h88 =>
  ACalls Pg 292 [v87, x1] h88 (aEnd (fun v89 h90 =>
  bindV (still (aBin Pg .lss 3 v89 (V.int .i64 0) true) h90) fun v91 h92 =>
  vcIf v91 (
  Q (.ret (V.int .i64 (-1))) h92) (
  Meet (J252_11111111000101111111011 Q n x8 v89 h92))) fun v h => Q (.panic v) h)) (
  Meet (L252_1111111100 Q n x0 x1 x5 x6 x7 x8 x9 x10 h))) := by kernel_rfl
theorem G252_111111110001011111101004_eq (Q : AEnd → AH → Prop) (n : Nat) (x0 x1 x5 x6 x7 x8 x9 x10 x128 x131 : V) (h : AH) : G252_111111110001011111101004 Q n x0 x1 x5 x6 x7 x8 x9 x10 x128 x131 h = (
  bindV (aPick x128 x131 (V.bool false) h) fun v85 h86 =>
  Meet (J252_11111111000101111111 Q n x0 x1 x5 x6 x7 x8 x9 x10 v85 h86)) := by kernel_rfl
theorem G252_111111110001011111101002_eq (Q : AEnd → AH → Prop) (n : Nat) (x0 x1 x5 x6 x7 x8 x9 x10 x121 x126 : V) (h : AH) : G252_111111110001011111101002 Q n x0 x1 x5 x6 x7 x8 x9 x10 x121 x126 h = (
  bindV (aPick x121 x126 (V.bool false) h) fun v83 h84 =>
  vcG v83 true (
  bindV (still (aBin Pg .lss 3 x8 x9 false) h84) fun v95 h96 =>
  Meet (G252_111111110001011111101004 Q n x0 x1 x5 x6 x7 x8 x9 x10 v83 v95 h96)) (Meet (G252_111111110001011111101004 Q n x0 x1 x5 x6 x7 x8 x9 x10 v83 hole h84))) := by kernel_rfl
theorem G252_1111111100010111101002_eq (Q : AEnd → AH → Prop) (n : Nat) (x0 x1 x5 x6 x7 x8 x9 x10 x102 x106 : V) (h : AH) : G252_1111111100010111101002 Q n x0 x1 x5 x6 x7 x8 x9 x10 x102 x106 h = (
  bindV (aPick x102 x106 (V.bool false) h) fun v69 h70 =>
  Meet (J252_111111110001011111 Q n x0 x1 x5 x6 x7 x8 x9 x10 v69 h70)) := by kernel_rfl
theorem J252_111111110001011_eq (Q : AEnd → AH → Prop) (n : Nat) (x0 x1 x5 x6 x7 x8 x9 x10 : V) (h : AH) : J252_111111110001011 Q n x0 x1 x5 x6 x7 x8 x9 x10 h = (
  bindV (still (aBin Pg .add 3 x8 (V.int .i64 1) true) h) fun v61 h62 =>
  bindV (still (aBin Pg .add 3 x10 (V.int .i64 1) true) h62) fun v63 h64 =>
  bindV (aLoadV Pg h64 3 V.und) fun v65 h66 =>
  bindV (still (aBin Pg .leq 3 x5 v65 false) h66) fun v67 h68 =>
  vcG v67 true (
  ACalls Pg 291 [v61] h68 (aEnd (fun v103 h104 =>
  bindV (still (aBin Pg .gtr 3 v63 v103 false) h104) fun v105 h106 =>
  Meet (G252_1111111100010111101002 Q n x0 x1 x5 x6 x7 v61 x9 v63 v67 v105 h106)) fun v h => Q (.panic v) h)) (Meet (G252_1111111100010111101002 Q n x0 x1 x5 x6 x7 v61 x9 v63 v67 hole h68))) := by kernel_rfl
theorem J252_1111111100010101_eq (Q : AEnd → AH → Prop) (n : Nat) (x0 x1 x5 x6 x7 x8 x9 x10 x93 : V) (h : AH) : J252_1111111100010101 Q n x0 x1 x5 x6 x7 x8 x9 x10 x93 h = (
  vcIf x93 (
  Q (.ret x8) h) (
  Meet (J252_111111110001011 Q n x0 x1 x5 x6 x7 x8 x9 x10 h))) := by kernel_rfl
theorem G252_11111111000101001002_eq (Q : AEnd → AH → Prop) (n : Nat) (x0 x1 x5 x6 x7 x8 x9 x10 x84 x92 : V) (h : AH) : G252_11111111000101001002 Q n x0 x1 x5 x6 x7 x8 x9 x10 x84 x92 h = (
  bindV (aPick x84 x92 (V.bool false) h) fun v59 h60 =>
  Meet (J252_1111111100010101 Q n x0 x1 x5 x6 x7 x8 x9 x10 v59 h60)) := by kernel_rfl
theorem J252_11111111000101_eq (Q : AEnd → AH → Prop) (n : Nat) (x0 x1 x5 x6 x7 x8 x9 x10 : V) (h : AH) : J252_11111111000101 Q n x0 x1 x5 x6 x7 x8 x9 x10 h = (
  bindV (still (aBin Pg .add 3 x8 (V.int .i64 1) true) h) fun v53 h54 =>
  bindV (still (aIndex Pg 9 x0 v53) h54) fun v55 h56 =>
  bindV (still (aBin Pg .eql 5 v55 x7 false) h56) fun v57 h58 =>
  vcG v57 true (
  bindV (still (aBin Pg .add 3 x8 x5 false) h58) fun v107 h108 =>
  bindV (still (aSlice Pg h108 9 x0 (some x8) (some v107)) h108) fun v109 h110 =>
  bindV (still (aBin Pg .eql 9 v109 x1 false) h110) fun v111 h112 =>
  Meet (G252_11111111000101001002 Q n x0 x1 x5 x6 x7 x8 x9 x10 v57 v111 h112)) (Meet (G252_11111111000101001002 Q n x0 x1 x5 x6 x7 x8 x9 x10 v57 hole h58))) := by kernel_rfl
theorem J252_111111110001001011_eq (Q : AEnd → AH → Prop) (n : Nat) (x0 x1 x5 x6 x7 x8 x9 x10 x11 : V) (h : AH) : J252_111111110001001011 Q n x0 x1 x5 x6 x7 x8 x9 x10 x11 h = (
  bindV (still (aBin Pg .add 3 x11 (V.int .i64 1) true) h) fun v49 h50 =>
  bindV (still (aBin Pg .add 3 x8 v49 false) h50) fun v51 h52 =>
  Meet (J252_11111111000101 Q n x0 x1 x5 x6 x7 v51 x9 x10 h52)) := by kernel_rfl
theorem J252_111111110001_eq (Q : AEnd → AH → Prop) (n : Nat) (x0 x1 x5 x6 x7 x8 x9 x10 : V) (h : AH) : J252_111111110001 Q n x0 x1 x5 x6 x7 x8 x9 x10 h = (
  bindV (still (aIndex Pg 9 x0 x8) h) fun v37 h38 =>
  bindV (still (aBin Pg .neq 5 v37 x6 false) h38) fun v39 h40 =>
  vcIf v39 (
  bindV (still (aBin Pg .add 3 x8 (V.int .i64 1) true) h40) fun v41 h42 =>
  bindV (still (aSlice Pg h42 9 x0 (some v41) (some x9)) h42) fun v43 h44 =>
  ACalls Pg 289 [v43, x6] h44 (aEnd (fun v45 h46 =>
  bindV (still (aBin Pg .lss 3 v45 (V.int .i64 0) true) h46) fun v47 h48 =>
  vcIf v47 (
  Q (.ret (V.int .i64 (-1))) h48) (
  Meet (J252_111111110001001011 Q n x0 x1 x5 x6 x7 x8 x9 x10 v45 h48))) fun v h => Q (.panic v) h)) (
  Meet (J252_11111111000101 Q n x0 x1 x5 x6 x7 x8 x9 x10 h40))) := by kernel_rfl
theorem J252_111111111_eq (Q : AEnd → AH → Prop) (h : AH) : J252_111111111 Q h = (
  Q (.ret (V.int .i64 (-1))) h) := by kernel_rfl
theorem L252_1111111100_eq (Q : AEnd → AH → Prop) (n : Nat) (x0 x1 x5 x6 x7 x8 x9 x10 : V) (h : AH) : L252_1111111100 Q (n + 1) x0 x1 x5 x6 x7 x8 x9 x10 h = (
  bindV (still (aBin Pg .lss 3 x8 x9 false) h) fun v35 h36 =>
  vcIf v35 (
  Meet (J252_111111110001 Q n x0 x1 x5 x6 x7 x8 x9 x10 h36)) (
  Meet (J252_111111111 Q h36))) := by kernel_rfl
theorem J252_111_eq (Q : AEnd → AH → Prop) (x0 x1 x5 : V) (h : AH) : J252_111 Q x0 x1 x5 h = (
  bindV (still (aIndex Pg 9 x1 (V.int .i64 0)) h) fun v25 h26 =>
  bindV (still (aIndex Pg 9 x1 (V.int .i64 1)) h26) fun v27 h28 =>
  bindV (aBuiltin Pg h28 .len [9] [x0]) fun v29 h30 =>
  bindV (still (aBin Pg .sub 3 v29 x5 false) h30) fun v31 h32 =>
  bindV (still (aBin Pg .add 3 v31 (V.int .i64 1) true) h32) fun v33 h34 =>
  ∃ n, Meet (L252_1111111100 Q n x0 x1 x5 v25 v27 (V.int .i64 0) v33 (V.int .i64 0) h34)) := by kernel_rfl
theorem G252_110011111101002_eq (Q : AEnd → AH → Prop) (x0 x1 x5 x40 x43 : V) (h : AH) : G252_110011111101002 Q x0 x1 x5 x40 x43 h = (
  bindV (aPick x40 x43 (V.bool false) h) fun v21 h22 =>
  Meet (J252_11001111111 Q x0 x1 x5 v21 h22)) := by kernel_rfl
theorem J252_11001_eq (Q : AEnd → AH → Prop) (x0 x1 x5 x16 : V) (h : AH) : J252_11001 Q x0 x1 x5 x16 h = (
  vcIf x16 (
  Q (.ret (V.int .i64 0)) h) (
  bindV (still (aBin Pg .eql 3 x5 (V.int .i64 1) true) h) fun v7 h8 =>
  vcIf v7 (
  bindV (still (aIndex Pg 9 x1 (V.int .i64 0)) h8) fun v9 h10 =>
  ACalls Pg 289 [x0, v9] h10 (aEnd (fun v11 h12 =>
  Q (.ret v11) h12) fun v h => Q (.panic v) h)) (
  bindV (aBuiltin Pg h8 .len [9] [x0]) fun v13 h14 =>
  bindV (still (aBin Pg .geq 3 x5 v13 false) h14) fun v15 h16 =>
  vcIf v15 (
  Q (.ret (V.int .i64 (-1))) h16) (
  bindV (aLoadV Pg h16 3 V.und) fun v17 h18 =>
  bindV (still (aBin Pg .leq 3 x5 v17 false) h18) fun v19 h20 =>
  vcG v19 true (
  bindV (aBuiltin Pg h20 .len [9] [x0]) fun v113 h114 =>
  bindV (still (aBin Pg .leq 3 v113 (V.int .i64 64) true) h114) fun v115 h116 =>
  Meet (G252_110011111101002 Q x0 x1 x5 v19 v115 h116)) (Meet (G252_110011111101002 Q x0 x1 x5 v19 hole h20)))))) := by kernel_rfl
theorem G252_110001002_eq (Q : AEnd → AH → Prop) (x0 x1 x5 x19 x22 : V) (h : AH) : G252_110001002 Q x0 x1 x5 x19 x22 h = (
  bindV (aPick x19 (V.bool true) x22 h) fun v5 h6 =>
  Meet (J252_11001 Q x0 x1 x5 v5 h6)) := by kernel_rfl
theorem S252 (Q : AEnd → AH → Prop) (a0 a1 : V) (h : AH) : vc Pg N252 B252 K252 (vcRet Pg R252 Q) (initEnv 0 [a0, a1]) h = (
  bindV (aBuiltin Pg h .len [9] [a1]) fun v1 h2 =>
  bindV (still (aBin Pg .eql 3 v1 (V.int .i64 0) true) h2) fun v3 h4 =>
  vcG v3 false (
  bindV (still (aBin Pg .eql 9 a1 a0 false) h4) fun v117 h118 =>
  Meet (G252_110001002 Q a0 a1 v1 v3 v117 h118)) (Meet (G252_110001002 Q a0 a1 v1 v3 hole h4))) := by kernel_rfl
theorem C252 (Q : AEnd → AH → Prop) (a0 a1 : V) (h : AH) (c :
  bindV (aBuiltin Pg h .len [9] [a1]) fun v1 h2 =>
  bindV (still (aBin Pg .eql 3 v1 (V.int .i64 0) true) h2) fun v3 h4 =>
  vcG v3 false (
  bindV (still (aBin Pg .eql 9 a1 a0 false) h4) fun v117 h118 =>
  Meet (G252_110001002 Q a0 a1 v1 v3 v117 h118)) (Meet (G252_110001002 Q a0 a1 v1 v3 hole h4))) : ACalls Pg 252 [a0, a1] h Q :=
  acalls_of_vc okP Tryz.func252 (show Tryz.f252.body = some B252 from by kernel_rfl) K252 (by rw [← S252 Q a0 a1 h] at c; exact c)

-- 253 strings.IndexByte
noncomputable def B253 : Code := (Tryz.f253.body).getD .skip
def R253 : List ResultVar := [.tmp 4]
abbrev N253 : Nat := 8
def K253 : KT := (.seq .leaf (.seq .leaf .leaf [4]) [0, 1])
theorem S253 (Q : AEnd → AH → Prop) (a0 a1 : V) (h : AH) : vc Pg N253 B253 K253 (vcRet Pg R253 Q) (initEnv 0 [a0, a1]) h = (
  ACalls Pg 289 [a0, a1] h (aEnd (fun v1 h2 =>
  Q (.ret v1) h2) fun v h => Q (.panic v) h)) := by kernel_rfl
theorem C253 (Q : AEnd → AH → Prop) (a0 a1 : V) (h : AH) (c :
  ACalls Pg 289 [a0, a1] h (aEnd (fun v1 h2 =>
  Q (.ret v1) h2) fun v h => Q (.panic v) h)) : ACalls Pg 253 [a0, a1] h Q :=
  acalls_of_vc okP Tryz.func253 (show Tryz.f253.body = some B253 from by kernel_rfl) K253 (by rw [← S253 Q a0 a1 h] at c; exact c)

end Go.Proofs.YtcglbpjpbjaecaaGreat.Sh
/- strings.Cut at one byte. -/
namespace Go.Proofs.YtcglbpjpbjaecaaGreat.Sj
open Go Go.Ab Go.RowKit Go.Proofs
open Go.Proofs.YtcglbpjpbjaecaaGreat.Ru (Pg okP)
set_option maxRecDepth 100000
set_option linter.unusedVariables false
def ixRen : Go.Shelf.Ren := ⟨fun | 217 => 289 | 266 => 301 | n => n, fun | 9 => 9 | 5 => 5 | 3 => 3 | n => n, fun n => n⟩
theorem ixLay : Lays.n217 Tryz.prog ixRen := {
  mixed := by kernel_rfl,
  f217 := Tryz.func289.trans (congrArg some (by kernel_rfl)),
  f266 := Tryz.func301.trans (congrArg some (by kernel_rfl)),
  t3 := Tryz.underlying3,
  a3 := Tryz.isAgg3,
  z3 := Tryz.sizeOf3,
  v3 := Tryz.zeroValue3,
  t5 := Tryz.underlying5,
  a5 := Tryz.isAgg5,
  z5 := Tryz.sizeOf5,
  v5 := Tryz.zeroValue5,
  t9 := Tryz.underlying9,
  a9 := Tryz.isAgg9,
  z9 := Tryz.sizeOf9,
  v9 := Tryz.zeroValue9 }

/-- Where a byte stands first; -1: nowhere. -/
theorem idxP (s : List UInt8) (c : Int) (h : AH) : ACalls Pg 289 [.str s, .int .u8 c] h (pureE (.int .i64 (Go.Lib.indexByte s c.toNat.toUInt8)) h) := by
  intro B ι W vs F r
  obtain ⟨v0, vs0, h0, r0, rfl⟩ := relL_cons_iff.1 r
  obtain ⟨v1, vs1, h1, r1, rfl⟩ := relL_cons_iff.1 r0
  simp only [relL] at r1
  subst r1
  obtain rfl := rel_str h0
  obtain rfl := rel_int h1
  refine Calls.mono (Any.stringslite_IndexByte ixLay ⟨s.toArray⟩ c W) ?_
  rintro e w' ⟨rfl, rfl⟩
  exact ⟨ι, h, .ret _, Names.le_refl _, F, mk_int _ _, rfl, rfl⟩
/-- A text cut at a byte's first place. -/
def cutAt (c : UInt8) : List UInt8 → List UInt8 × List UInt8 × Bool
  | [] => ([], [], false)
  | b :: s => if b = c then ([], s, true) else (b :: (cutAt c s).1, (cutAt c s).2.1, (cutAt c s).2.2)
theorem cut_idx (c : UInt8) : ∀ s : List UInt8, (Go.Lib.indexByte s c = -1 ∧ cutAt c s = (s, [], false)) ∨ ∃ i : Nat, Go.Lib.indexByte s c = i ∧ i < s.length ∧ cutAt c s = (s.take i, s.drop (i + 1), true)
  | [] => .inl ⟨rfl, rfl⟩
  | b :: s => by
    by_cases hb : b = c
    · subst hb
      exact .inr ⟨0, by simp [Go.Lib.indexByte], by simp, by simp [cutAt]⟩
    · rcases cut_idx c s with ⟨h1, h2⟩ | ⟨i, h1, h2, h3⟩
      · exact .inl ⟨by simp [Go.Lib.indexByte, hb, h1], by simp [cutAt, hb, h2]⟩
      · have hne : ¬ ((i : Int) = -1) := by omega
        exact .inr ⟨i + 1, by simp [Go.Lib.indexByte, hb, h1, hne], by simp; omega, by simp [cutAt, hb, h3]⟩
theorem byteN (c : UInt8) : ((c.toNat : Nat) : Int).toNat.toUInt8 = c := by simp
section
open Go.Proofs.YtcglbpjpbjaecaaGreat.Sh
theorem idx1 (s : List UInt8) (c : UInt8) (h : AH) : ACalls Pg 252 [.str s, .str [c]] h (pureE (.int .i64 (Go.Lib.indexByte s c)) h) := by
  refine C252 _ _ _ _ ?_
  refine bindV_mk (len_str (by kernel_rfl)) ?_
  refine bindS_mk (b_eql_f (by simp)) ?_
  refine g_ff ?_
  refine bindS_mk (t_eql) ?_
  refine Meet.of (cast_p (G252_110001002_eq _ _ _ _ _ _ _) ?_)
  refine bindV_mk p_f ?_
  refine Meet.of (cast_p (J252_11001_eq _ _ _ _ _ _) ?_)
  refine i_split (fun cc => ?_) (fun cc => ?_)
  · replace cc := eq_of_beq cc
    subst cc
    exact ⟨by simp [Go.Lib.indexByte], rfl⟩
  · replace cc := ne_of_beq_false cc
    refine bindS_mk (b_eql_t (by simp)) ?_
    refine i_t ?_
    refine bindS_mk (ixS (b := c) (by kernel_rfl) (by omega) rfl) ?_
    refine callS (idxP s c.toNat _) ?_
    exact ⟨by simp, rfl⟩
theorem cut190 (s : List UInt8) (c : UInt8) (hs : s.length ≤ 4611686018427387904) (h : AH) : ACalls Pg 190 [.str s, .str [c]] h (pureE (.tup [.str (cutAt c s).1, .str (cutAt c s).2.1, .bool (cutAt c s).2.2]) h) := by
  rcases cut_idx c s with ⟨hi, hc⟩ | ⟨i, hi, hl, hc⟩
  · rw [hc]
    refine C190 _ _ _ _ (callS (hi ▸ idx1 s c h) ?_)
    refine bindS_mk (b_geq_f (by omega)) (i_f (Meet.of ?_))
    rw [J190_11_eq]
    exact ⟨rfl, rfl⟩
  · rw [hc]
    refine C190 _ _ _ _ (callS (hi ▸ idx1 s c h) ?_)
    refine bindS_mk (b_geq_t (by omega)) (i_t ?_)
    refine bindSO_mk (sl_str (by kernel_rfl) rfl (bnd_i (by omega)) (by omega) (by omega)) ?_
    refine bindVO_mk (len_str (by kernel_rfl)) ?_
    refine bindSO_mk (w_add (wrap_i64 (by simp only [List.length_cons, List.length_nil]; omega) (by simp only [List.length_cons, List.length_nil]; omega))) ?_
    refine bindSO_mk (sl_str (by kernel_rfl) (bnd_i (by omega)) rfl (by simp only [List.length_cons, List.length_nil]; omega) (by omega)) ?_
    refine ⟨?_, rfl⟩
    have e1 : ((i : Int) + (([c].length : Nat) : Int)).toNat = i + 1 := by simp
    rw [e1]
    simp only [Int.toNat_natCast, List.drop_zero, Nat.sub_zero]
    rw [List.take_of_length_le (l := s.drop (i + 1)) (by simp)]
theorem cutP (s : List UInt8) (c : UInt8) (hs : s.length ≤ 4611686018427387904) (h : AH) : ACalls Pg 111 [.str s, .str [c]] h (pureE (.tup [.str (cutAt c s).1, .str (cutAt c s).2.1, .bool (cutAt c s).2.2]) h) := by
  refine C111 _ _ _ _ (callS (cut190 s c hs h) ?_)
  refine bindS_mk (show aExtract _ _ = some _ from rfl) ?_
  refine bindS_mk (show aExtract _ _ = some _ from rfl) ?_
  refine bindS_mk (show aExtract _ _ = some _ from rfl) ?_
  exact ⟨rfl, rfl⟩
theorem idxB (s : List UInt8) (c : UInt8) (h : AH) : ACalls Pg 253 [.str s, .int .u8 c.toNat] h (pureE (.int .i64 (Go.Lib.indexByte s c)) h) := by
  have := idxP s c.toNat h
  rw [byteN] at this
  exact C253 _ _ _ _ (callS this ⟨rfl, rfl⟩)
end
end Go.Proofs.YtcglbpjpbjaecaaGreat.Sj
/- strings.Builder's String at a row that begins anywhere. -/
namespace Go.Proofs.YtcglbpjpbjaecaaGreat.Sj
open Go Go.Ab Go.RowKit Go.Proofs
open Go.Proofs.YtcglbpjpbjaecaaGreat.Ru (Pg okP)
set_option maxRecDepth 100000
set_option linter.unusedVariables false
section
variable {P : Program} (w : World)
theorem lies_bytes {e : TypeId} (hc : P.cellsOf e = 1) (count o n : Nat) (hn : o + n ≤ count) : liesAt P P.depth e count o e n = true := by
  have hd : P.depth = (2 * (P.types.size + Made.depth) + 1) + 1 := rfl
  rw [hd]
  simp only [liesAt, Bool.or_eq_true]
  left
  rw [hd]
  simp [Go.rowAt, hc, hn, sameLayout, Nat.mod_one]
theorem uStr (pt it ty e : TypeId) (hp : P.underlying pt = some (.pointer e)) (hc : P.cellsOf e = 1) (g o cells : Nat) (hsh : w.shape? g = some (e, cells)) (l : List UInt8) (h0 : l ≠ []) (hn : o + l.length ≤ cells) (h63 : l.length ≤ 9223372036854775807)
    (hcell : ∀ j x, l[j]? = some x → w.cell? ((⟨g, o, none⟩ : Addr).add j) = some (.int .u8 x.toNat)) :
    (Builtin.unsafeString_ #[pt, it] ty #[.pointer (some ⟨g, o, none⟩), .int .i64 l.length]).run P w = .ok (.string ⟨l.toArray⟩) (w.freeze ⟨g, o, none⟩ l.length) := by
  have hl : l.length ≠ 0 := by simpa using h0
  have hlb := Lib.run_loadBytes (P := P) w l ⟨g, o, none⟩ .empty hcell
  have hlies := lies_bytes (P := P) hc (cells / P.cellsOf e) o l.length (by rw [hc]; simpa using hn)
  have h63' : ¬ (9223372036854775807 : Int) < (l.length : Int) := by omega
  have hdef : Builtin.unsafeString_ #[pt, it] ty #[.pointer (some ⟨g, o, none⟩), .int .i64 l.length] =
      (do
        let n ← asInt (.int .i64 l.length)
        if n < 0 then runtimePanic (.error "unsafe.String: len out of range")
        if n > IntKind.i64.max then unsupported (.unsafePointer "String: a length above the largest int")
        if n = 0 then pure (.string .empty)
        else if ← variablesAt ⟨g, o, none⟩ (← elemOf pt) n.toNat then do
          let s ← loadBytes ⟨g, o, none⟩ .empty n.toNat
          freeze ⟨g, o, none⟩ n.toNat
          pure (.string s)
        else unsupported (.unsafePointer "String: not so many bytes at ptr")) := rfl
  rw [hdef]
  have hmax : IntKind.i64.max = 9223372036854775807 := rfl
  have hneg : ¬ (l.length : Int) < 0 := by omega
  simp [asInt, asIntOf, hmax, h63', hneg, hl, variablesAt, hsh, elemOf, run_underlying hp, hlies, hlb]
end

theorem joLay169 : Lays.n169 Tryz.prog joRen := { joLay with }
theorem joLay240 : Lays.n240 Tryz.prog joRen := { joLay with }
set_option maxHeartbeats 2000000 in
theorem strAt {P : Program} {ρ : Go.Shelf.Ren} (L : Lays.n169 P ρ) (X : Builder.Extra P ρ) (b g o cap : Nat) (p : Value) (cur : Array Value) (fr fr2 : Nat × Nat) (l : List UInt8) (w : World) (hbk : w.heap[b]? = some (.cells #[p, .slice (some ⟨g, o, none⟩) l.length cap] (ρ.t 72) fr))
    (hg : w.heap[g]? = some (.cells cur (ρ.t 5) fr2)) (h0 : l ≠ []) (hc : cap ≠ 0) (hn : o + l.length ≤ cur.size) (h63 : l.length ≤ 9223372036854775807) (hcell : ∀ j x, l[j]? = some x → w.cell? ((⟨g, o, none⟩ : Addr).add j) = some (.int .u8 x.toNat)) :
    Calls P (ρ.f 169) #[.pointer (some ⟨b, 0, none⟩)] w fun e w' => e = .returned (.string ⟨l.toArray⟩) ∧ w' = w.drew.freeze ⟨g, o, none⟩ l.length := by
  have c1 : w.drew.cell? ⟨b, 1, none⟩ = some (.slice (some ⟨g, o, none⟩) l.length cap) := by
    have : w.drew.heap[b]? = some (.cells #[p, .slice (some ⟨g, o, none⟩) l.length cap] (ρ.t 72) fr) := hbk
    rw [Lib.cell_of_heap this]; rfl
  have hSD : (Builtin.unsafeSliceData_ #[(ρ.t 37)] (ρ.t 127) #[.slice (some ⟨g, o, none⟩) l.length cap]).run P w.drew = .ok (.pointer (some ⟨g, o, none⟩)) w.drew :=
    Lib.run_unsafeSliceData_row _ _ _ _ _ _ hc
  have hUS : (Builtin.unsafeString_ #[(ρ.t 127), (ρ.t 3)] (ρ.t 9) #[.pointer (some ⟨g, o, none⟩), .int .i64 l.length]).run P w.drew = .ok (.string ⟨l.toArray⟩) (w.drew.freeze ⟨g, o, none⟩ l.length) := by
    refine uStr w.drew (ρ.t 127) (ρ.t 3) (ρ.t 9) (ρ.t 5) L.t127 X.cellsByte g o cur.size (by have hg' : w.drew.heap[g]? = some (.cells cur (ρ.t 5) fr2) := hg; simp [World.shape?, hg']) l h0 hn h63 ?_
    intro j x hx
    exact hcell j x hx
  have mixed := L.mixed
  have t72 := L.t72; have a72 := L.a72; have z72 := L.z72; have v72 := L.v72; have u72 := run_underlying L.t72
  have t70 := L.t70; have a70 := L.a70; have z70 := L.z70; have v70 := L.v70; have u70 := run_underlying L.t70
  have t37 := L.t37; have a37 := L.a37; have z37 := L.z37; have v37 := L.v37; have u37 := run_underlying L.t37
  have t127 := L.t127; have a127 := L.a127; have z127 := L.z127; have v127 := L.v127; have u127 := run_underlying L.t127
  have t3 := L.t3; have a3 := L.a3; have z3 := L.z3; have v3 := L.v3; have u3 := run_underlying L.t3
  have t9 := L.t9; have a9 := L.a9; have z9 := L.z9; have v9 := L.v9; have u9 := run_underlying L.t9
  have t5 := X.t5; have a5 := X.a5; have z5 := X.z5; have v5 := X.v5; have u5 := run_underlying X.t5
  go_enter L.f169, Body.n169_ntmps ρ
  go_wp2
  go_region_o
  all_goals (go_wp2; go_ret; exact ⟨rfl, rfl⟩)
set_option maxHeartbeats 2000000 in
theorem strNil {P : Program} {ρ : Go.Shelf.Ren} (L : Lays.n169 P ρ) (X : Builder.Extra P ρ) (b : Nat) (p : Value) (fr : Nat × Nat) (w : World) (hbk : w.heap[b]? = some (.cells #[p, .slice none 0 0] (ρ.t 72) fr)) :
    Calls P (ρ.f 169) #[.pointer (some ⟨b, 0, none⟩)] w fun e w' => e = .returned (.string ⟨#[]⟩) ∧ w' = w.drew := by
  have c1 : w.drew.cell? ⟨b, 1, none⟩ = some (.slice none 0 0) := by
    have : w.drew.heap[b]? = some (.cells #[p, .slice none 0 0] (ρ.t 72) fr) := hbk
    rw [Lib.cell_of_heap this]; rfl
  have hSD : (Builtin.unsafeSliceData_ #[(ρ.t 37)] (ρ.t 127) #[.slice none 0 0]).run P w.drew = .ok (.pointer none) w.drew := Lib.run_unsafeSliceData_nil _ _ _ _ _
  have hUS : (Builtin.unsafeString_ #[(ρ.t 127), (ρ.t 3)] (ρ.t 9) #[.pointer none, .int .i64 0]).run P w.drew = .ok (.string .empty) w.drew := Lib.run_unsafeString_none _ _ _ _ _
  have mixed := L.mixed
  have t72 := L.t72; have a72 := L.a72; have z72 := L.z72; have v72 := L.v72; have u72 := run_underlying L.t72
  have t70 := L.t70; have a70 := L.a70; have z70 := L.z70; have v70 := L.v70; have u70 := run_underlying L.t70
  have t37 := L.t37; have a37 := L.a37; have z37 := L.z37; have v37 := L.v37; have u37 := run_underlying L.t37
  have t127 := L.t127; have a127 := L.a127; have z127 := L.z127; have v127 := L.v127; have u127 := run_underlying L.t127
  have t3 := L.t3; have a3 := L.a3; have z3 := L.z3; have v3 := L.v3; have u3 := run_underlying L.t3
  have t9 := L.t9; have a9 := L.a9; have z9 := L.z9; have v9 := L.v9; have u9 := run_underlying L.t9
  have t5 := X.t5; have a5 := X.a5; have z5 := X.z5; have v5 := X.v5; have u5 := run_underlying X.t5
  go_enter L.f169, Body.n169_ntmps ρ
  go_wp2
  go_region_o
  all_goals (go_wp2; go_ret; exact ⟨rfl, rfl⟩)
end Go.Proofs.YtcglbpjpbjaecaaGreat.Sj
namespace Go.Proofs.YtcglbpjpbjaecaaGreat.Sh
open Go Go.Ab Go.RowKit
open Go.Proofs.YtcglbpjpbjaecaaGreat.Ru (Pg okP)
set_option maxRecDepth 100000
set_option linter.unusedVariables false
-- 9 varve/varvelaw28.TaleTells
noncomputable def B9 : Code := (Tryz.f9.body).getD .skip
def R9 : List ResultVar := [.tmp 2]
abbrev N9 : Nat := 11
def K9 : KT := (.seq .leaf (.join (.reg [[8, 9]]) .leaf [2]) [1])
def J9_11 (Q : AEnd → AH → Prop) (x2 : V) (h : AH) : Prop := vcAt Pg N9 B9 K9 [1, 1] [] (vcRet Pg R9 Q) [(2, x2)] h
def G9_101002 (Q : AEnd → AH → Prop) (x8 x9 : V) (h : AH) : Prop := segAtD Pg N9 B9 K9 [1, 0] 2 1 7 [] (vcRet Pg R9 Q) [(8, x8), (9, x9)] h
theorem J9_11_eq (Q : AEnd → AH → Prop) (x2 : V) (h : AH) : J9_11 Q x2 h = (
  Q (.ret x2) h) := by kernel_rfl
theorem G9_101002_eq (Q : AEnd → AH → Prop) (x8 x9 : V) (h : AH) : G9_101002 Q x8 x9 h = (
  bindO (fstV (aPick x8 x9 (V.bool false) h)) fun v8 =>
  Meet (J9_11 Q v8 h)) := by kernel_rfl
theorem S9 (Q : AEnd → AH → Prop) (a0 : V) (h : AH) : vc Pg N9 B9 K9 (vcRet Pg R9 Q) (initEnv 0 [a0]) h = (
  bindV (aNew Pg h 94 a0) fun v1 h2 =>
  bindO (fstV (aLoadV Pg h2 94 v1)) fun v3 =>
  ∃ v4, ACalls Pg 47 [v3] h2 (pureE v4 h2) ∧ (
  bindO (fstV (aLoadV Pg h2 94 v1)) fun v5 =>
  ∃ v6, ACalls Pg 48 [v5] h2 (pureE v6 h2) ∧ (
  bindO (fstV (still (aBin Pg .eql 9 v4 v6 false) h2)) fun v7 =>
  vcG v7 true (
  ∃ v9, ACalls Pg 42 [] h2 (pureE v9 h2) ∧ (
  Meet (G9_101002 Q v7 v9 h2))) (Meet (G9_101002 Q v7 hole h2))))) := by kernel_rfl
theorem C9 (Q : AEnd → AH → Prop) (a0 : V) (h : AH) (c :
  bindV (aNew Pg h 94 a0) fun v1 h2 =>
  bindO (fstV (aLoadV Pg h2 94 v1)) fun v3 =>
  ∃ v4, ACalls Pg 47 [v3] h2 (pureE v4 h2) ∧ (
  bindO (fstV (aLoadV Pg h2 94 v1)) fun v5 =>
  ∃ v6, ACalls Pg 48 [v5] h2 (pureE v6 h2) ∧ (
  bindO (fstV (still (aBin Pg .eql 9 v4 v6 false) h2)) fun v7 =>
  vcG v7 true (
  ∃ v9, ACalls Pg 42 [] h2 (pureE v9 h2) ∧ (
  Meet (G9_101002 Q v7 v9 h2))) (Meet (G9_101002 Q v7 hole h2))))) : ACalls Pg 9 [a0] h Q :=
  acalls_of_vc okP Tryz.func9 (show Tryz.f9.body = some B9 from by kernel_rfl) K9 (by rw [← S9 Q a0 h] at c; exact c)

-- 123 (*strings.Builder).WriteString
noncomputable def B123 : Code := (Tryz.f123.body).getD .skip
def R123 : List ResultVar := [.tmp 4, .tmp 5]
abbrev N123 : Nat := 19
def K123 : KT := (.seq .leaf (.seq .leaf (.seq .leaf (.seq .leaf .leaf [4, 5]) [1]) [0, 1]) [0, 1])
theorem S123 (Q : AEnd → AH → Prop) (a0 a1 : V) (h : AH) : vc Pg N123 B123 K123 (vcRet Pg R123 Q) (initEnv 0 [a0, a1]) h = (
  ACalls Pg 199 [a0] h (aEnd (fun v1 h2 =>
  bindV (aNil a0 h2) fun v3 h4 =>
  bindV (still (aFieldAddr Pg 233 v3 1) h4) fun v5 h6 =>
  bindV (aLoadV Pg h6 207 v5) fun v7 h8 =>
  bindV (aBuiltin Pg h8 .append [207, 9] [v7, a1]) fun v9 h10 =>
  bindV (aNil a0 h10) fun v11 h12 =>
  bindV (still (aFieldAddr Pg 233 v11 1) h12) fun v13 h14 =>
  bindV (aStoreV Pg h14 207 v13 v9) fun _ h16 =>
  bindV (aBuiltin Pg h16 .len [9] [a1]) fun v17 h18 =>
  Q (.ret (V.tup [v17, V.nilIfc])) h18) fun v h => Q (.panic v) h)) := by kernel_rfl
theorem C123 (Q : AEnd → AH → Prop) (a0 a1 : V) (h : AH) (c :
  ACalls Pg 199 [a0] h (aEnd (fun v1 h2 =>
  bindV (aNil a0 h2) fun v3 h4 =>
  bindV (still (aFieldAddr Pg 233 v3 1) h4) fun v5 h6 =>
  bindV (aLoadV Pg h6 207 v5) fun v7 h8 =>
  bindV (aBuiltin Pg h8 .append [207, 9] [v7, a1]) fun v9 h10 =>
  bindV (aNil a0 h10) fun v11 h12 =>
  bindV (still (aFieldAddr Pg 233 v11 1) h12) fun v13 h14 =>
  bindV (aStoreV Pg h14 207 v13 v9) fun _ h16 =>
  bindV (aBuiltin Pg h16 .len [9] [a1]) fun v17 h18 =>
  Q (.ret (V.tup [v17, V.nilIfc])) h18) fun v h => Q (.panic v) h)) : ACalls Pg 123 [a0, a1] h Q :=
  acalls_of_vc okP Tryz.func123 (show Tryz.f123.body = some B123 from by kernel_rfl) K123 (by rw [← S123 Q a0 a1 h] at c; exact c)

-- 124 (*strings.Builder).Len
noncomputable def B124 : Code := (Tryz.f124.body).getD .skip
def R124 : List ResultVar := [.tmp 2]
abbrev N124 : Nat := 8
def K124 : KT := (.seq .leaf (.seq .leaf .leaf [2]) [0])
theorem S124 (Q : AEnd → AH → Prop) (a0 : V) (h : AH) : vc Pg N124 B124 K124 (vcRet Pg R124 Q) (initEnv 0 [a0]) h = (
  bindV (aNil a0 h) fun v1 h2 =>
  bindV (still (aFieldAddr Pg 233 v1 1) h2) fun v3 h4 =>
  bindV (aLoadV Pg h4 207 v3) fun v5 h6 =>
  bindV (aBuiltin Pg h6 .len [207] [v5]) fun v7 h8 =>
  Q (.ret v7) h8) := by kernel_rfl
theorem C124 (Q : AEnd → AH → Prop) (a0 : V) (h : AH) (c :
  bindV (aNil a0 h) fun v1 h2 =>
  bindV (still (aFieldAddr Pg 233 v1 1) h2) fun v3 h4 =>
  bindV (aLoadV Pg h4 207 v3) fun v5 h6 =>
  bindV (aBuiltin Pg h6 .len [207] [v5]) fun v7 h8 =>
  Q (.ret v7) h8) : ACalls Pg 124 [a0] h Q :=
  acalls_of_vc okP Tryz.func124 (show Tryz.f124.body = some B124 from by kernel_rfl) K124 (by rw [← S124 Q a0 h] at c; exact c)

/- NOT PRINTED 125 (*strings.Builder).String: [an operation that writes, of a region that draws] -/
/- NOT PRINTED 199 (*strings.Builder).copyCheck: [a kind of code that is not covered] -/
end Go.Proofs.YtcglbpjpbjaecaaGreat.Sh
/- strings.Builder over abstract memory. -/
namespace Go.Proofs.YtcglbpjpbjaecaaGreat.Sj
open Go Go.Ab Go.RowKit Go.Proofs
open Go.Proofs.YtcglbpjpbjaecaaGreat.Ru (Pg okP)
set_option maxRecDepth 100000
set_option linter.unusedVariables false
variable {B : Base} {ι : Names} {W : World} {h : AH}
theorem two_cells {ι : Names} {x y : V} {cs : List Value} (hx : ∀ l, x ≠ .agg l) (hy : ∀ l, y ≠ .agg l) (r : relC Pg ι (.agg [x, y]) cs) : ∃ a b, cs = [a, b] ∧ relC Pg ι x [a] ∧ relC Pg ι y [b] := by
  simp only [relC, relCs] at r
  obtain ⟨c1, c2, h1, ⟨c3, c4, h2, rfl, rfl⟩, rfl⟩ := r
  obtain ⟨a, rfl, _⟩ := relC_one hx h1
  obtain ⟨b, rfl, _⟩ := relC_one hy h2
  exact ⟨a, b, by simp, h1, h2⟩
/-- A builder's block: what it holds, and that it is all of its block. -/
theorem bld_obj {n : Nat} {x y : V} (F : Fits Pg B ι h W) (hm : h.m n = some (.cells true (.one 233) (.agg [x, y]))) (hx : ∀ l, x ≠ .agg l) (hy : ∀ l, y ≠ .agg l) :
    ∃ L a b fr, ι n = some L ∧ L.off = 0 ∧ L.size = 2 ∧ L.ty = .one 233 ∧ W.heap[L.blk]? = some (.cells #[a, b] 233 fr) ∧ relC Pg ι x [a] ∧ relC Pg ι y [b] ∧ unfrozen fr 2 := by
  obtain ⟨L, hL, k1, k2, a, b, c, elem, fr, k4, k5, k6, k7, k8⟩ := F.obj _ _ hm
  obtain ⟨q8, k9, k10, k11⟩ := (show unfrozen fr L.size ∧ elem = 233 ∧ L.off = 0 ∧ L.size = Pg.cellsOf 233 from k8 rfl)
  have hs : Pg.cellsOf 233 = 2 := by kernel_rfl
  have k11' : L.size = 2 := k11.trans hs
  obtain ⟨u, v, rfl, r1, r2⟩ := two_cells hx hy k7
  obtain rfl : a = [] := List.length_eq_zero_iff.1 (by omega)
  obtain rfl : c = [] := List.length_eq_zero_iff.1 (by simp at k6; omega)
  subst k9
  exact ⟨L, u, v, fr, hL, k10, k11', k1, by simpa using k4, r1, r2, by rw [k11, hs] at q8; exact q8⟩
theorem ptr_addr {n : Nat} {L : Go.Ab.Loc} {v : Value} (hL : ι n = some L) (h0 : L.off = 0) (ht : L.ty = .one 233) (r : rel Pg ι (.ptr (some ⟨n, .one 233, []⟩)) v) : v = .pointer (some ⟨L.blk, 0, none⟩) := itV_inv r rfl hL h0
def bp (n : Nat) : V := .ptr (some ⟨n, .one 233, []⟩)
/-- copyCheck. -/
theorem copyP (n : Nat) (y p : V) (hp : p = .ptr none ∨ p = bp n) (hy : ∀ l, y ≠ .agg l) (hm : h.m n = some (.cells true (.one 233) (.agg [p, y]))) :
    ACalls Pg 199 [bp n] h fun e h' => e = .ret (.tup []) ∧ h' = h.put n (.cells true (.one 233) (.agg [bp n, y])) := by
  intro B ι W vs F r
  obtain ⟨v0, vs0, h0, r0, rfl⟩ := relL_cons_iff.1 r
  simp only [relL] at r0
  subst r0
  have hpa : ∀ l, p ≠ .agg l := by rcases hp with rfl | rfl <;> intro l hh <;> cases hh
  obtain ⟨L, a, b, fr, hL, ho, hsz, hty, hb, ra, rb, hfr⟩ := bld_obj F hm hpa hy
  obtain rfl := ptr_addr hL ho hty h0
  have hnew : relC Pg ι (bp n) [.pointer (some ⟨L.blk, 0, none⟩)] := by
    simp only [bp, relC]
    exact ⟨_, ⟨L, 0, 233, hL, hty, rfl, by rw [ho]⟩, rfl⟩
  have hobj : objR Pg ι (World.putRow W L.blk [.pointer (some ⟨L.blk, 0, none⟩), b] 233 fr) L (.cells true (.one 233) (.agg [bp n, y])) := by
    obtain ⟨L2, hL2, _, hs2, _⟩ := F.obj _ _ hm
    rw [hL] at hL2; cases hL2
    refine ⟨hty, ?_, [], [.pointer (some ⟨L.blk, 0, none⟩), b], [], 233, fr, by rw [putRow_at (getBlk_lt hb)]; rfl, by rw [ho]; rfl, by rw [hsz]; rfl, ?_, fun _ => ⟨by rw [hsz]; exact hfr, rfl, ho, by rw [hsz]; kernel_rfl⟩⟩
    · have e1 : hasShape Pg (bp n) 231 = true := by kernel_rfl
      have u : ∃ z w : TypeId, (∀ v w : V, hasShape Pg (.agg [v, w]) 233 = (hasShape Pg v 231 && (hasShape Pg w 207 && true))) := ⟨0, 0, fun v w => by kernel_rfl⟩
      obtain ⟨_, _, u⟩ := u
      have hs3 : hasShape Pg (.agg [p, y]) 233 = true := hs2
      rw [u] at hs3
      show hasShape Pg (.agg [bp n, y]) 233 = true
      rw [u, e1]
      simp only [Bool.and_eq_true] at hs3 ⊢
      exact ⟨trivial, hs3.2⟩
    · simp only [relC, relCs]
      exact ⟨_, [b], hnew, ⟨[b], [], rb, rfl, rfl⟩, rfl⟩
  have Fput := F.store (v' := .agg [bp n, y]) hm hL hobj
  rcases hp with rfl | rfl
  · have ea : a = .pointer none := by simpa [relC] using ra
    subst ea
    have hc : W.cell? ⟨L.blk, 0, none⟩ = some (.pointer none) := by simp [World.cell?, hb]
    have hsh : W.shape? L.blk = some (233, 2) := by simp [World.shape?, hb]
    have hfz : W.frozen? ⟨L.blk, 0, none⟩ = false := by
      obtain ⟨lo, hi⟩ := fr
      have := hfr 0 (by omega)
      simp only at this
      simp only [World.frozen?, hb, Bool.and_eq_false_iff, decide_eq_false_iff_not]
      omega
    refine Calls.mono (Any.Builder_copyCheck_fresh joLay240 joX.toX72 L.blk W hc hsh hfz) ?_
    rintro e w' ⟨rfl, rfl⟩
    have ew : W.setCell ⟨L.blk, 0, none⟩ (.pointer (some ⟨L.blk, 0, none⟩)) = World.putRow W L.blk [.pointer (some ⟨L.blk, 0, none⟩), b] 233 fr := by
      simp only [World.setCell, World.putRow]
      congr 1
      apply Array.ext_getElem?
      intro k
      by_cases hk : k = L.blk
      · subst hk
        rw [Array.getElem?_modify, if_pos rfl, hb, Array.getElem?_setIfInBounds_self_of_lt (getBlk_lt hb)]
        rfl
      · rw [Array.getElem?_modify, if_neg (by omega), Array.getElem?_setIfInBounds_ne (by omega)]
    rw [ew]
    exact ⟨ι, _, .ret (.tup []), Names.le_refl _, Fput, .inr ⟨rfl, by simp only [relC, Value.cells]; exact ⟨[], by simp [relL], rfl⟩⟩, rfl, rfl⟩
  · have ea : a = .pointer (some ⟨L.blk, 0, none⟩) := by
      have e2 := itV_inv (a := ⟨n, .one 233, []⟩) (rel_leaf (by intro l hh; cases hh) ra) rfl hL ho
      exact e2
    subst ea
    have hc : W.cell? ⟨L.blk, 0, none⟩ = some (.pointer (some ⟨L.blk, 0, none⟩)) := by simp [World.cell?, hb]
    refine Calls.mono (Any.Builder_copyCheck_used joLay240 joX.toX72 L.blk W hc) ?_
    rintro e w' ⟨rfl, hw⟩
    have ew : World.putRow W L.blk [.pointer (some ⟨L.blk, 0, none⟩), b] 233 fr = W := putRow_self (by simpa using hb)
    rw [ew] at Fput
    rw [hw]
    exact ⟨ι, _, .ret (.tup []), Names.le_refl _, Fput, .inr ⟨rfl, by simp only [relC, Value.cells]; exact ⟨[], by simp [relL], rfl⟩⟩, rfl, rfl⟩
/-- A builder that holds these bytes. -/
def Bld (h : AH) (n : Nat) (l : List UInt8) : Prop := n < h.next ∧ ∃ p y, (p = .ptr none ∨ p = bp n) ∧ h.m n = some (.cells true (.one 233) (.agg [p, y])) ∧ BufB 5 h y l ∧ ∀ len, y ≠ .slc (some (⟨n, .row 5, []⟩, 0)) len
theorem buf_na {h : AH} {y : V} {l : List UInt8} (b : BufB 5 h y l) : ∀ m, y ≠ .agg m := by
  intro m
  rcases b.shape with ⟨n, rfl⟩ | ⟨a, n, rfl⟩ <;> intro hh <;> cases hh
theorem s207 (a : Option (PA × Nat)) (n : Nat) : hasShape Pg (.slc a n) 207 = true := by kernel_rfl
theorem ap2079 : apOk Pg 207 9 5 = true := by kernel_rfl
theorem by5 : Pg.bytesOf 5 = 1 := by kernel_rfl
theorem elemsStr (h : AH) (s : List UInt8) : aElems Pg h 5 (.str s) = some (bytesV s) := by
  have hu : ul Pg 5 = some (.int .u8) := by kernel_rfl
  simp only [aElems, hu]
/-- WriteString. -/
theorem writeP (n : Nat) (l s : List UInt8) (hs : s ≠ []) (hl : l.length + s.length ≤ 140737488355328) (b : Bld h n l) :
    ACalls Pg 123 [bp n, .str s] h fun e h' => e = .ret (.tup [.int .i64 s.length, .nilIfc]) ∧ Bld h' n (l ++ s) ∧ h.next ≤ h'.next ∧ ∀ k, k < h.next → k ≠ n → (∀ y p, h.m n = some (.cells true (.one 233) (.agg [p, y])) → ∀ len, y ≠ .slc (some (⟨k, .row 5, []⟩, 0)) len) → h'.m k = h.m k := by
  obtain ⟨hn, p, y, hp, hm, hb, hny⟩ := b
  refine Sh.C123 _ _ _ _ (callH (copyP n y p hp (buf_na hb) hm) ?_)
  obtain ⟨h1, u1⟩ : ∃ h1, h1 = h.put n (.cells true (.one 233) (.agg [bp n, y])) := ⟨_, rfl⟩
  rw [← u1]
  have U := upd_put h n (.cells true (.one 233) (.agg [bp n, y]))
  rw [← u1] at U
  refine bindV_mk rfl ?_
  refine bindS_mk (fa_mk (by kernel_rfl)) ?_
  refine bindV_mk (ld_mk U.at_ (by kernel_rfl) rfl) ?_
  have hb1 : BufB 5 h1 y l := by
    rcases hb with ⟨rfl, rfl⟩ | ⟨m, g1, rfl, g3⟩
    · exact .inl ⟨rfl, rfl⟩
    · refine .inr ⟨m, by rw [U.next]; exact g1, rfl, ?_⟩
      rw [U.other m (fun e => by subst e; exact hny _ rfl)]; exact g3
  obtain ⟨v, h2, e2, hb2, hn2, hk2⟩ := hb1.app ap2079 by5 (elemsStr h1 s) hs hl
  refine bindV_mk e2 ?_
  have hm2 : h2.m n = some (.cells true (.one 233) (.agg [bp n, y])) := by
    rw [hk2 n (by rw [U.next]; exact hn) (fun len => hny len)]; exact U.at_
  refine bindV_mk rfl ?_
  refine bindS_mk (fa_mk (by kernel_rfl)) ?_
  have hvs : hasShape Pg v 207 = true := by rcases hb2.shape with ⟨k, rfl⟩ | ⟨a, k, rfl⟩ <;> exact s207 _ _
  refine bindE (st_at hm2 (by kernel_rfl) rfl hvs rfl) fun h3 u3 => ?_
  refine bindV_mk (len_str (by kernel_rfl)) ?_
  have hvn : ∀ k, k < h1.next → ∀ len, v ≠ .slc (some (⟨k, .row 5, []⟩, 0)) len := by
    -- the new row's name lies ahead
    intro k hk len e
    subst e
    have hw' : bytesV s ≠ [] := by cases s <;> simp_all [bytesV]
    rcases hb1 with ⟨rfl, rfl⟩ | ⟨m, g1, rfl, g3⟩
    · obtain ⟨h', e1, u⟩ := apN_at (n := 0) ap2079 (elemsStr h1 s) hw' (by rw [by5, bytesV_len]; simp at hl; omega)
      rw [e1] at e2
      simp only [Option.some.injEq, Prod.mk.injEq, V.slc.injEq, PA.mk.injEq] at e2
      omega
    · obtain ⟨h', e1, u⟩ := apR_at (i := 0) (n := l.length) ap2079 g1 g3 (by rw [bytesV_len]; omega) (elemsStr h1 s) hw' (by rw [by5, bytesV_len]; omega)
      rw [e1] at e2
      simp only [Option.some.injEq, Prod.mk.injEq, V.slc.injEq, PA.mk.injEq] at e2
      omega
  refine ⟨rfl, ⟨by rw [u3.next]; have := U.next; omega, bp n, v, .inr rfl, u3.at_, ?_, fun len => hvn n (by rw [U.next]; exact hn) len⟩, by rw [u3.next]; have := U.next; omega, fun k hk hkn hky => ?_⟩
  · rcases hb2 with ⟨rfl, q⟩ | ⟨m, g1, rfl, g3⟩
    · exact .inl ⟨rfl, q⟩
    · refine .inr ⟨m, by rw [u3.next]; exact g1, rfl, ?_⟩
      rw [u3.other m (fun e => by subst e; exact hvn _ (by rw [U.next]; exact hn) _ rfl)]; exact g3
  · rw [u3.other k hkn, hk2 k (by rw [U.next]; exact hk) (fun len => hky y p hm len), U.other k hkn]
/-- Len. -/
theorem lenP (n : Nat) (l : List UInt8) (b : Bld h n l) : ACalls Pg 124 [bp n] h (pureE (.int .i64 l.length) h) := by
  obtain ⟨hn, p, y, hp, hm, hb, hny⟩ := b
  refine Sh.C124 _ _ _ ?_
  refine bindV_mk rfl ?_
  refine bindS_mk (fa_mk (by kernel_rfl)) ?_
  refine bindV_mk (ld_mk hm (by kernel_rfl) rfl) ?_
  rcases hb with ⟨rfl, rfl⟩ | ⟨m, g1, rfl, g3⟩
  · exact bindV_mk (len_slc (by kernel_rfl)) ⟨rfl, rfl⟩
  · exact bindV_mk (len_slc (by kernel_rfl)) ⟨rfl, rfl⟩
end Go.Proofs.YtcglbpjpbjaecaaGreat.Sj
/- strings.Builder's String over abstract memory. -/
namespace Go.Proofs.YtcglbpjpbjaecaaGreat.Sj
open Go Go.Ab Go.RowKit Go.Proofs
open Go.Proofs.YtcglbpjpbjaecaaGreat.Ru (Pg okP)
set_option maxRecDepth 100000
set_option linter.unusedVariables false
variable {h : AH}
theorem relCs_bytes' {ι : Names} : ∀ {l : List UInt8} {cs : List Value}, relCs Pg ι (bytesV l) cs → cs = l.map fun b => Value.int .u8 b.toNat
  | [], cs, h => by simpa only [bytesV, List.map_nil, relCs] using h
  | b :: l, cs, h => by
    have e : bytesV (b :: l) = .int .u8 b.toNat :: bytesV l := rfl
    rw [e] at h
    simp only [relCs, relC] at h
    obtain ⟨a, c, rfl, h2, rfl⟩ := h
    rw [relCs_bytes' h2]; rfl
/-- String of what is not empty: the bytes; the row is frozen, and forgotten. -/
theorem stringK (n m : Nat) (p : V) (l : List UInt8) (hl : l.length ≤ 140737488355328) (h0 : l ≠ []) (hp : p = .ptr none ∨ p = bp n)
    (hm : h.m n = some (.cells true (.one 233) (.agg [p, .slc (some (⟨m, .row 5, []⟩, 0)) l.length]))) (g3 : h.m m = some (.cells true (.row 5) (.agg (bytesV l)))) :
    ACalls Pg 125 [bp n] h (fun e h' => e = .ret (.str l) ∧ h' = h.kill m) := by
  have hpa : ∀ l, p ≠ .agg l := by rcases hp with rfl | rfl <;> intro l hh <;> cases hh
  intro B ι W vs F r
  obtain ⟨v0, vs0, q0, r0, rfl⟩ := relL_cons_iff.1 r
  simp only [relL] at r0
  subst r0
  obtain ⟨L, a, b, fr, hL, ho, hsz, hty, hbk, ra, rb, hfr⟩ := bld_obj F hm hpa (by intro l hh; cases hh)
  obtain rfl := ptr_addr hL ho hty q0
  have rb' : rel Pg ι (.slc (some (⟨m, .row 5, []⟩, 0)) l.length) b := rel_leaf (by intro l hh; cases hh) rb
  obtain ⟨x, cap, rfl, hcap, hrow⟩ := rel_slc rb'
  have hl0 : 0 < l.length := List.length_pos_iff.2 h0
  obtain ⟨L2, o, e, k1, k2, k3, k4, k5⟩ := hrow (by omega)
  obtain ⟨L3, j1, j2, j3, ca, cb, cc, elem, fr2, j4, j5, j6, j7, j8⟩ := F.obj _ _ g3
  rw [k1] at j1; cases j1
  have hro : Go.Ab.rowAt Pg (.row 5) [] = some (0, 5) := rfl
  rw [hro] at k3; cases k3
  have hcb : cb = l.map fun b => Value.int .u8 b.toNat := relCs_bytes' (by simpa only [relC] using j7)
  have hel : elem = 5 := (j8 rfl).2
  subst hel
  have hx : x = ⟨L2.blk, L2.off, none⟩ := by rw [k4]; simp
  subst hx
  have hcell : ∀ j x, l[j]? = some x → W.cell? ((⟨L2.blk, L2.off, none⟩ : Addr).add j) = some (.int .u8 x.toNat) := by
    intro j x hj
    rw [addr_add, ← j5]
    refine cell_in j4 j _ ?_
    rw [hcb, List.getElem?_map, hj]; rfl
  have key := strAt joLay169 joX L.blk L2.blk L2.off cap a (ca ++ cb ++ cc).toArray fr fr2 l W hbk j4 h0 (by omega) (by
    rw [hcb, ← j5]; simp) (by omega) hcell
  refine Calls.mono key ?_
  rintro e w' ⟨rfl, rfl⟩
  obtain ⟨fr3, hfr3⟩ : ∃ fr3, W.drew.freeze ⟨L2.blk, L2.off, none⟩ l.length = (World.putRow W L2.blk (ca ++ cb ++ cc) 5 fr3).drew := by
    obtain ⟨lo, hi⟩ := fr2
    refine ⟨if lo == hi then (L2.off, L2.off + l.length) else (min lo L2.off, max hi (L2.off + l.length)), ?_⟩
    simp only [World.freeze, World.drew, World.putRow, if_neg (show ¬ l.length = 0 by omega)]
    congr 1
    apply Array.ext_getElem?
    intro k
    by_cases hk : k = L2.blk
    · subst hk
      rw [Array.getElem?_modify, if_pos rfl, j4, Array.getElem?_setIfInBounds_self_of_lt (getBlk_lt j4)]
      rfl
    · rw [Array.getElem?_modify, if_neg (by omega), Array.getElem?_setIfInBounds_ne (by omega)]
  rw [hfr3]
  have Fk := F.letGo g3 rfl k1 (ca ++ cb ++ cc) 5 fr3
  exact ⟨ι, h.kill m, .ret (.str l), Names.le_refl _, Fk.drew _, .inr ⟨rfl, by simp only [relC, Value.cells]⟩, rfl, rfl⟩
/-- String: the bytes; the row is frozen, and forgotten. -/
theorem stringP (n : Nat) (l : List UInt8) (hl : l.length ≤ 140737488355328) (b : Bld h n l) (hne : l = [] → ∃ p, h.m n = some (.cells true (.one 233) (.agg [p, .slc none 0]))) :
    ∃ h2, ACalls Pg 125 [bp n] h (fun e h' => e = .ret (.str l) ∧ h' = h2) ∧ h2.next = h.next ∧ ∀ k, (∀ y p, h.m n = some (.cells true (.one 233) (.agg [p, y])) → ∀ len, y ≠ .slc (some (⟨k, .row 5, []⟩, 0)) len) → h2.m k = h.m k := by
  obtain ⟨hn, p, y, hp, hm, hb, hny⟩ := b
  have hpa : ∀ l, p ≠ .agg l := by rcases hp with rfl | rfl <;> intro l hh <;> cases hh
  by_cases h0 : l = []
  · obtain ⟨p', hm'⟩ := hne h0
    rw [hm] at hm'
    simp only [Option.some.injEq, AO.cells.injEq, V.agg.injEq, List.cons.injEq, and_true, true_and] at hm'
    obtain ⟨_, rfl⟩ := hm'
    subst h0
    refine ⟨h, ?_, rfl, fun k _ => rfl⟩
    intro B ι W vs F r
    obtain ⟨v0, vs0, q0, r0, rfl⟩ := relL_cons_iff.1 r
    simp only [relL] at r0
    subst r0
    obtain ⟨L, a, b, fr, hL, ho, hsz, hty, hbk, ra, rb, hfr⟩ := bld_obj F hm hpa (by intro l hh; cases hh)
    obtain rfl := ptr_addr hL ho hty q0
    have eb : b = .slice none 0 0 := by
      have : 0 = 0 ∧ [b] = [Value.slice none 0 0] := by simpa only [relC] using rb
      simpa using this.2
    subst eb
    refine Calls.mono (strNil joLay169 joX L.blk a fr W hbk) ?_
    rintro e w' ⟨rfl, rfl⟩
    exact ⟨ι, h, .ret (.str []), Names.le_refl _, F.drew _, .inr ⟨rfl, by simp only [relC, Value.cells]⟩, rfl, rfl⟩
  · rcases hb with ⟨rfl, rfl⟩ | ⟨m, g1, rfl, g3⟩
    · exact absurd rfl h0
    refine ⟨h.kill m, stringK n m p l hl h0 hp hm g3, rfl, fun k hk => by rw [kill_m, if_neg (fun e => by subst e; exact hk _ _ hm _ rfl)]⟩
end Go.Proofs.YtcglbpjpbjaecaaGreat.Sj
/- The items of an empty stream: the range over the iterator goes no round. -/
namespace Go.Proofs.YtcglbpjpbjaecaaGreat.It
open Go Go.Ab Go.RowKit
open Go.Proofs.YtcglbpjpbjaecaaGreat.Ru (Pg okP hd FT pu tabOk)
set_option maxRecDepth 100000
set_option linter.unusedVariables false
section
variable {P : Program} {B : Base} {ι : Names} {h : AH} {W : World}
/-- A block that no object lies in is turned. -/
theorem fits_put {l : Nat} {x x' : Obj} (F : Fits P B ι h W) (hl : W.heap[l]? = some x) (hx : (∀ a b c, x ≠ .cells a b c) ∧ (∀ a b, x ≠ .map a b) ∧ (∀ a b, x ≠ .stringIter a b) ∧ ∀ a b c d, x ≠ .mapIter a b c d) (hB : ¬ B.F l) : Fits P B ι h (W.putObj l x') := by
  have ne : ∀ b, b ≠ l → (W.putObj l x').heap[b]? = W.heap[b]? := fun b hb => World.putObj_heap_other hb
  have sz : (W.putObj l x').heap.size = W.heap.size := by simp [World.putObj]
  exact {
    obj := fun n o hm => by
      obtain ⟨L, h1, h2⟩ := F.obj n o hm
      refine ⟨L, h1, objR_keep (Names.le_refl _) (ne _ ?_) h2⟩
      intro e
      cases o with
      | cells own ty v => obtain ⟨_, _, a, b, c, elem, fr, g1, _⟩ := h2; rw [e, hl] at g1; cases g1; exact hx.1 _ _ _ rfl
      | mp kt et es => obtain ⟨xs, c, g1, _⟩ := h2; rw [e, hl] at g1; cases g1; exact hx.2.1 _ _ rfl
      | mps kt et es st c => obtain ⟨xs, g1, _⟩ := h2; rw [e, hl] at g1; cases g1; exact hx.2.1 _ _ rfl
      | sit s p => obtain ⟨_, g1⟩ := h2; rw [e, hl] at g1; cases g1; exact hx.2.2.1 _ _ rfl
      | mit m a b c => obtain ⟨_, mb, _, g1⟩ := h2; rw [e, hl] at g1; cases g1; exact hx.2.2.2 _ _ _ _ rfl
    fresh := F.fresh
    apart := F.apart
    free := F.free
    frame := fun b hb => ⟨(ne b (fun e => hB (e ▸ hb))).trans (F.frame b hb).1, by rw [sz]; exact (F.frame b hb).2⟩
    os := F.os
    tape := F.tape
    output := F.output
    size := by rw [sz]; exact F.size }
/-- A piece of code that goes through. -/
theorem piece (K0 : Ok P) {N : Nat} {c : Code} {k : KT} {D : List AD} {E E' : XE} {H H' : HT} (cc : ∀ e, Same e E → ∀ (Qv : AExit → Env → AH → Prop), (∀ e', Same e' E' → Qv .normal e' H'.ah) → vc P N c k Qv e H.ah)
    {e : Env} {a : Act} {Q : Exit → Act → World → Prop} (F : Fits P B ι H.ah W) (r : relE P ι N D e a) (hs : Same e E)
    (next : ∀ ι' W' e' a', Names.le ι ι' → Fits P B ι' H'.ah W' → relE P ι' N D e' a' → Same e' E' → Q .normal a' W') : c.wp P Q a W := by
  refine wp_mono (vc_ok K0 c k (fun x e h => x = .normal ∧ Same e E' ∧ h = H'.ah) ι H.ah W e a F r (cc e hs _ fun e' h => ⟨rfl, h, rfl⟩)) ?_
  rintro x a' w ⟨ι', h', e', ax, p1, p2, p3, p4, rfl, p6, rfl⟩
  cases x with
  | normal => exact next ι' w e' a' p1 p2 p3 p6
  | _ => exact p4.elim
end
theorem lift_nil {P : Program} {f : FuncId} {args : List V} {v : V} (ha : flatBs args = true) (hv : oldV (fun _ => false) v = true) (c : ACalls P f args AH0 fun e _ => e = .ret v) (h : AH) : ACalls P f args h (pureE v h) := by
  intro B ι W vs F r
  refine (c _ _ W vs (fits0 W) (flat_relL args vs ha r)).mono ?_
  rintro e w' ⟨ι', h', ae, h1, h2, h3, rfl⟩
  have hold : ∀ b, b < W.heap.size → w'.heap[b]? = W.heap[b]? := fun b hb => (h2.frame b hb).1
  refine ⟨ι, h, .ret v, Names.le_refl _, ?_, ?_, rfl, rfl⟩
  · exact (F.grow (fun _ => False) hold (fun _ h => h.elim) h2.os h2.tape h2.output h2.size).rebase (BaseLe.grow F _ hold h2.os h2.tape h2.output h2.size)
  · cases e with
    | returned x => exact rel_le (ι := fun _ => none) (fun n L h => by cases h) (old_rel (ι := fun _ => none) (fun n hn => by cases hn) h1 hv h3)
    | panicked c => exact h3.elim
    | outgrown => exact h3.elim
noncomputable def B155 : Code := (Tryz.f155.body).getD .skip
noncomputable def asg : Code := match subC B155 [1, 1, 1, 1, 0, 1, 0] with | .rangeFunc _ _ a _ => a | _ => .skip
noncomputable def bdy : Code := match subC B155 [1, 1, 1, 1, 0, 1, 0] with | .rangeFunc _ _ _ b => b | _ => .skip
noncomputable def C0 : Code := subC B155 [0]
noncomputable def C1 : Code := subC B155 [1, 0]
noncomputable def C2 : Code := subC B155 [1, 1, 0]
noncomputable def C3 : Code := subC B155 [1, 1, 1, 0]
noncomputable def C4 : Code := subC B155 [1, 1, 1, 1, 0, 0]
noncomputable def C5 : Code := subC B155 [1, 1, 1, 1, 1]
theorem shape : B155 = .seq C0 (.seq C1 (.seq C2 (.seq C3 (.seq (.seq C4 (.block 0 (.rangeFunc (.tmp 31) #[32, 33] asg bdy))) C5)))) := by kernel_rfl
noncomputable def exI : CallF := (exTabM Pg FT hd noMemo pu 60).ex
noncomputable def nx {R : Type} (k : XE → HT → Option R) : AExit → XE → HT → Option R := fun x E H => match x with
  | .normal => k E H
  | _ => none
theorem nx_some {R : Type} {k : XE → HT → Option R} {x : AExit} {E : XE} {H : HT} {r : R} (h : nx k x E H = some r) : x = .normal ∧ k E H = some r := by
  unfold nx at h
  cases x <;> first | exact ⟨rfl, h⟩ | cases h
def args : List V := [.int .u64 1, .str [], .int .u64 1]
noncomputable def E0 : XE := xInit args 0 .nil fun E => E
/-- Behind the statement. -/
noncomputable def fin5 : AExit → XE → HT → Option Unit := fun x E H => match x with
  | .ret => bif sameV (XE.get E 6) (.slc none 0) && sameV (XE.get E 7) (.int .u64 1) then some () else none
  | _ => none
/-- The code ahead of the statement. -/
noncomputable def pre : Option (XE × HT) :=
  exC Pg 53 exI pu C0 (nx fun E H => exC Pg 53 exI pu C1 (nx fun E H => exC Pg 53 exI pu C2 (nx fun E H => exC Pg 53 exI pu C3 (nx fun E H => exC Pg 53 exI pu C4 (nx fun E H => some (E, H)) E H) E H) E H) E H) E0 HT0
noncomputable def E4 : XE := (pre.getD (.nil, HT0)).1
noncomputable def H4 : HT := (pre.getD (.nil, HT0)).2
theorem pre_eq : pre = some (E4, H4) := by kernel_rfl
def sP : V := .ptr (some ⟨3, .one 9, []⟩)
theorem slot31 : XE.get E4 31 = .fn (.func 266) [] [sP] := by kernel_rfl
/-- The iterator, and the rest. -/
noncomputable def post (l : Nat) : Option Unit := exI Unit 266 [.fn (.yield l) [] [], sP] H4 fun ae H => match ae with
    | .ret _ => exC Pg 53 exI pu C5 fin5 E4 H
    | .panic _ => none
theorem post_eq (l : Nat) : post l = some () := by kernel_rfl
theorem itemsC0 (hh : HdOk Pg hd) : ACalls Pg 155 args AH0 fun e _ => e = .ret (.tup [.slc none 0, .int .u64 1]) := by
  intro B ι W vs F ra
  have hx : CallOk Pg exI := (exTabM_ok okP tabOk hh noMemo_ok 60).1
  obtain ⟨E0', q1, q2⟩ := xInit_same args
  have hE0 : E0 = E0' := q1 XE fun E => E
  have hs0 : Same (initEnv 0 args) E0 := hE0 ▸ q2
  have hp := pre_eq
  unfold pre at hp
  obtain ⟨x, E1, H1, o1, hp, c0⟩ := exC_ok (pu := pu) hx C0 _ _ _ HT0_own hp
  obtain ⟨rfl, hp⟩ := nx_some hp
  have w1 := o1.own HT0_own
  obtain ⟨x, E2, H2, o2, hp, c1⟩ := exC_ok (pu := pu) hx C1 _ _ _ w1 hp
  obtain ⟨rfl, hp⟩ := nx_some hp
  have w2 := o2.own w1
  obtain ⟨x, E3, H3, o3, hp, c2⟩ := exC_ok (pu := pu) hx C2 _ _ _ w2 hp
  obtain ⟨rfl, hp⟩ := nx_some hp
  have w3 := o3.own w2
  obtain ⟨x, E3b, H3b, o3b, hp, c3⟩ := exC_ok (pu := pu) hx C3 _ _ _ w3 hp
  obtain ⟨rfl, hp⟩ := nx_some hp
  have w3b := o3b.own w3
  obtain ⟨x, E5, H5, o5, hp, c4⟩ := exC_ok (pu := pu) hx C4 _ _ _ w3b hp
  obtain ⟨rfl, hp⟩ := nx_some hp
  have w5 := o5.own w3b
  have hp : some (E5, H5) = some (E4, H4) := hp
  simp only [Option.some.injEq, Prod.mk.injEq] at hp
  obtain ⟨e5, h5⟩ := hp
  rw [e5, h5] at c4
  rw [h5] at w5
  rw [← HT0_ah] at F
  refine callsIn_wide (n := 0) |>.1 (callsIn_of_wp_marks Tryz.func155 (show Tryz.f155.body = some B155 from by kernel_rfl) trivial ?_)
  rw [wpIn_wide, shape]
  have hE : relE Pg ι 53 [] (initEnv 0 args) { tmps := vs.toArray ++ Array.replicate (Tryz.f155.ntmps - vs.toArray.size) undef, defers := [] } := initE (by kernel_rfl) ra
  refine wp_seq (piece okP c0 F hE hs0 fun ι1 W1 e1 a1 l1 F1 r1 s1 => ?_)
  refine wp_seq (piece okP c1 F1 r1 s1 fun ι2 W2 e2 a2 l2 F2 r2 s2 => ?_)
  refine wp_seq (piece okP c2 F2 r2 s2 fun ι3 W3 e3 a3 l3 F3 r3 s3 => ?_)
  refine wp_seq (piece okP c3 F3 r3 s3 fun ι4 W4 e4 a4 l4 F4 r4 s4 => ?_)
  refine wp_seq (wp_seq (piece okP c4 F4 r4 s4 fun ι5 W5 e5 a5 l5 F5 r5 s5 => ?_))
  have ll : Names.le ι ι5 := Names.le_trans l1 (Names.le_trans l2 (Names.le_trans l3 (Names.le_trans l4 l5)))
  refine wp_block ?_
  rw [← wpIn_wide (n := 0)]
  refine wpIn_rangeFunc fun fn hfn => ?_
  -- the two blocks
  obtain ⟨rec, hrec⟩ : ∃ rec : Loop, rec = { state := .ready, pending := none, fn, tmps := a5.tmps, params := #[32, 33], assign := asg, body := bdy, defers := W5.heap.size } := ⟨_, rfl⟩
  obtain ⟨Wl, hWl⟩ : ∃ Wl, (W5.alloc (.deferred (some []))).alloc (.loop rec) = Wl := ⟨_, rfl⟩
  have hL : Wl.heap[W5.heap.size + 1]? = some (.loop rec) := by
    rw [← hWl]; have := World.alloc_heap_new (W5.alloc (.deferred (some []))) (.loop rec); rwa [World.size_alloc] at this
  have hD : Wl.heap[W5.heap.size]? = some (.deferred (some [])) := by
    rw [← hWl]; exact (Below.heap_alloc _ _ _ (by simp)).trans (World.alloc_heap_new W5 _)
  have hb : ∀ b, b < W5.heap.size → Wl.heap[b]? = W5.heap[b]? := fun b hb => by
    rw [← hWl]; exact (Below.heap_alloc _ _ _ (by simp; omega)).trans (Below.heap_alloc _ _ _ hb)
  have hsz : Wl.heap.size = W5.heap.size + 2 := by rw [← hWl]; simp
  have ho : Wl.os = W5.os := by rw [← hWl]; rfl
  have ht : Wl.tape = W5.tape := by rw [← hWl]; rfl
  have hpp : Wl.output = W5.output := by rw [← hWl]; rfl
  have F6 := F5.grow (W' := Wl) (fun c => c = W5.heap.size ∨ c = W5.heap.size + 1) hb (fun b h => by omega) ho ht hpp (by omega)
  have nD : ¬ B.F W5.heap.size := fun h => Nat.lt_irrefl _ (F5.frame _ h).2
  have nL : ¬ B.F (W5.heap.size + 1) := fun h => by have := (F5.frame _ h).2; omega
  -- the iterator
  have hi := post_eq (W5.heap.size + 1)
  unfold post at hi
  obtain ⟨ae, H6, o6, hi, hent, hc⟩ := hx _ _ _ _ _ _ w5 hi
  cases ae with
  | panic _ => cases hi
  | ret u =>
  have hi : exC Pg 53 exI pu C5 fin5 E4 H6 = some () := hi
  obtain ⟨x, E7, H7, o7, hi, c7⟩ := exC_ok (pu := pu) hx C5 _ _ _ (o6.own w5) hi
  have hfin : x = .ret ∧ XE.get E7 6 = .slc none 0 ∧ XE.get E7 7 = .int .u64 1 := by
    unfold fin5 at hi
    cases x <;> first | (cases hi; done) | skip
    obtain ⟨hb, _⟩ := bif_some hi
    rw [Bool.and_eq_true] at hb
    exact ⟨rfl, sameV_eq _ _ hb.1, sameV_eq _ _ hb.2⟩
  obtain ⟨rfl, g6, g7⟩ := hfin
  have hρ := rel_opnd r5 (.tmp 31)
  rw [show opnd e5 (.tmp 31) = .fn (.func 266) [] [sP] from (s5 31).trans slot31] at hρ
  obtain ⟨fa, fb, hf1, hf2, hf3⟩ := rel_fn hρ
  simp only [relL] at hf2
  subst hf2
  refine ⟨W5.heap.size + 1, [{ target := .collected W5.heap.size, args := #[] }], Wl, { target := .fn (.func 266) fb.toArray, args := #[.func (.yield (W5.heap.size + 1)) #[] #[]] }, Wl, 266,
    #[.func (.yield (W5.heap.size + 1)) #[] #[]] ++ fb.toArray, Wl, ?_, ?_, fun _ _ => trivial, ?_, fun h => by simp [Fence.wide] at h, ?_⟩
  · rw [← hWl, hrec]; exact run_enterLoop_outer _ _ _ _ _
  · simp only [resolve, hf1]
    simp [go_sem]
  · exact run_callFunc hent _ Wl
  have ry : rel Pg ι5 (.fn (.yield (W5.heap.size + 1)) [] []) (.func (.yield (W5.heap.size + 1)) #[] #[]) := .inr ⟨rfl, [], [], rfl, rfl, rfl⟩
  have hcall := hc _ ι5 Wl (.func (.yield (W5.heap.size + 1)) #[] #[] :: fb) F6 (relL_cons ry hf3)
  have harr : (Value.func (.yield (W5.heap.size + 1)) #[] #[] :: fb).toArray = #[.func (.yield (W5.heap.size + 1)) #[] #[]] ++ fb.toArray := by simp
  rw [harr] at hcall
  refine callsIn_wide.2 (hcall.mono ?_)
  rintro e W6 ⟨ι6, h6, ae', l6, F7, re, rfl, rfl⟩
  cases e with
  | panicked _ => exact re.elim
  | outgrown => exact re.elim
  | returned v =>
  have hL6 : W6.heap[W5.heap.size + 1]? = some (.loop rec) := (F7.frame _ (.inr (.inr rfl))).1.trans hL
  refine ⟨none, W6.putObj (W5.heap.size + 1) (.loop { rec with state := .exhausted }), ?_, ?_⟩
  · have := run_endLoop (P := Pg) hL6 (by rw [hrec]; simp)
    rw [this, hrec]
  -- the rest
  obtain ⟨W7, hW7⟩ : ∃ W7, W6.putObj (W5.heap.size + 1) (.loop { rec with state := .exhausted }) = W7 := ⟨_, rfl⟩
  rw [hW7]
  have F8 : Fits Pg ⟨fun c => B.F c ∨ c = W5.heap.size, Wl⟩ ι6 H6.ah W7 := by
    rw [← hW7]
    refine fits_put (Fits.rebase (B' := ⟨fun c => B.F c ∨ (c = W5.heap.size ∨ c = W5.heap.size + 1), Wl⟩) ⟨fun c hc => ⟨hc.elim .inl fun h => .inr (.inl h), rfl⟩, rfl, rfl, rfl, Nat.le_refl _⟩ F7) hL6 ⟨fun _ _ _ h => (by cases h), fun _ _ h => (by cases h), fun _ _ h => (by cases h), fun _ _ _ _ h => (by cases h)⟩ ?_
    rintro (h | h)
    · exact nL h
    · omega
  have r5' := relE_le l6 r5
  have hdef : a5.defers = [] := r5'.2.1
  have r8 : relE Pg ι6 53 [(Pg.funcs.size, [.agg [.und, .int .u64 (W5.heap.size : Int)]])] e5 { a5 with defers := [{ target := .collected W5.heap.size, args := #[] }] ++ a5.defers } :=
    ⟨r5'.1, ⟨_, _, rfl, .inr ⟨Nat.le_refl _, W5.heap.size, rfl, rfl⟩, hdef⟩, r5'.2.2⟩
  show C5.wp Pg _ _ _
  refine wp_mono (vc_ok okP C5 _ (fun x e h => x = .ret ∧ Same e E7 ∧ h = H7.ah) ι6 H6.ah W7 e5 _ F8 r8 (c7 e5 s5 _ fun e' h => ⟨rfl, h, rfl⟩)) ?_
  rintro x a w ⟨ι', h', e', ax, p1, p2, p3, p4, rfl, p6, rfl⟩
  cases x with
  | ret =>
    obtain ⟨d, rest, hd, hx8, hr8⟩ := p3.2.1
    have hdm : d = { target := .collected W5.heap.size, args := #[] } := by
      rcases hx8 with ⟨cap, _, hbad⟩ | ⟨_, r, hr, hd⟩
      · exfalso
        obtain ⟨y, ys, h1, _, _⟩ := relL_cons_iff.1 hbad
        rcases h1 with h1 | ⟨_, h1⟩
        · cases h1
        · simp only [relC, relCs] at h1
          obtain ⟨_, _, h1, _⟩ := h1
          exact h1
      · simp only [List.cons.injEq, V.agg.injEq, V.int.injEq, true_and, and_true] at hr
        have : W5.heap.size = r := by omega
        rw [this]; exact hd
    have hrest : rest = [] := hr8
    have hDw : w.heap[W5.heap.size]? = some (.deferred (some [])) := (p2.frame _ (.inr rfl)).1.trans hD
    have F9 : Fits Pg ⟨fun c => B.F c ∨ False, Wl⟩ ι' H7.ah (w.putObj W5.heap.size (.deferred none)) := by
      refine fits_put (Fits.rebase (B' := ⟨fun c => B.F c ∨ c = W5.heap.size, Wl⟩) ⟨fun c hc => ⟨hc.elim .inl fun h => h.elim, rfl⟩, rfl, rfl, rfl, Nat.le_refl _⟩ p2) hDw ⟨fun _ _ _ h => (by cases h), fun _ _ h => (by cases h), fun _ _ h => (by cases h), fun _ _ _ _ h => (by cases h)⟩ ?_
      rintro (h | h)
      · exact nD h
      · exact h
    have hres : aRes Pg e' H7.ah Tryz.f155.results.toList = some [.slc none 0, .int .u64 1] := by
      show aRes Pg e' H7.ah [.tmp 6, .tmp 7] = _
      simp only [aRes, p6 6, p6 7, g6, g7]
    obtain ⟨v, hv1, hv2⟩ := run_results okP F9 p3 hres
    show LeavesInM Fence.wide 0 Pg Tryz.f155 a.tmps _ a.defers .returning w
    rw [hd, hdm, hrest]
    refine ⟨by simp, .inl ⟨W5.heap.size, _, rfl, run_takeDeferred hDw, ?_⟩⟩
    exact ⟨v, hv1, ι', H7.ah, .ret (one [.slc none 0, .int .u64 1]), Names.le_trans ll (Names.le_trans l6 p1), F9.rebase (BaseLe.grow F5 (fun _ => False) hb ho ht hpp (by omega)), hv2, rfl⟩
  | _ => exact p4.elim
theorem itemsP (hh : HdOk Pg hd) (h : AH) : ACalls Pg 155 args h (pureE (.tup [.slc none 0, .int .u64 1]) h) := lift_nil rfl rfl (itemsC0 hh) h
end Go.Proofs.YtcglbpjpbjaecaaGreat.It
