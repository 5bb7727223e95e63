import Derived.Test.YtdhlolcpcgpcnaaSa
set_option linter.unusedVariables false
set_option linter.unusedSimpArgs false
namespace Go.Proofs.Ytdhlolcpcgpcnaa.Sh
open Go Go.Ab Go.RowKit
set_option linter.unusedSimpArgs false
set_option linter.unusedVariables false
set_option maxRecDepth 10000
def rz (k : Int) : V := (Rc.z k).v
theorem zero51 : zeroV Pg 51 = some (rz 0) := by kernel_rfl
theorem build51 (k : Int) : aBuild Pg 51 [(0, .int .u8 k)] = some (rz k) := by kernel_rfl
theorem shRz (k : Int) : hasShape Pg (rz k) 51 = true := shR _ (List.length_replicate ..)
theorem build42 (n : Int) : aBuild Pg 42 [(0, .bool true), (1, .int .u16 n)] = some (vPg true n) := by kernel_rfl
theorem bareC (r : Rc) (hi : r.im.length = 224) (q : AEnd → Prop) (c : q (.ret r.bare.v)) : ACalls Pg 39 [r.v] AH0 fun e _ => q e := by
  refine C39 _ r.v AH0 ?_
  repeat' (first
    | (with_reducible refine bindV_mk (new_mk (by first | with_unfolding_all exact shR _ hi | with_unfolding_all exact shRz _ | with_unfolding_all exact shIm hi | kernel_rfl)) ?_)
    | (with_reducible refine bindV_mk (al_mk zero51 (shRz 0)) ?_)
    | (with_reducible refine bindS_mk (build51 _) ?_)
    | (with_reducible refine And.intro (ld_mk (by with_unfolding_all exact rfl) (by kernel_rfl) (by with_unfolding_all exact rfl)) ?_)
    | (with_reducible refine bindS_mk build42 ?_)
    | (with_reducible refine bindSO_mk (build42 _) ?_)
    | (with_reducible refine bindR_mk (by with_unfolding_all exact rfl) ?_)
    | (with_reducible refine bindS_mk (fa_mk (by kernel_rfl)) ?_)
    | (with_reducible refine bindSO_mk (fa_mk (by kernel_rfl)) ?_)
    | (with_reducible refine bindV_mk (ld_mk (by with_unfolding_all exact rfl) (by kernel_rfl) (by with_unfolding_all exact rfl)) ?_)
    | (with_reducible refine bindVO_mk (ld_mk (by with_unfolding_all exact rfl) (by kernel_rfl) (by with_unfolding_all exact rfl)) ?_)
    | (with_reducible refine bindV_mk (st_mk (by with_unfolding_all exact rfl) (by kernel_rfl) (by with_unfolding_all exact rfl) (by first | with_unfolding_all exact shR _ hi | with_unfolding_all exact shRz _ | with_unfolding_all exact shIm hi | kernel_rfl) (by with_unfolding_all exact rfl)) ?_)
    | (with_reducible refine bindS_mk b_add ?_)
    | (with_reducible refine bindSO_mk b_add ?_)
    | (with_reducible refine bindS_mk b_sub ?_)
    | (with_reducible refine bindSO_mk b_sub ?_)
    | (with_reducible refine bindS_mk b_mul ?_)
    | (with_reducible refine bindSO_mk b_mul ?_)
    | (with_reducible refine bindS_mk b_eql ?_)
    | (with_reducible refine bindSO_mk b_eql ?_)
    | (with_reducible refine bindS_mk b_neq ?_)
    | (with_reducible refine bindSO_mk b_neq ?_)
    | (with_reducible refine bindS_mk b_lss ?_)
    | (with_reducible refine bindSO_mk b_lss ?_)
    | (with_reducible refine bindS_mk b_leq ?_)
    | (with_reducible refine bindSO_mk b_leq ?_)
    | (with_reducible refine bindS_mk b_gtr ?_)
    | (with_reducible refine bindSO_mk b_gtr ?_)
    | (with_reducible refine bindS_mk b_geq ?_)
    | (with_reducible refine bindSO_mk b_geq ?_)
    | (with_reducible refine bindS_mk t_eql ?_)
    | (with_reducible refine bindSO_mk t_eql ?_)
    | (with_reducible refine bindS_mk t_neq ?_)
    | (with_reducible refine bindSO_mk t_neq ?_)
    | (with_reducible refine bindS_mk u_not ?_)
    | (with_reducible refine bindSO_mk u_not ?_)
    | (with_reducible refine bindS_mk (b_quo (by decide)) ?_)
    | (with_reducible refine bindS_mk (b_rem (by decide)) ?_)
    | (with_reducible refine bindS_mk (cv_int .u64 (by kernel_rfl)) ?_)
    | (with_reducible refine bindSO_mk (cv_int .u64 (by kernel_rfl)) ?_)
    | (with_reducible refine bindS_mk (cv_int .i64 (by kernel_rfl)) ?_)
    | (with_reducible refine bindSO_mk (cv_int .i64 (by kernel_rfl)) ?_)
    | (with_reducible refine bindS_mk (cv_int .u8 (by kernel_rfl)) ?_)
    | (with_reducible refine bindSO_mk (cv_int .u8 (by kernel_rfl)) ?_)
    | (with_reducible refine bindS_mk (cv_int .u16 (by kernel_rfl)) ?_)
    | (with_reducible refine bindSO_mk (cv_int .u16 (by kernel_rfl)) ?_)
    | (with_reducible refine bindS_mk (cv_int .u32 (by kernel_rfl)) ?_)
    | (with_reducible refine bindSO_mk (cv_int .u32 (by kernel_rfl)) ?_)
    | (with_reducible refine bindV_mk (len_str (by kernel_rfl)) ?_)
    | (with_reducible refine bindVO_mk (len_str (by kernel_rfl)) ?_)
    | (with_reducible refine bindV_mk p_t ?_)
    | (with_reducible refine bindVO_mk p_t ?_)
    | (with_reducible refine bindV_mk p_f ?_)
    | (with_reducible refine bindVO_mk p_f ?_)
    | (with_reducible refine bindV_mk (pick_b _ _ _ _) ?_)
    | (with_reducible refine bindVO_mk (pick_b _ _ _ _) ?_)
    | (with_reducible refine g_tt ?_)
    | (with_reducible refine g_ft ?_)
    | (with_reducible refine g_tf ?_)
    | (with_reducible refine g_ff ?_)
    | (with_reducible refine g_hole ?_)
    | (with_reducible refine i_t ?_)
    | (with_reducible refine i_f ?_)
    | ((with_reducible refine i_split ?_ ?_) <;> intro hb <;> (try rw [hb]))
    | ((with_reducible refine g_split_t ?_ ?_) <;> intro hb <;> (try rw [hb]))
    | ((with_reducible refine g_split_f ?_ ?_) <;> intro hb <;> (try rw [hb]))
    | (with_reducible refine Meet.of (cast_p (J39_111_eq _ _ _ _) ?_))
    | (with_reducible refine Meet.of (cast_p (J39_11010000000001_eq _ _ _ _ _) ?_))
    | (with_reducible refine Meet.of (cast_p (J39_110100000001_eq _ _ _ _ _) ?_))
    | (with_reducible refine Meet.of (cast_p (J39_11010001_eq _ _ _ _ _) ?_))
    | (with_reducible refine Meet.of (cast_p (J39_1101000001_eq _ _ _ _ _) ?_))
    | (with_reducible refine Meet.of (cast_p (J39_110101_eq _ _ _ _ _) ?_))
    | (with_reducible refine Meet.of (cast_p (J39_1101000000000001_eq _ _ _ _) ?_))
    | (with_reducible refine Meet.of (cast_p (J39_11010000000000001111_eq _ _ _ _ _ _) ?_))
    | (with_reducible refine Meet.of (cast_p (J39_110100000000000011101_eq _ _ _ _ _ _ _) ?_))
    | (with_reducible refine Meet.of (cast_p (J39_1101000000000000111_eq _ _ _ _ _ _) ?_))
    | (with_reducible refine Meet.of (cast_p (J39_110100000000000011_eq _ _ _ _ _ _) ?_))
    | (with_reducible refine Meet.of (cast_p (J39_11010000000000001_eq _ _ _ _ _ _) ?_))
    )
  all_goals (
    simp only [beq_iff_eq, beq_eq_false_iff_ne, ne_eq] at *
    unfold Rc.bare at c
    repeat (first | rw [if_pos (by assumption)] at c | rw [if_neg (by assumption)] at c)
    first | exact c | with_unfolding_all exact c)
theorem bareP (r : Rc) (hi : r.im.length = 224) (h : AH) : ACalls Pg 39 [r.v] h (pureE r.bare.v h) := pure_lift (flat_args r) (flat_rec _) (bareC r hi _ rfl) h
end Go.Proofs.Ytdhlolcpcgpcnaa.Sh
namespace Go.Proofs.Ytdhlolcpcgpcnaa.Sh
open Go Go.Ab Go.RowKit
set_option linter.unusedSimpArgs false
set_option linter.unusedVariables false
set_option maxRecDepth 10000
theorem conv {q : AEnd → Prop} {a b : Bool} (c : q (.ret (.bool a))) (e : a = b) : q (.ret (.bool b)) := e ▸ c
/-- May there be such a record? -/
def Rc.may (r : Rc) : Bool := decide (1 ≤ r.k) && decide (r.k ≤ 6) && decide (r.bare = r) && decide (r.dl.length ≤ 66) && decide (r.od.length ≤ 66)
theorem mayC (r : Rc) (hi : r.im.length = 224) (q : AEnd → Prop) (c : q (.ret (.bool r.may))) : ACalls Pg 31 [r.v] AH0 fun e _ => q e := by
  refine C31 _ r.v AH0 ?_
  repeat' (first
    | (refine ⟨_, bareP _ hi _, ?_⟩)
    | (with_reducible refine bindSO_mk (eq51 _ _ (Rc.bare_im _ hi) hi _) ?_)
    | (with_reducible refine bindV_mk (new_mk (by first | with_unfolding_all exact shR _ hi | with_unfolding_all exact shRz _ | with_unfolding_all exact shIm hi | kernel_rfl)) ?_)
    | (with_reducible refine bindV_mk (al_mk zero51 (shRz 0)) ?_)
    | (with_reducible refine bindS_mk (build51 _) ?_)
    | (with_reducible refine And.intro (ld_mk (by with_unfolding_all exact rfl) (by kernel_rfl) (by with_unfolding_all exact rfl)) ?_)
    | (with_reducible refine bindS_mk build42 ?_)
    | (with_reducible refine bindSO_mk (build42 _) ?_)
    | (with_reducible refine bindR_mk (by with_unfolding_all exact rfl) ?_)
    | (with_reducible refine bindS_mk (fa_mk (by kernel_rfl)) ?_)
    | (with_reducible refine bindSO_mk (fa_mk (by kernel_rfl)) ?_)
    | (with_reducible refine bindV_mk (ld_mk (by with_unfolding_all exact rfl) (by kernel_rfl) (by with_unfolding_all exact rfl)) ?_)
    | (with_reducible refine bindVO_mk (ld_mk (by with_unfolding_all exact rfl) (by kernel_rfl) (by with_unfolding_all exact rfl)) ?_)
    | (with_reducible refine bindV_mk (st_mk (by with_unfolding_all exact rfl) (by kernel_rfl) (by with_unfolding_all exact rfl) (by first | with_unfolding_all exact shR _ hi | with_unfolding_all exact shRz _ | with_unfolding_all exact shIm hi | kernel_rfl) (by with_unfolding_all exact rfl)) ?_)
    | (with_reducible refine bindS_mk b_add ?_)
    | (with_reducible refine bindSO_mk b_add ?_)
    | (with_reducible refine bindS_mk b_sub ?_)
    | (with_reducible refine bindSO_mk b_sub ?_)
    | (with_reducible refine bindS_mk b_mul ?_)
    | (with_reducible refine bindSO_mk b_mul ?_)
    | (with_reducible refine bindS_mk b_eql ?_)
    | (with_reducible refine bindSO_mk b_eql ?_)
    | (with_reducible refine bindS_mk b_neq ?_)
    | (with_reducible refine bindSO_mk b_neq ?_)
    | (with_reducible refine bindS_mk b_lss ?_)
    | (with_reducible refine bindSO_mk b_lss ?_)
    | (with_reducible refine bindS_mk b_leq ?_)
    | (with_reducible refine bindSO_mk b_leq ?_)
    | (with_reducible refine bindS_mk b_gtr ?_)
    | (with_reducible refine bindSO_mk b_gtr ?_)
    | (with_reducible refine bindS_mk b_geq ?_)
    | (with_reducible refine bindSO_mk b_geq ?_)
    | (with_reducible refine bindS_mk t_eql ?_)
    | (with_reducible refine bindSO_mk t_eql ?_)
    | (with_reducible refine bindS_mk t_neq ?_)
    | (with_reducible refine bindSO_mk t_neq ?_)
    | (with_reducible refine bindS_mk u_not ?_)
    | (with_reducible refine bindSO_mk u_not ?_)
    | (with_reducible refine bindS_mk (b_quo (by decide)) ?_)
    | (with_reducible refine bindS_mk (b_rem (by decide)) ?_)
    | (with_reducible refine bindS_mk (cv_int .u64 (by kernel_rfl)) ?_)
    | (with_reducible refine bindSO_mk (cv_int .u64 (by kernel_rfl)) ?_)
    | (with_reducible refine bindS_mk (cv_int .i64 (by kernel_rfl)) ?_)
    | (with_reducible refine bindSO_mk (cv_int .i64 (by kernel_rfl)) ?_)
    | (with_reducible refine bindS_mk (cv_int .u8 (by kernel_rfl)) ?_)
    | (with_reducible refine bindSO_mk (cv_int .u8 (by kernel_rfl)) ?_)
    | (with_reducible refine bindS_mk (cv_int .u16 (by kernel_rfl)) ?_)
    | (with_reducible refine bindSO_mk (cv_int .u16 (by kernel_rfl)) ?_)
    | (with_reducible refine bindS_mk (cv_int .u32 (by kernel_rfl)) ?_)
    | (with_reducible refine bindSO_mk (cv_int .u32 (by kernel_rfl)) ?_)
    | (with_reducible refine bindV_mk (len_str (by kernel_rfl)) ?_)
    | (with_reducible refine bindVO_mk (len_str (by kernel_rfl)) ?_)
    | (with_reducible refine bindV_mk p_t ?_)
    | (with_reducible refine bindVO_mk p_t ?_)
    | (with_reducible refine bindV_mk p_f ?_)
    | (with_reducible refine bindVO_mk p_f ?_)
    | (with_reducible refine bindV_mk (pick_b _ _ _ _) ?_)
    | (with_reducible refine bindVO_mk (pick_b _ _ _ _) ?_)
    | (with_reducible refine g_tt ?_)
    | (with_reducible refine g_ft ?_)
    | (with_reducible refine g_tf ?_)
    | (with_reducible refine g_ff ?_)
    | (with_reducible refine g_hole ?_)
    | (with_reducible refine i_t ?_)
    | (with_reducible refine i_f ?_)
    | ((with_reducible refine i_split ?_ ?_) <;> intro hb <;> (try rw [hb]))
    | ((with_reducible refine g_split_t ?_ ?_) <;> intro hb <;> (try rw [hb]))
    | ((with_reducible refine g_split_f ?_ ?_) <;> intro hb <;> (try rw [hb]))
    | (with_reducible refine Meet.of (cast_p (J31_11_eq _ _ _) ?_))
    | (with_reducible refine Meet.of (cast_p (G31_101008_eq _ _ _ _) ?_))
    | (with_reducible refine Meet.of (cast_p (G31_101006_eq _ _ _ _ _) ?_))
    | (with_reducible refine Meet.of (cast_p (G31_101004_eq _ _ _ _ _) ?_))
    | (with_reducible refine Meet.of (cast_p (G31_101002_eq _ _ _ _ _) ?_))
    )
  all_goals (
    refine conv c ?_
    unfold Rc.may
    simp only [ge_iff_le] at *
    first
      | (simp only [*, Bool.and_true, Bool.true_and, Bool.and_false, Bool.false_and]; done)
      | (simp only [*, Bool.and_true, Bool.true_and, Bool.and_false, Bool.false_and]; rw [Bool.eq_iff_iff]; simp only [decide_eq_true_eq, Bool.false_eq_true, iff_false, Bool.and_eq_true, decide_eq_false_iff_not] at *; omega))
theorem mayP (r : Rc) (hi : r.im.length = 224) (h : AH) : ACalls Pg 31 [r.v] h (pureE (.bool r.may) h) := pure_lift (flat_args r) rfl (mayC r hi _ rfl) h
end Go.Proofs.Ytdhlolcpcgpcnaa.Sh
namespace Go.Proofs.Ytdhlolcpcgpcnaa.Sh
open Go Go.Ab Go.RowKit
set_option linter.unusedSimpArgs false
set_option linter.unusedVariables false
set_option maxRecDepth 10000

def zr (p s : Int) : Bool := (p == 0) && ((s == 0) && true)
def zp (u : Bool) (n : Int) : Bool := (u == false) && ((n == 0) && true)
def zo (a : Bool) (b c d e : Int) (f : List UInt8) : Bool := (a == false) && ((b == 0) && ((c == 0) && (zr d e && ((f == []) && true))))
theorem build44 : aBuild Pg 44 [] = some (vIm im0) := by kernel_rfl
theorem build49 : aBuild Pg 49 [] = some (vOld false 0 0 0 0 []) := by kernel_rfl
theorem build47 : aBuild Pg 47 [] = some (vRef 0 0) := by kernel_rfl
theorem build42z : aBuild Pg 42 [] = some (vPg false 0) := by kernel_rfl
theorem eqA (t : TypeId) (a b : List V) (c x : Bool) (h1 : eqOk Pg t (.agg a) (.agg b) c = true) (h2 : plainT Pg 20 t = true) (h3 : hasShape Pg (.agg a) t = true) (h4 : hasShape Pg (.agg b) t = true) (h : beqV (.agg a) (.agg b) = some x) :
    aBin Pg .eql t (.agg a) (.agg b) c = some (.bool x) := by
  have h0 : aBin Pg .eql t (.agg a) (.agg b) c = if eqOk Pg t (.agg a) (.agg b) c = true then (aEq Pg t (.agg a) (.agg b)).map .bool else none := rfl
  rw [h0, h1, if_pos rfl]
  unfold aEq
  rw [h2, if_pos rfl, h3, h4, h]
  rfl
theorem eq47 (p s : Int) (c : Bool) : aBin Pg .eql 47 (vRef p s) (vRef 0 0) c = some (.bool (zr p s)) :=
  eqA 47 _ _ c _ (by kernel_rfl) (by kernel_rfl) (by kernel_rfl) (by kernel_rfl) (bq_a (beqVs_c bq_i (beqVs_c bq_i beqVs_n)))
theorem eq42 (u : Bool) (n : Int) (c : Bool) : aBin Pg .eql 42 (vPg u n) (vPg false 0) c = some (.bool (zp u n)) :=
  eqA 42 _ _ c _ (by kernel_rfl) (by kernel_rfl) (by kernel_rfl) (by kernel_rfl) (bq_a (beqVs_c bq_b (beqVs_c bq_i beqVs_n)))
theorem eq49 (a : Bool) (b c d e : Int) (f : List UInt8) (x : Bool) : aBin Pg .eql 49 (vOld a b c d e f) (vOld false 0 0 0 0 []) x = some (.bool (zo a b c d e f)) :=
  eqA 49 _ _ x _ (by kernel_rfl) (by kernel_rfl) (by kernel_rfl) (by kernel_rfl) (bq_a (beqVs_c bq_b (beqVs_c bq_i (beqVs_c bq_i (beqVs_c (bq_a (beqVs_c bq_i (beqVs_c bq_i beqVs_n))) (beqVs_c bq_s beqVs_n))))))
theorem eq44 (l : List Int) (h : l.length = 224) (c : Bool) : aBin Pg .eql 44 (vIm l) (vIm im0) c = some (.bool (l == im0)) :=
  eqA 44 _ _ c _ (by kernel_rfl) (by kernel_rfl) (shIm h) (shIm (List.length_replicate ..)) (bq_a (beq_im _ _ (by rw [h]; exact (List.length_replicate ..).symm)))
def Rc.plain (r : Rc) : Bool := (r.ts == 0) && zr r.pp r.ps && (r.dl == [])
def Rc.zold (r : Rc) : Bool := zo r.live r.op r.ots r.onp r.ons r.od
def Rc.mayRef (r : Rc) : Bool :=
  if r.k = 1 then r.plain && (r.sl == 0) && r.zold
  else if r.k = 2 then !r.undo && (r.im == im0) && (r.sl == 0) && r.zold && decide (r.dl.length ≤ 66)
  else if r.k = 3 then r.undo && (r.im == im0) && r.plain && r.live && decide (r.od.length ≤ 66)
  else if r.k = 4 then r.undo && (r.im == im0) && r.plain && r.zold
  else if r.k = 5 then r.undo && (r.im == im0) && r.plain && r.zold
  else if r.k = 6 then zp r.undo r.no && (r.im == im0) && zr r.pp r.ps && (r.dl == []) && (r.sl == 0) && r.zold
  else false
theorem may_eq (r : Rc) : r.may = r.mayRef := by
  obtain ⟨k, r2, r3, r4, r5, r6, r7, r8, r9, ra, rb, rc, rd, re, rf⟩ := r
  rw [Bool.eq_iff_iff]
  unfold Rc.may Rc.mayRef Rc.bare Rc.plain Rc.zold zo zr zp
  simp only [Bool.and_eq_true, decide_eq_true_eq]
  by_cases h1 : k = 1
  · subst h1; simp only [Rc.z, Rc.mk.injEq, if_true, Nat.reduceEqDiff, Int.reduceEq, if_false, reduceCtorEq, true_and, and_true, Int.reduceLE, beq_iff_eq, Bool.and_eq_true, Bool.not_eq_true', decide_eq_true_eq]; constructor <;> grind
  by_cases h2 : k = 2
  · subst h2; simp only [Rc.z, Rc.mk.injEq, if_true, Nat.reduceEqDiff, Int.reduceEq, if_false, reduceCtorEq, true_and, and_true, Int.reduceLE, beq_iff_eq, Bool.and_eq_true, Bool.not_eq_true', decide_eq_true_eq]; constructor <;> grind
  by_cases h3 : k = 3
  · subst h3; simp only [Rc.z, Rc.mk.injEq, if_true, Nat.reduceEqDiff, Int.reduceEq, if_false, reduceCtorEq, true_and, and_true, Int.reduceLE, beq_iff_eq, Bool.and_eq_true, Bool.not_eq_true', decide_eq_true_eq]; constructor <;> grind
  by_cases h4 : k = 4
  · subst h4; simp only [Rc.z, Rc.mk.injEq, if_true, Nat.reduceEqDiff, Int.reduceEq, if_false, reduceCtorEq, true_and, and_true, Int.reduceLE, beq_iff_eq, Bool.and_eq_true, Bool.not_eq_true', decide_eq_true_eq]; constructor <;> grind
  by_cases h5 : k = 5
  · subst h5; simp only [Rc.z, Rc.mk.injEq, if_true, Nat.reduceEqDiff, Int.reduceEq, if_false, reduceCtorEq, true_and, and_true, Int.reduceLE, beq_iff_eq, Bool.and_eq_true, Bool.not_eq_true', decide_eq_true_eq]; constructor <;> grind
  by_cases h6 : k = 6
  · subst h6; simp only [Rc.z, Rc.mk.injEq, if_true, Nat.reduceEqDiff, Int.reduceEq, if_false, reduceCtorEq, true_and, and_true, Int.reduceLE, beq_iff_eq, Bool.and_eq_true, Bool.not_eq_true', decide_eq_true_eq]; constructor <;> grind
  simp only [h1, h2, h3, h4, h5, h6, if_false, Bool.false_eq_true, iff_false]
  omega
end Go.Proofs.Ytdhlolcpcgpcnaa.Sh
namespace Go.Proofs.Ytdhlolcpcgpcnaa.Sh
open Go Go.Ab Go.RowKit
set_option linter.unusedSimpArgs false
set_option linter.unusedVariables false
set_option maxRecDepth 10000
set_option maxHeartbeats 4000000
def mayB (z o u p : Bool) (r : Rc) : Bool :=
  if r.k = 1 then p && (r.sl == 0) && o
  else if r.k = 2 then !u && z && (r.sl == 0) && o && decide (r.dl.length ≤ 66)
  else if r.k = 3 then u && z && p && r.live && decide (r.od.length ≤ 66)
  else if r.k = 4 then u && z && p && o
  else if r.k = 5 then u && z && p && o
  else if r.k = 6 then zp r.undo r.no && z && zr r.pp r.ps && (r.dl == []) && (r.sl == 0) && o
  else false
theorem mayB_eq (r : Rc) : mayB (r.im == im0) r.zold r.undo r.plain r = r.mayRef := rfl
theorem mayR_tail (r : Rc) (hi : r.im.length = 224) (q : AEnd → Prop) (z o u p : Bool) (c : q (.ret (.bool (mayB z o u p r)))) :
    J37_11111 (fun e _ => q e) (.ptr (some ⟨AH0.next, .one 51, []⟩)) (.bool z) (.bool o) (.bool u) (.bool p) (AH0.make (.cells true (.one 51) r.v)) := by
  rw [J37_11111_eq]
  repeat' (first
    | (with_reducible refine bindS_mk build44 ?_)
    | (with_reducible refine bindS_mk build47 ?_)
    | (with_reducible refine bindS_mk build49 ?_)
    | (with_reducible refine bindS_mk build42z ?_)
    | (with_reducible refine bindS_mk (eq44 _ hi _) ?_)
    | (with_reducible refine bindS_mk (eq47 _ _ _) ?_)
    | (with_reducible refine bindS_mk (eq42 _ _ _) ?_)
    | (with_reducible refine bindS_mk (eq49 _ _ _ _ _ _ _) ?_)
    | (with_reducible refine bindV_mk (new_mk (by first | with_unfolding_all exact shR _ hi | with_unfolding_all exact shRz _ | with_unfolding_all exact shIm hi | kernel_rfl)) ?_)
    | (with_reducible refine bindV_mk (al_mk zero51 (shRz 0)) ?_)
    | (with_reducible refine bindS_mk (build51 _) ?_)
    | (with_reducible refine And.intro (ld_mk (by with_unfolding_all exact rfl) (by kernel_rfl) (by with_unfolding_all exact rfl)) ?_)
    | (with_reducible refine bindS_mk build42 ?_)
    | (with_reducible refine bindSO_mk (build42 _) ?_)
    | (with_reducible refine bindR_mk (by with_unfolding_all exact rfl) ?_)
    | (with_reducible refine bindS_mk (fa_mk (by kernel_rfl)) ?_)
    | (with_reducible refine bindSO_mk (fa_mk (by kernel_rfl)) ?_)
    | (with_reducible refine bindV_mk (ld_mk (by with_unfolding_all exact rfl) (by kernel_rfl) (by with_unfolding_all exact rfl)) ?_)
    | (with_reducible refine bindVO_mk (ld_mk (by with_unfolding_all exact rfl) (by kernel_rfl) (by with_unfolding_all exact rfl)) ?_)
    | (with_reducible refine bindV_mk (st_mk (by with_unfolding_all exact rfl) (by kernel_rfl) (by with_unfolding_all exact rfl) (by first | with_unfolding_all exact shR _ hi | with_unfolding_all exact shRz _ | with_unfolding_all exact shIm hi | kernel_rfl) (by with_unfolding_all exact rfl)) ?_)
    | (with_reducible refine bindS_mk b_add ?_)
    | (with_reducible refine bindSO_mk b_add ?_)
    | (with_reducible refine bindS_mk b_sub ?_)
    | (with_reducible refine bindSO_mk b_sub ?_)
    | (with_reducible refine bindS_mk b_mul ?_)
    | (with_reducible refine bindSO_mk b_mul ?_)
    | (with_reducible refine bindS_mk b_eql ?_)
    | (with_reducible refine bindSO_mk b_eql ?_)
    | (with_reducible refine bindS_mk b_neq ?_)
    | (with_reducible refine bindSO_mk b_neq ?_)
    | (with_reducible refine bindS_mk b_lss ?_)
    | (with_reducible refine bindSO_mk b_lss ?_)
    | (with_reducible refine bindS_mk b_leq ?_)
    | (with_reducible refine bindSO_mk b_leq ?_)
    | (with_reducible refine bindS_mk b_gtr ?_)
    | (with_reducible refine bindSO_mk b_gtr ?_)
    | (with_reducible refine bindS_mk b_geq ?_)
    | (with_reducible refine bindSO_mk b_geq ?_)
    | (with_reducible refine bindS_mk t_eql ?_)
    | (with_reducible refine bindSO_mk t_eql ?_)
    | (with_reducible refine bindS_mk t_neq ?_)
    | (with_reducible refine bindSO_mk t_neq ?_)
    | (with_reducible refine bindS_mk u_not ?_)
    | (with_reducible refine bindSO_mk u_not ?_)
    | (with_reducible refine bindS_mk (b_quo (by decide)) ?_)
    | (with_reducible refine bindS_mk (b_rem (by decide)) ?_)
    | (with_reducible refine bindS_mk (cv_int .u64 (by kernel_rfl)) ?_)
    | (with_reducible refine bindSO_mk (cv_int .u64 (by kernel_rfl)) ?_)
    | (with_reducible refine bindS_mk (cv_int .i64 (by kernel_rfl)) ?_)
    | (with_reducible refine bindSO_mk (cv_int .i64 (by kernel_rfl)) ?_)
    | (with_reducible refine bindS_mk (cv_int .u8 (by kernel_rfl)) ?_)
    | (with_reducible refine bindSO_mk (cv_int .u8 (by kernel_rfl)) ?_)
    | (with_reducible refine bindS_mk (cv_int .u16 (by kernel_rfl)) ?_)
    | (with_reducible refine bindSO_mk (cv_int .u16 (by kernel_rfl)) ?_)
    | (with_reducible refine bindS_mk (cv_int .u32 (by kernel_rfl)) ?_)
    | (with_reducible refine bindSO_mk (cv_int .u32 (by kernel_rfl)) ?_)
    | (with_reducible refine bindV_mk (len_str (by kernel_rfl)) ?_)
    | (with_reducible refine bindVO_mk (len_str (by kernel_rfl)) ?_)
    | (with_reducible refine bindV_mk p_t ?_)
    | (with_reducible refine bindVO_mk p_t ?_)
    | (with_reducible refine bindV_mk p_f ?_)
    | (with_reducible refine bindVO_mk p_f ?_)
    | (with_reducible refine bindV_mk (pick_b _ _ _ _) ?_)
    | (with_reducible refine bindVO_mk (pick_b _ _ _ _) ?_)
    | (with_reducible refine g_tt ?_)
    | (with_reducible refine g_ft ?_)
    | (with_reducible refine g_tf ?_)
    | (with_reducible refine g_ff ?_)
    | (with_reducible refine g_hole ?_)
    | (with_reducible refine i_t ?_)
    | (with_reducible refine i_f ?_)
    | ((with_reducible refine i_split ?_ ?_) <;> intro hb <;> (try rw [hb]))
    | ((with_reducible refine g_split_t ?_ ?_) <;> intro hb <;> (try rw [hb]))
    | ((with_reducible refine g_split_f ?_ ?_) <;> intro hb <;> (try rw [hb]))
    | (with_reducible refine Meet.of (cast_p (J37_11111010101_eq _ _ _) ?_))
    | (with_reducible refine Meet.of (cast_p (G37_111110101001004_eq _ _ _ _) ?_))
    | (with_reducible refine Meet.of (cast_p (G37_111110101001002_eq _ _ _ _ _) ?_))
    | (with_reducible refine Meet.of (cast_p (J37_1111101011101_eq _ _ _) ?_))
    | (with_reducible refine Meet.of (cast_p (G37_11111010111001008_eq _ _ _ _) ?_))
    | (with_reducible refine Meet.of (cast_p (G37_11111010111001006_eq _ _ _ _ _) ?_))
    | (with_reducible refine Meet.of (cast_p (G37_11111010111001004_eq _ _ _ _ _ _) ?_))
    | (with_reducible refine Meet.of (cast_p (G37_11111010111001002_eq _ _ _ _ _ _) ?_))
    | (with_reducible refine Meet.of (cast_p (J37_111110101111101_eq _ _ _) ?_))
    | (with_reducible refine Meet.of (cast_p (G37_1111101011111001008_eq _ _ _ _) ?_))
    | (with_reducible refine Meet.of (cast_p (G37_1111101011111001006_eq _ _ _ _ _) ?_))
    | (with_reducible refine Meet.of (cast_p (G37_1111101011111001004_eq _ _ _ _ _) ?_))
    | (with_reducible refine Meet.of (cast_p (G37_1111101011111001002_eq _ _ _ _ _ _) ?_))
    | (with_reducible refine Meet.of (cast_p (J37_11111010111111101_eq _ _ _) ?_))
    | (with_reducible refine Meet.of (cast_p (G37_111110101111111001006_eq _ _ _ _) ?_))
    | (with_reducible refine Meet.of (cast_p (G37_111110101111111001004_eq _ _ _ _ _) ?_))
    | (with_reducible refine Meet.of (cast_p (G37_111110101111111001002_eq _ _ _ _ _ _) ?_))
    | (with_reducible refine Meet.of (cast_p (J37_1111101011111111101_eq _ _ _) ?_))
    | (with_reducible refine Meet.of (cast_p (G37_11111010111111111001010_eq _ _ _ _) ?_))
    | (with_reducible refine Meet.of (cast_p (G37_11111010111111111001008_eq _ _ _ _ _) ?_))
    | (with_reducible refine Meet.of (cast_p (G37_11111010111111111001006_eq _ _ _ _ _ _) ?_))
    | (with_reducible refine Meet.of (cast_p (G37_11111010111111111001004_eq _ _ _ _ _ _) ?_))
    | (with_reducible refine Meet.of (cast_p (G37_11111010111111111001002_eq _ _ _ _ _ _) ?_))
    | (with_reducible refine Meet.of (cast_p (J37_111111_eq _ _) ?_))
    | (with_reducible refine Meet.of (cast_p (J37_111110101111111_eq _ _ _ _ _ _ _ _ _) ?_))
    | (with_reducible refine Meet.of (cast_p (G37_111101004_eq _ _ _ _ _ _ _ _) ?_))
    | (with_reducible refine Meet.of (cast_p (G37_111101002_eq _ _ _ _ _ _ _ _) ?_))
    )
  all_goals (
    refine conv c ?_
    unfold mayB
    simp only [beq_iff_eq, beq_eq_false_iff_ne, ne_eq] at *
    repeat (first | rw [if_pos (by assumption)] | rw [if_neg (by assumption)])
    first | done | (simp [*]; done) | (simp [*]; omega) | (rw [Bool.eq_iff_iff]; simp [*]; omega))
end Go.Proofs.Ytdhlolcpcgpcnaa.Sh
namespace Go.Proofs.Ytdhlolcpcgpcnaa.Sh
open Go Go.Ab Go.RowKit
set_option linter.unusedSimpArgs false
set_option linter.unusedVariables false
set_option maxRecDepth 10000
set_option maxHeartbeats 4000000
theorem mayRC (r : Rc) (hi : r.im.length = 224) (q : AEnd → Prop) (c : q (.ret (.bool r.mayRef))) : ACalls Pg 37 [r.v] AH0 fun e _ => q e := by
  rw [← mayB_eq] at c
  refine C37 _ r.v AH0 ?_
  repeat' (first
    | (with_reducible refine bindS_mk build44 ?_)
    | (with_reducible refine bindS_mk build47 ?_)
    | (with_reducible refine bindS_mk build49 ?_)
    | (with_reducible refine bindS_mk build42z ?_)
    | (with_reducible refine bindS_mk (eq44 _ hi _) ?_)
    | (with_reducible refine bindS_mk (eq47 _ _ _) ?_)
    | (with_reducible refine bindS_mk (eq42 _ _ _) ?_)
    | (with_reducible refine bindS_mk (eq49 _ _ _ _ _ _ _) ?_)
    | (with_reducible refine Meet.of (mayR_tail r hi q _ _ _ _ ?_))
    | (with_reducible refine bindV_mk (new_mk (by first | with_unfolding_all exact shR _ hi | with_unfolding_all exact shRz _ | with_unfolding_all exact shIm hi | kernel_rfl)) ?_)
    | (with_reducible refine bindV_mk (al_mk zero51 (shRz 0)) ?_)
    | (with_reducible refine bindS_mk (build51 _) ?_)
    | (with_reducible refine And.intro (ld_mk (by with_unfolding_all exact rfl) (by kernel_rfl) (by with_unfolding_all exact rfl)) ?_)
    | (with_reducible refine bindS_mk build42 ?_)
    | (with_reducible refine bindSO_mk (build42 _) ?_)
    | (with_reducible refine bindR_mk (by with_unfolding_all exact rfl) ?_)
    | (with_reducible refine bindS_mk (fa_mk (by kernel_rfl)) ?_)
    | (with_reducible refine bindSO_mk (fa_mk (by kernel_rfl)) ?_)
    | (with_reducible refine bindV_mk (ld_mk (by with_unfolding_all exact rfl) (by kernel_rfl) (by with_unfolding_all exact rfl)) ?_)
    | (with_reducible refine bindVO_mk (ld_mk (by with_unfolding_all exact rfl) (by kernel_rfl) (by with_unfolding_all exact rfl)) ?_)
    | (with_reducible refine bindV_mk (st_mk (by with_unfolding_all exact rfl) (by kernel_rfl) (by with_unfolding_all exact rfl) (by first | with_unfolding_all exact shR _ hi | with_unfolding_all exact shRz _ | with_unfolding_all exact shIm hi | kernel_rfl) (by with_unfolding_all exact rfl)) ?_)
    | (with_reducible refine bindS_mk b_add ?_)
    | (with_reducible refine bindSO_mk b_add ?_)
    | (with_reducible refine bindS_mk b_sub ?_)
    | (with_reducible refine bindSO_mk b_sub ?_)
    | (with_reducible refine bindS_mk b_mul ?_)
    | (with_reducible refine bindSO_mk b_mul ?_)
    | (with_reducible refine bindS_mk b_eql ?_)
    | (with_reducible refine bindSO_mk b_eql ?_)
    | (with_reducible refine bindS_mk b_neq ?_)
    | (with_reducible refine bindSO_mk b_neq ?_)
    | (with_reducible refine bindS_mk b_lss ?_)
    | (with_reducible refine bindSO_mk b_lss ?_)
    | (with_reducible refine bindS_mk b_leq ?_)
    | (with_reducible refine bindSO_mk b_leq ?_)
    | (with_reducible refine bindS_mk b_gtr ?_)
    | (with_reducible refine bindSO_mk b_gtr ?_)
    | (with_reducible refine bindS_mk b_geq ?_)
    | (with_reducible refine bindSO_mk b_geq ?_)
    | (with_reducible refine bindS_mk t_eql ?_)
    | (with_reducible refine bindSO_mk t_eql ?_)
    | (with_reducible refine bindS_mk t_neq ?_)
    | (with_reducible refine bindSO_mk t_neq ?_)
    | (with_reducible refine bindS_mk u_not ?_)
    | (with_reducible refine bindSO_mk u_not ?_)
    | (with_reducible refine bindS_mk (b_quo (by decide)) ?_)
    | (with_reducible refine bindS_mk (b_rem (by decide)) ?_)
    | (with_reducible refine bindS_mk (cv_int .u64 (by kernel_rfl)) ?_)
    | (with_reducible refine bindSO_mk (cv_int .u64 (by kernel_rfl)) ?_)
    | (with_reducible refine bindS_mk (cv_int .i64 (by kernel_rfl)) ?_)
    | (with_reducible refine bindSO_mk (cv_int .i64 (by kernel_rfl)) ?_)
    | (with_reducible refine bindS_mk (cv_int .u8 (by kernel_rfl)) ?_)
    | (with_reducible refine bindSO_mk (cv_int .u8 (by kernel_rfl)) ?_)
    | (with_reducible refine bindS_mk (cv_int .u16 (by kernel_rfl)) ?_)
    | (with_reducible refine bindSO_mk (cv_int .u16 (by kernel_rfl)) ?_)
    | (with_reducible refine bindS_mk (cv_int .u32 (by kernel_rfl)) ?_)
    | (with_reducible refine bindSO_mk (cv_int .u32 (by kernel_rfl)) ?_)
    | (with_reducible refine bindV_mk (len_str (by kernel_rfl)) ?_)
    | (with_reducible refine bindVO_mk (len_str (by kernel_rfl)) ?_)
    | (with_reducible refine bindV_mk p_t ?_)
    | (with_reducible refine bindVO_mk p_t ?_)
    | (with_reducible refine bindV_mk p_f ?_)
    | (with_reducible refine bindVO_mk p_f ?_)
    | (with_reducible refine bindV_mk (pick_b _ _ _ _) ?_)
    | (with_reducible refine bindVO_mk (pick_b _ _ _ _) ?_)
    | (with_reducible refine g_tt ?_)
    | (with_reducible refine g_ft ?_)
    | (with_reducible refine g_tf ?_)
    | (with_reducible refine g_ff ?_)
    | (with_reducible refine g_hole ?_)
    | (with_reducible refine i_t ?_)
    | (with_reducible refine i_f ?_)
    | ((with_reducible refine i_split ?_ ?_) <;> intro hb <;> (try rw [hb]))
    | ((with_reducible refine g_split_t ?_ ?_) <;> intro hb <;> (try rw [hb]))
    | ((with_reducible refine g_split_f ?_ ?_) <;> intro hb <;> (try rw [hb]))
    | (with_reducible refine Meet.of (cast_p (J37_11111010101_eq _ _ _) ?_))
    | (with_reducible refine Meet.of (cast_p (G37_111110101001004_eq _ _ _ _) ?_))
    | (with_reducible refine Meet.of (cast_p (G37_111110101001002_eq _ _ _ _ _) ?_))
    | (with_reducible refine Meet.of (cast_p (J37_1111101011101_eq _ _ _) ?_))
    | (with_reducible refine Meet.of (cast_p (G37_11111010111001008_eq _ _ _ _) ?_))
    | (with_reducible refine Meet.of (cast_p (G37_11111010111001006_eq _ _ _ _ _) ?_))
    | (with_reducible refine Meet.of (cast_p (G37_11111010111001004_eq _ _ _ _ _ _) ?_))
    | (with_reducible refine Meet.of (cast_p (G37_11111010111001002_eq _ _ _ _ _ _) ?_))
    | (with_reducible refine Meet.of (cast_p (J37_111110101111101_eq _ _ _) ?_))
    | (with_reducible refine Meet.of (cast_p (G37_1111101011111001008_eq _ _ _ _) ?_))
    | (with_reducible refine Meet.of (cast_p (G37_1111101011111001006_eq _ _ _ _ _) ?_))
    | (with_reducible refine Meet.of (cast_p (G37_1111101011111001004_eq _ _ _ _ _) ?_))
    | (with_reducible refine Meet.of (cast_p (G37_1111101011111001002_eq _ _ _ _ _ _) ?_))
    | (with_reducible refine Meet.of (cast_p (J37_11111010111111101_eq _ _ _) ?_))
    | (with_reducible refine Meet.of (cast_p (G37_111110101111111001006_eq _ _ _ _) ?_))
    | (with_reducible refine Meet.of (cast_p (G37_111110101111111001004_eq _ _ _ _ _) ?_))
    | (with_reducible refine Meet.of (cast_p (G37_111110101111111001002_eq _ _ _ _ _ _) ?_))
    | (with_reducible refine Meet.of (cast_p (J37_1111101011111111101_eq _ _ _) ?_))
    | (with_reducible refine Meet.of (cast_p (G37_11111010111111111001010_eq _ _ _ _) ?_))
    | (with_reducible refine Meet.of (cast_p (G37_11111010111111111001008_eq _ _ _ _ _) ?_))
    | (with_reducible refine Meet.of (cast_p (G37_11111010111111111001006_eq _ _ _ _ _ _) ?_))
    | (with_reducible refine Meet.of (cast_p (G37_11111010111111111001004_eq _ _ _ _ _ _) ?_))
    | (with_reducible refine Meet.of (cast_p (G37_11111010111111111001002_eq _ _ _ _ _ _) ?_))
    | (with_reducible refine Meet.of (cast_p (J37_111111_eq _ _) ?_))
    | (with_reducible refine Meet.of (cast_p (J37_111110101111111_eq _ _ _ _ _ _ _ _ _) ?_))
    | (with_reducible refine Meet.of (cast_p (G37_111101004_eq _ _ _ _ _ _ _ _) ?_))
    | (with_reducible refine Meet.of (cast_p (G37_111101002_eq _ _ _ _ _ _ _ _) ?_))
    )
  all_goals (
    refine conv c ?_
    congr 1
    unfold Rc.plain
    simp [*])
theorem mayRP (r : Rc) (hi : r.im.length = 224) (h : AH) : ACalls Pg 37 [r.v] h (pureE (.bool r.may) h) := pure_lift (flat_args r) rfl (mayRC r hi _ (by rw [may_eq])) h
end Go.Proofs.Ytdhlolcpcgpcnaa.Sh
