import Derived.Test.YtcglbpjpbjaecaaGreatFQ
import Derived.Test.YtcglbpjpbjaecaaGreatAbF
set_option linter.unusedVariables false
set_option linter.unusedSimpArgs false
namespace Go.Proofs.YtcglbpjpbjaecaaGreat.Sh
open Go Go.Ab Go.RowKit
open Go.Proofs.YtcglbpjpbjaecaaGreat.Ru (Pg okP)
-- the record's places
theorem ly51_ : layB Pg (.one 134) [] = some (0, 134) := by kernel_rfl
theorem ly51_0 : layB Pg (.one 134) [0] = some (0, 5) := by kernel_rfl
theorem ly51_1 : layB Pg (.one 134) [1] = some (1, 108) := by kernel_rfl
theorem ly51_10 : layB Pg (.one 134) [1, 0] = some (1, 4) := by kernel_rfl
theorem ly51_11 : layB Pg (.one 134) [1, 1] = some (2, 22) := by kernel_rfl
theorem ly51_2 : layB Pg (.one 134) [2] = some (3, 111) := by kernel_rfl
theorem ly51_3 : layB Pg (.one 134) [3] = some (227, 31) := by kernel_rfl
theorem ly51_4 : layB Pg (.one 134) [4] = some (228, 24) := by kernel_rfl
theorem ly51_40 : layB Pg (.one 134) [4, 0] = some (228, 22) := by kernel_rfl
theorem ly51_41 : layB Pg (.one 134) [4, 1] = some (229, 5) := by kernel_rfl
theorem ly51_5 : layB Pg (.one 134) [5] = some (230, 9) := by kernel_rfl
theorem ly51_6 : layB Pg (.one 134) [6] = some (231, 5) := by kernel_rfl
theorem ly51_7 : layB Pg (.one 134) [7] = some (232, 123) := by kernel_rfl
theorem ly51_70 : layB Pg (.one 134) [7, 0] = some (232, 4) := by kernel_rfl
theorem ly51_71 : layB Pg (.one 134) [7, 1] = some (233, 22) := by kernel_rfl
theorem ly51_72 : layB Pg (.one 134) [7, 2] = some (234, 31) := by kernel_rfl
theorem ly51_73 : layB Pg (.one 134) [7, 3] = some (235, 24) := by kernel_rfl
theorem ly51_730 : layB Pg (.one 134) [7, 3, 0] = some (235, 22) := by kernel_rfl
theorem ly51_731 : layB Pg (.one 134) [7, 3, 1] = some (236, 5) := by kernel_rfl
theorem ly51_74 : layB Pg (.one 134) [7, 4] = some (237, 9) := by kernel_rfl
theorem fa51__0 (n : Nat) : aFieldAddr Pg 134 (.ptr (some ⟨n, .one 134, []⟩)) 0 = some (.ptr (some ⟨n, .one 134, [0]⟩)) := by kernel_rfl
theorem fa51__1 (n : Nat) : aFieldAddr Pg 134 (.ptr (some ⟨n, .one 134, []⟩)) 1 = some (.ptr (some ⟨n, .one 134, [1]⟩)) := by kernel_rfl
theorem fa42_1_0 (n : Nat) : aFieldAddr Pg 108 (.ptr (some ⟨n, .one 134, [1]⟩)) 0 = some (.ptr (some ⟨n, .one 134, [1, 0]⟩)) := by kernel_rfl
theorem fa42_1_1 (n : Nat) : aFieldAddr Pg 108 (.ptr (some ⟨n, .one 134, [1]⟩)) 1 = some (.ptr (some ⟨n, .one 134, [1, 1]⟩)) := by kernel_rfl
theorem fa51__2 (n : Nat) : aFieldAddr Pg 134 (.ptr (some ⟨n, .one 134, []⟩)) 2 = some (.ptr (some ⟨n, .one 134, [2]⟩)) := by kernel_rfl
theorem fa51__3 (n : Nat) : aFieldAddr Pg 134 (.ptr (some ⟨n, .one 134, []⟩)) 3 = some (.ptr (some ⟨n, .one 134, [3]⟩)) := by kernel_rfl
theorem fa51__4 (n : Nat) : aFieldAddr Pg 134 (.ptr (some ⟨n, .one 134, []⟩)) 4 = some (.ptr (some ⟨n, .one 134, [4]⟩)) := by kernel_rfl
theorem fa47_4_0 (n : Nat) : aFieldAddr Pg 24 (.ptr (some ⟨n, .one 134, [4]⟩)) 0 = some (.ptr (some ⟨n, .one 134, [4, 0]⟩)) := by kernel_rfl
theorem fa47_4_1 (n : Nat) : aFieldAddr Pg 24 (.ptr (some ⟨n, .one 134, [4]⟩)) 1 = some (.ptr (some ⟨n, .one 134, [4, 1]⟩)) := by kernel_rfl
theorem fa51__5 (n : Nat) : aFieldAddr Pg 134 (.ptr (some ⟨n, .one 134, []⟩)) 5 = some (.ptr (some ⟨n, .one 134, [5]⟩)) := by kernel_rfl
theorem fa51__6 (n : Nat) : aFieldAddr Pg 134 (.ptr (some ⟨n, .one 134, []⟩)) 6 = some (.ptr (some ⟨n, .one 134, [6]⟩)) := by kernel_rfl
theorem fa51__7 (n : Nat) : aFieldAddr Pg 134 (.ptr (some ⟨n, .one 134, []⟩)) 7 = some (.ptr (some ⟨n, .one 134, [7]⟩)) := by kernel_rfl
theorem fa49_7_0 (n : Nat) : aFieldAddr Pg 123 (.ptr (some ⟨n, .one 134, [7]⟩)) 0 = some (.ptr (some ⟨n, .one 134, [7, 0]⟩)) := by kernel_rfl
theorem fa49_7_1 (n : Nat) : aFieldAddr Pg 123 (.ptr (some ⟨n, .one 134, [7]⟩)) 1 = some (.ptr (some ⟨n, .one 134, [7, 1]⟩)) := by kernel_rfl
theorem fa49_7_2 (n : Nat) : aFieldAddr Pg 123 (.ptr (some ⟨n, .one 134, [7]⟩)) 2 = some (.ptr (some ⟨n, .one 134, [7, 2]⟩)) := by kernel_rfl
theorem fa49_7_3 (n : Nat) : aFieldAddr Pg 123 (.ptr (some ⟨n, .one 134, [7]⟩)) 3 = some (.ptr (some ⟨n, .one 134, [7, 3]⟩)) := by kernel_rfl
theorem fa47_73_0 (n : Nat) : aFieldAddr Pg 24 (.ptr (some ⟨n, .one 134, [7, 3]⟩)) 0 = some (.ptr (some ⟨n, .one 134, [7, 3, 0]⟩)) := by kernel_rfl
theorem fa47_73_1 (n : Nat) : aFieldAddr Pg 24 (.ptr (some ⟨n, .one 134, [7, 3]⟩)) 1 = some (.ptr (some ⟨n, .one 134, [7, 3, 1]⟩)) := by kernel_rfl
theorem fa49_7_4 (n : Nat) : aFieldAddr Pg 123 (.ptr (some ⟨n, .one 134, [7]⟩)) 4 = some (.ptr (some ⟨n, .one 134, [7, 4]⟩)) := by kernel_rfl

structure Rc where
  k : Int
  undo : Bool
  no : Int
  im : List Int
  ts : Int
  pp : Int
  ps : Int
  dl : List UInt8
  sl : Int
  live : Bool
  op : Int
  ots : Int
  onp : Int
  ons : Int
  od : List UInt8
  deriving DecidableEq
def vIm (l : List Int) : V := .agg (l.map (.int .u8))
def vRef (p s : Int) : V := .agg [.int .u16 p, .int .u8 s]
def vPg (u : Bool) (n : Int) : V := .agg [.bool u, .int .u16 n]
def vOld (live : Bool) (p ts np ns : Int) (d : List UInt8) : V := .agg [.bool live, .int .u16 p, .int .u32 ts, vRef np ns, .str d]
def vRec (k : Int) (undo : Bool) (no : Int) (im : List Int) (ts pp ps : Int) (dl : List UInt8) (sl : Int) (o : V) : V :=
  .agg [.int .u8 k, vPg undo no, vIm im, .int .u32 ts, vRef pp ps, .str dl, .int .u8 sl, o]
def Rc.v (r : Rc) : V := vRec r.k r.undo r.no r.im r.ts r.pp r.ps r.dl r.sl (vOld r.live r.op r.ots r.onp r.ons r.od)
def im0 : List Int := List.replicate 224 0
theorem shIm {l : List Int} (h : l.length = 224) : hasShape Pg (vIm l) 111 = true := by
  have e : hasShape Pg (vIm l) 111 = ((l.map (V.int .u8)).length == 224 && shapesAll Pg (l.map (V.int .u8)) 5) := by kernel_rfl
  have all : ∀ l : List Int, shapesAll Pg (l.map (V.int .u8)) 5 = true := by
    intro l
    induction l with
    | nil => rfl
    | cons a l ih =>
      have : shapesAll Pg ((a :: l).map (V.int .u8)) 5 = (hasShape Pg (.int .u8 a) 5 && shapesAll Pg (l.map (V.int .u8)) 5) := rfl
      rw [this, ih]
      have : hasShape Pg (.int .u8 a) 5 = true := by kernel_rfl
      rw [this]; rfl
  rw [e, all]
  simp [h]
theorem shRec {k : Int} {undo : Bool} {no : Int} {im : List Int} {ts pp ps : Int} {dl : List UInt8} {sl : Int} {a : Bool} {b c d e : Int} {f : List UInt8} (h : im.length = 224) : hasShape Pg (vRec k undo no im ts pp ps dl sl (vOld a b c d e f)) 134 = true := by
  have e : hasShape Pg (vRec k undo no im ts pp ps dl sl (vOld a b c d e f)) 134 = (hasShape Pg (vIm im) 111 && true) := by kernel_rfl
  rw [e, shIm h]; rfl
theorem flat_im : ∀ l : List Int, flatBs (l.map (V.int .u8)) = true
  | [] => rfl
  | _ :: l => by simp only [List.map_cons, flatBs, flatB, flat_im l, Bool.and_self]
theorem flat_rec (r : Rc) : flatB r.v = true := by
  simp only [Rc.v, vRec, vPg, vIm, vRef, vOld, flatB, flatBs, flat_im, Bool.and_self]
theorem flat_args (r : Rc) : flatBs [r.v] = true := by simp only [flatBs, flat_rec, Bool.and_self]
def Rc.z (k : Int) : Rc := ⟨k, false, 0, im0, 0, 0, 0, [], 0, false, 0, 0, 0, 0, []⟩
/-- A record with the fields that its kind has. -/
def Rc.bare (r : Rc) : Rc :=
  if r.k = 1 then { Rc.z r.k with undo := r.undo, no := r.no, im := r.im }
  else if r.k = 2 then { Rc.z r.k with no := r.no, ts := r.ts, pp := r.pp, ps := r.ps, dl := r.dl }
  else if r.k = 3 then { Rc.z r.k with undo := true, no := r.no, sl := r.sl, live := true, op := r.op, ots := r.ots, onp := r.onp, ons := r.ons, od := r.od }
  else if r.k = 4 then { Rc.z r.k with undo := true, no := r.no, sl := r.sl }
  else if r.k = 5 then { Rc.z r.k with undo := true, no := r.no, sl := r.sl }
  else if r.k = 6 then { Rc.z r.k with ts := r.ts }
  else Rc.z r.k
theorem Rc.bare_im (r : Rc) (hi : r.im.length = 224) : r.bare.im.length = 224 := by
  have h0 : im0.length = 224 := List.length_replicate ..
  unfold Rc.bare
  repeat' split
  all_goals first | exact hi | exact h0
theorem beq_im : ∀ a b : List Int, a.length = b.length → beqVs (a.map (V.int .u8)) (b.map (V.int .u8)) = some (a == b)
  | [], [], _ => rfl
  | x :: a, y :: b, h => by
    have ih := beq_im a b (by simpa using h)
    simp only [List.map_cons, beqVs, beqV, if_true, ih]
    cases hxy : x == y
    · simp [List.beq_cons_cons, hxy] 
    · simp [List.beq_cons_cons, hxy]
  | [], _ :: _, h => by simp at h
  | _ :: _, [], h => by simp at h
end Go.Proofs.YtcglbpjpbjaecaaGreat.Sh
namespace Go.Proofs.YtcglbpjpbjaecaaGreat.Sh
open Go Go.Ab Go.RowKit
open Go.Proofs.YtcglbpjpbjaecaaGreat.Ru (Pg okP)
set_option linter.unusedSimpArgs false
set_option linter.unusedVariables false
set_option maxRecDepth 10000
theorem beqVs_c {v w : V} {vs ws : List V} {b c : Bool} (hb : beqV v w = some b) (hc : beqVs vs ws = some c) : beqVs (v :: vs) (w :: ws) = some (b && c) := by
  simp only [beqVs, hb]
  cases b <;> simp [hc]
theorem beqVs_n : beqVs [] [] = some true := rfl
theorem bq_i {k : IntKind} {a b : Int} : beqV (.int k a) (.int k b) = some (a == b) := by simp [beqV]
theorem bq_b {a b : Bool} : beqV (.bool a) (.bool b) = some (a == b) := rfl
theorem bq_s {a b : List UInt8} : beqV (.str a) (.str b) = some (a == b) := rfl
theorem bq_a {a b : List V} {c : Bool} (h : beqVs a b = some c) : beqV (.agg a) (.agg b) = some c := h
theorem beq_rec (r s : Rc) (h : r.im.length = s.im.length) : beqV r.v s.v = some (decide (r = s)) := by
  have e : beqV r.v s.v = some ((r.k == s.k) && (((r.undo == s.undo) && ((r.no == s.no) && true)) && ((r.im == s.im) && ((r.ts == s.ts) && (((r.pp == s.pp) && ((r.ps == s.ps) && true)) && ((r.dl == s.dl) && ((r.sl == s.sl) &&
      (((r.live == s.live) && ((r.op == s.op) && ((r.ots == s.ots) && (((r.onp == s.onp) && ((r.ons == s.ons) && true)) && ((r.od == s.od) && true))))) && true)))))))) :=
    bq_a (beqVs_c bq_i (beqVs_c (bq_a (beqVs_c bq_b (beqVs_c bq_i beqVs_n))) (beqVs_c (bq_a (beq_im _ _ h)) (beqVs_c bq_i (beqVs_c (bq_a (beqVs_c bq_i (beqVs_c bq_i beqVs_n))) (beqVs_c bq_s (beqVs_c bq_i
      (beqVs_c (bq_a (beqVs_c bq_b (beqVs_c bq_i (beqVs_c bq_i (beqVs_c (bq_a (beqVs_c bq_i (beqVs_c bq_i beqVs_n))) (beqVs_c bq_s beqVs_n)))))) beqVs_n))))))))
  rw [e]
  congr 1
  obtain ⟨r1, r2, r3, r4, r5, r6, r7, r8, r9, ra, rb, rc, rd, re, rf⟩ := r
  obtain ⟨s1, s2, s3, s4, s5, s6, s7, s8, s9, sa, sb, sc, sd, se, sf⟩ := s
  simp only [Rc.mk.injEq]
  rw [Bool.eq_iff_iff]
  simp only [Bool.and_eq_true, beq_iff_eq, decide_eq_true_eq, and_true]
  constructor
  · rintro ⟨h1, ⟨h2, h3⟩, h4, h5, ⟨h6, h7⟩, h8, h9, ha, hb, hc, ⟨hd, he⟩, hf⟩
    exact ⟨h1, h2, h3, h4, h5, h6, h7, h8, h9, ha, hb, hc, hd, he, hf⟩
  · rintro ⟨h1, h2, h3, h4, h5, h6, h7, h8, h9, ha, hb, hc, hd, he, hf⟩
    exact ⟨h1, ⟨h2, h3⟩, h4, h5, ⟨h6, h7⟩, h8, h9, ha, hb, hc, ⟨hd, he⟩, hf⟩
theorem shR (r : Rc) (hi : r.im.length = 224) : hasShape Pg r.v 134 = true := shRec hi
theorem pl134 : plainT Pg 20 134 = true := by kernel_rfl
theorem eq134 (r s : Rc) (hr : r.im.length = 224) (hs : s.im.length = 224) (c : Bool) : aBin Pg .eql 134 r.v s.v c = some (.bool (decide (r = s))) := by
  have h1 : aBin Pg .eql 134 r.v s.v c = if eqOk Pg 134 r.v s.v c = true then (aEq Pg 134 r.v s.v).map .bool else none := rfl
  have h2 : eqOk Pg 134 r.v s.v c = true := by kernel_rfl
  rw [h1, h2, if_pos rfl]
  unfold aEq
  rw [pl134, if_pos rfl, shR r hr, shR s hs, beq_rec r s (by rw [hr, hs])]
  rfl
end Go.Proofs.YtcglbpjpbjaecaaGreat.Sh
namespace Go.Proofs.YtcglbpjpbjaecaaGreat.Sh
open Go Go.Ab Go.RowKit
open Go.Proofs.YtcglbpjpbjaecaaGreat.Ru (Pg okP)
set_option linter.unusedSimpArgs false
set_option linter.unusedVariables false
set_option maxRecDepth 10000
def rz (k : Int) : V := (Rc.z k).v
theorem zero134 : zeroV Pg 134 = some (rz 0) := by kernel_rfl
theorem build134 (k : Int) : aBuild Pg 134 [(0, .int .u8 k)] = some (rz k) := by kernel_rfl
theorem shRz (k : Int) : hasShape Pg (rz k) 134 = true := shR _ (List.length_replicate ..)
theorem build108 (n : Int) : aBuild Pg 108 [(0, .bool true), (1, .int .u16 n)] = some (vPg true n) := by kernel_rfl
theorem bareC (r : Rc) (hi : r.im.length = 224) (q : AEnd → Prop) (c : q (.ret r.bare.v)) : ACalls Pg 216 [r.v] AH0 fun e _ => q e := by
  refine C216 _ r.v AH0 ?_
  repeat' (first
    | (with_reducible refine bindV_mk (new_mk (by first | with_unfolding_all exact shR _ hi | with_unfolding_all exact shRz _ | with_unfolding_all exact shIm hi | kernel_rfl)) ?_)
    | (with_reducible refine bindV_mk (al_mk zero134 (shRz 0)) ?_)
    | (with_reducible refine bindS_mk (build134 _) ?_)
    | (with_reducible refine And.intro (ld_mk (by with_unfolding_all exact rfl) (by kernel_rfl) (by with_unfolding_all exact rfl)) ?_)
    | (with_reducible refine bindS_mk build108 ?_)
    | (with_reducible refine bindSO_mk (build108 _) ?_)
    | (with_reducible refine bindR_mk (by with_unfolding_all exact rfl) ?_)
    | (with_reducible refine bindS_mk (fa_mk (by kernel_rfl)) ?_)
    | (with_reducible refine bindSO_mk (fa_mk (by kernel_rfl)) ?_)
    | (with_reducible refine bindV_mk (ld_mk (by with_unfolding_all exact rfl) (by kernel_rfl) (by with_unfolding_all exact rfl)) ?_)
    | (with_reducible refine bindVO_mk (ld_mk (by with_unfolding_all exact rfl) (by kernel_rfl) (by with_unfolding_all exact rfl)) ?_)
    | (with_reducible refine bindV_mk (st_mk (by with_unfolding_all exact rfl) (by kernel_rfl) (by with_unfolding_all exact rfl) (by first | with_unfolding_all exact shR _ hi | with_unfolding_all exact shRz _ | with_unfolding_all exact shIm hi | kernel_rfl) (by with_unfolding_all exact rfl)) ?_)
    | (with_reducible refine bindS_mk b_add ?_)
    | (with_reducible refine bindSO_mk b_add ?_)
    | (with_reducible refine bindS_mk b_sub ?_)
    | (with_reducible refine bindSO_mk b_sub ?_)
    | (with_reducible refine bindS_mk b_mul ?_)
    | (with_reducible refine bindSO_mk b_mul ?_)
    | (with_reducible refine bindS_mk b_eql ?_)
    | (with_reducible refine bindSO_mk b_eql ?_)
    | (with_reducible refine bindS_mk b_neq ?_)
    | (with_reducible refine bindSO_mk b_neq ?_)
    | (with_reducible refine bindS_mk b_lss ?_)
    | (with_reducible refine bindSO_mk b_lss ?_)
    | (with_reducible refine bindS_mk b_leq ?_)
    | (with_reducible refine bindSO_mk b_leq ?_)
    | (with_reducible refine bindS_mk b_gtr ?_)
    | (with_reducible refine bindSO_mk b_gtr ?_)
    | (with_reducible refine bindS_mk b_geq ?_)
    | (with_reducible refine bindSO_mk b_geq ?_)
    | (with_reducible refine bindS_mk t_eql ?_)
    | (with_reducible refine bindSO_mk t_eql ?_)
    | (with_reducible refine bindS_mk t_neq ?_)
    | (with_reducible refine bindSO_mk t_neq ?_)
    | (with_reducible refine bindS_mk u_not ?_)
    | (with_reducible refine bindSO_mk u_not ?_)
    | (with_reducible refine bindS_mk (b_quo (by decide)) ?_)
    | (with_reducible refine bindS_mk (b_rem (by decide)) ?_)
    | (with_reducible refine bindS_mk (cv_int (d := 22) .u64 (by kernel_rfl)) ?_)
    | (with_reducible refine bindSO_mk (cv_int (d := 22) .u64 (by kernel_rfl)) ?_)
    | (with_reducible refine bindS_mk (cv_int (d := 3) .i64 (by kernel_rfl)) ?_)
    | (with_reducible refine bindSO_mk (cv_int (d := 3) .i64 (by kernel_rfl)) ?_)
    | (with_reducible refine bindS_mk (cv_int (d := 2) .i64 (by kernel_rfl)) ?_)
    | (with_reducible refine bindSO_mk (cv_int (d := 2) .i64 (by kernel_rfl)) ?_)
    | (with_reducible refine bindS_mk (cv_int (d := 5) .u8 (by kernel_rfl)) ?_)
    | (with_reducible refine bindSO_mk (cv_int (d := 5) .u8 (by kernel_rfl)) ?_)
    | (with_reducible refine bindS_mk (cv_int (d := 40) .u16 (by kernel_rfl)) ?_)
    | (with_reducible refine bindSO_mk (cv_int (d := 40) .u16 (by kernel_rfl)) ?_)
    | (with_reducible refine bindS_mk (cv_int (d := 45) .u32 (by kernel_rfl)) ?_)
    | (with_reducible refine bindSO_mk (cv_int (d := 45) .u32 (by kernel_rfl)) ?_)
    | (with_reducible refine bindV_mk (len_str (by kernel_rfl)) ?_)
    | (with_reducible refine bindVO_mk (len_str (by kernel_rfl)) ?_)
    | (with_reducible refine bindV_mk p_t ?_)
    | (with_reducible refine bindVO_mk p_t ?_)
    | (with_reducible refine bindV_mk p_f ?_)
    | (with_reducible refine bindVO_mk p_f ?_)
    | (with_reducible refine bindV_mk (pick_b _ _ _ _) ?_)
    | (with_reducible refine bindVO_mk (pick_b _ _ _ _) ?_)
    | (with_reducible refine g_tt ?_)
    | (with_reducible refine g_ft ?_)
    | (with_reducible refine g_tf ?_)
    | (with_reducible refine g_ff ?_)
    | (with_reducible refine g_hole ?_)
    | (with_reducible refine i_t ?_)
    | (with_reducible refine i_f ?_)
    | ((with_reducible refine i_split ?_ ?_) <;> intro hb <;> (try rw [hb]))
    | ((with_reducible refine g_split_t ?_ ?_) <;> intro hb <;> (try rw [hb]))
    | ((with_reducible refine g_split_f ?_ ?_) <;> intro hb <;> (try rw [hb]))
    | (with_reducible refine Meet.of (cast_p (J216_111_eq _ _ _ _) ?_))
    | (with_reducible refine Meet.of (cast_p (J216_11010000000001_eq _ _ _ _ _) ?_))
    | (with_reducible refine Meet.of (cast_p (J216_110100000001_eq _ _ _ _ _) ?_))
    | (with_reducible refine Meet.of (cast_p (J216_11010001_eq _ _ _ _ _) ?_))
    | (with_reducible refine Meet.of (cast_p (J216_1101000001_eq _ _ _ _ _) ?_))
    | (with_reducible refine Meet.of (cast_p (J216_110101_eq _ _ _ _ _) ?_))
    | (with_reducible refine Meet.of (cast_p (J216_1101000000000001_eq _ _ _ _) ?_))
    | (with_reducible refine Meet.of (cast_p (J216_11010000000000001111_eq _ _ _ _ _ _) ?_))
    | (with_reducible refine Meet.of (cast_p (J216_110100000000000011101_eq _ _ _ _ _ _ _) ?_))
    | (with_reducible refine Meet.of (cast_p (J216_1101000000000000111_eq _ _ _ _ _ _) ?_))
    | (with_reducible refine Meet.of (cast_p (J216_110100000000000011_eq _ _ _ _ _ _) ?_))
    | (with_reducible refine Meet.of (cast_p (J216_11010000000000001_eq _ _ _ _ _ _) ?_))
    )
  all_goals (
    simp only [beq_iff_eq, beq_eq_false_iff_ne, ne_eq] at *
    unfold Rc.bare at c
    repeat (first | rw [if_pos (by assumption)] at c | rw [if_neg (by assumption)] at c)
    first | exact c | with_unfolding_all exact c)
theorem bareP (r : Rc) (hi : r.im.length = 224) (h : AH) : ACalls Pg 216 [r.v] h (pureE r.bare.v h) := pure_lift (flat_args r) (flat_rec _) (bareC r hi _ rfl) h
end Go.Proofs.YtcglbpjpbjaecaaGreat.Sh
namespace Go.Proofs.YtcglbpjpbjaecaaGreat.Sh
open Go Go.Ab Go.RowKit
open Go.Proofs.YtcglbpjpbjaecaaGreat.Ru (Pg okP)
set_option linter.unusedSimpArgs false
set_option linter.unusedVariables false
set_option maxRecDepth 10000
theorem conv {q : AEnd → Prop} {a b : Bool} (c : q (.ret (.bool a))) (e : a = b) : q (.ret (.bool b)) := e ▸ c
/-- May there be such a record? -/
def Rc.may (r : Rc) : Bool := decide (1 ≤ r.k) && decide (r.k ≤ 6) && decide (r.bare = r) && decide (r.dl.length ≤ 66) && decide (r.od.length ≤ 66)
theorem mayC (r : Rc) (hi : r.im.length = 224) (q : AEnd → Prop) (c : q (.ret (.bool r.may))) : ACalls Pg 141 [r.v] AH0 fun e _ => q e := by
  refine C141 _ r.v AH0 ?_
  repeat' (first
    | (refine ⟨_, bareP _ hi _, ?_⟩)
    | (with_reducible refine bindSO_mk (eq134 _ _ (Rc.bare_im _ hi) hi _) ?_)
    | (with_reducible refine bindV_mk (new_mk (by first | with_unfolding_all exact shR _ hi | with_unfolding_all exact shRz _ | with_unfolding_all exact shIm hi | kernel_rfl)) ?_)
    | (with_reducible refine bindV_mk (al_mk zero134 (shRz 0)) ?_)
    | (with_reducible refine bindS_mk (build134 _) ?_)
    | (with_reducible refine And.intro (ld_mk (by with_unfolding_all exact rfl) (by kernel_rfl) (by with_unfolding_all exact rfl)) ?_)
    | (with_reducible refine bindS_mk build108 ?_)
    | (with_reducible refine bindSO_mk (build108 _) ?_)
    | (with_reducible refine bindR_mk (by with_unfolding_all exact rfl) ?_)
    | (with_reducible refine bindS_mk (fa_mk (by kernel_rfl)) ?_)
    | (with_reducible refine bindSO_mk (fa_mk (by kernel_rfl)) ?_)
    | (with_reducible refine bindV_mk (ld_mk (by with_unfolding_all exact rfl) (by kernel_rfl) (by with_unfolding_all exact rfl)) ?_)
    | (with_reducible refine bindVO_mk (ld_mk (by with_unfolding_all exact rfl) (by kernel_rfl) (by with_unfolding_all exact rfl)) ?_)
    | (with_reducible refine bindV_mk (st_mk (by with_unfolding_all exact rfl) (by kernel_rfl) (by with_unfolding_all exact rfl) (by first | with_unfolding_all exact shR _ hi | with_unfolding_all exact shRz _ | with_unfolding_all exact shIm hi | kernel_rfl) (by with_unfolding_all exact rfl)) ?_)
    | (with_reducible refine bindS_mk b_add ?_)
    | (with_reducible refine bindSO_mk b_add ?_)
    | (with_reducible refine bindS_mk b_sub ?_)
    | (with_reducible refine bindSO_mk b_sub ?_)
    | (with_reducible refine bindS_mk b_mul ?_)
    | (with_reducible refine bindSO_mk b_mul ?_)
    | (with_reducible refine bindS_mk b_eql ?_)
    | (with_reducible refine bindSO_mk b_eql ?_)
    | (with_reducible refine bindS_mk b_neq ?_)
    | (with_reducible refine bindSO_mk b_neq ?_)
    | (with_reducible refine bindS_mk b_lss ?_)
    | (with_reducible refine bindSO_mk b_lss ?_)
    | (with_reducible refine bindS_mk b_leq ?_)
    | (with_reducible refine bindSO_mk b_leq ?_)
    | (with_reducible refine bindS_mk b_gtr ?_)
    | (with_reducible refine bindSO_mk b_gtr ?_)
    | (with_reducible refine bindS_mk b_geq ?_)
    | (with_reducible refine bindSO_mk b_geq ?_)
    | (with_reducible refine bindS_mk t_eql ?_)
    | (with_reducible refine bindSO_mk t_eql ?_)
    | (with_reducible refine bindS_mk t_neq ?_)
    | (with_reducible refine bindSO_mk t_neq ?_)
    | (with_reducible refine bindS_mk u_not ?_)
    | (with_reducible refine bindSO_mk u_not ?_)
    | (with_reducible refine bindS_mk (b_quo (by decide)) ?_)
    | (with_reducible refine bindS_mk (b_rem (by decide)) ?_)
    | (with_reducible refine bindS_mk (cv_int (d := 22) .u64 (by kernel_rfl)) ?_)
    | (with_reducible refine bindSO_mk (cv_int (d := 22) .u64 (by kernel_rfl)) ?_)
    | (with_reducible refine bindS_mk (cv_int (d := 3) .i64 (by kernel_rfl)) ?_)
    | (with_reducible refine bindSO_mk (cv_int (d := 3) .i64 (by kernel_rfl)) ?_)
    | (with_reducible refine bindS_mk (cv_int (d := 2) .i64 (by kernel_rfl)) ?_)
    | (with_reducible refine bindSO_mk (cv_int (d := 2) .i64 (by kernel_rfl)) ?_)
    | (with_reducible refine bindS_mk (cv_int (d := 5) .u8 (by kernel_rfl)) ?_)
    | (with_reducible refine bindSO_mk (cv_int (d := 5) .u8 (by kernel_rfl)) ?_)
    | (with_reducible refine bindS_mk (cv_int (d := 40) .u16 (by kernel_rfl)) ?_)
    | (with_reducible refine bindSO_mk (cv_int (d := 40) .u16 (by kernel_rfl)) ?_)
    | (with_reducible refine bindS_mk (cv_int (d := 45) .u32 (by kernel_rfl)) ?_)
    | (with_reducible refine bindSO_mk (cv_int (d := 45) .u32 (by kernel_rfl)) ?_)
    | (with_reducible refine bindV_mk (len_str (by kernel_rfl)) ?_)
    | (with_reducible refine bindVO_mk (len_str (by kernel_rfl)) ?_)
    | (with_reducible refine bindV_mk p_t ?_)
    | (with_reducible refine bindVO_mk p_t ?_)
    | (with_reducible refine bindV_mk p_f ?_)
    | (with_reducible refine bindVO_mk p_f ?_)
    | (with_reducible refine bindV_mk (pick_b _ _ _ _) ?_)
    | (with_reducible refine bindVO_mk (pick_b _ _ _ _) ?_)
    | (with_reducible refine g_tt ?_)
    | (with_reducible refine g_ft ?_)
    | (with_reducible refine g_tf ?_)
    | (with_reducible refine g_ff ?_)
    | (with_reducible refine g_hole ?_)
    | (with_reducible refine i_t ?_)
    | (with_reducible refine i_f ?_)
    | ((with_reducible refine i_split ?_ ?_) <;> intro hb <;> (try rw [hb]))
    | ((with_reducible refine g_split_t ?_ ?_) <;> intro hb <;> (try rw [hb]))
    | ((with_reducible refine g_split_f ?_ ?_) <;> intro hb <;> (try rw [hb]))
    | (with_reducible refine Meet.of (cast_p (J141_11_eq _ _ _) ?_))
    | (with_reducible refine Meet.of (cast_p (G141_101008_eq _ _ _ _) ?_))
    | (with_reducible refine Meet.of (cast_p (G141_101006_eq _ _ _ _ _) ?_))
    | (with_reducible refine Meet.of (cast_p (G141_101004_eq _ _ _ _ _) ?_))
    | (with_reducible refine Meet.of (cast_p (G141_101002_eq _ _ _ _ _) ?_))
    )
  all_goals (
    refine conv c ?_
    unfold Rc.may
    simp only [ge_iff_le] at *
    first
      | (simp only [*, Bool.and_true, Bool.true_and, Bool.and_false, Bool.false_and]; done)
      | (simp only [*, Bool.and_true, Bool.true_and, Bool.and_false, Bool.false_and]; rw [Bool.eq_iff_iff]; simp only [decide_eq_true_eq, Bool.false_eq_true, iff_false, Bool.and_eq_true, decide_eq_false_iff_not] at *; omega))
theorem mayP (r : Rc) (hi : r.im.length = 224) (h : AH) : ACalls Pg 141 [r.v] h (pureE (.bool r.may) h) := pure_lift (flat_args r) rfl (mayC r hi _ rfl) h
end Go.Proofs.YtcglbpjpbjaecaaGreat.Sh
