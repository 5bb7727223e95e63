import Derived.Test.YtcglbpjpbjaecaaGreatP15
import Derived.Test.YtcglbpjpbjaecaaGreatP06
import Derived.Test.YtcglbpjpbjaecaaGreatP14
import Derived.Shelf.Strings.OnBuilder
import Derived.Test.YtcglbpjpbjaecaaGreatP05
set_option linter.unusedVariables false
set_option linter.unusedSimpArgs false
namespace Go.Proofs.YtcglbpjpbjaecaaGreat.Sh
open Go Go.Ab Go.RowKit
open Go.Proofs.YtcglbpjpbjaecaaGreat.Ru (Pg okP)
set_option maxRecDepth 10000
theorem z57 : zeroV Pg 57 = some (.agg [(.int .u8 0), (.int .u64 0), (.int .u16 0), (.int .i64 0), (.str [])]) := by kernel_rfl
theorem zs57 : hasShape Pg (.agg [(.int .u8 0), (.int .u64 0), (.int .u16 0), (.int .i64 0), (.str [])]) 57 = true := by kernel_rfl
section
variable (e : Ev) (ok : e.ok) {v : V} {h0 : AH} {n1 n6 n8 : Nat} {h : AH} {k : V}
include ok
theorem sw (hA : e.kind < 7 ∧ 0 ≤ e.a ∧ e.a < 2147483648 ∧ e.b = 0 ∧ (e.kind ≠ 0 → e.ck = 0 ∧ e.txn = 0 ∧ e.page = 0 ∧ e.off = 0 ∧ e.s.length = 0) ∧ (e.kind ≠ 5 → e.keep.length = 0)) {s5 : List UInt8} (hs5 : s5 = kindName e.kind) (hk : KeepB h k e.keep) (hv : e.lineV = v) (hn : h0.next ≤ h.next) (fr : ∀ n, n < h0.next → h.m n = h0.m n) (hm1 : h.m n1 = some (.cells true (.one 73) (evV e k))) (hn1 : n1 < h.next ∧ h0.next ≤ n1) (hm6 : h.m n6 = some (.cells true (.one 57) (cV e))) (hn6 : n6 < h.next ∧ h0.next ≤ n6) : J122_111111 (Ends v h0) (.ptr (some ⟨n1, .one 73, []⟩)) (.str s5) (.ptr (some ⟨n6, .one 57, []⟩)) h := by
  have k1 := ok.kind; have k2 := ok.a; have k3 := ok.b; have k4 := ok.ck; have k5 := ok.txn; have k6 := ok.page; have k7 := ok.off; have k8 := ok.s; have k9 := ok.keep
  obtain ⟨a, rfl⟩ := hk.shape
  rw [J122_111111_eq]
  refine bindS_mk (fa_mk (by kernel_rfl)) ?_
  refine bindV_mk (ld_mk hm1 (by kernel_rfl) rfl) ?_
  refine bindS_mk (b_eql) ?_
  refine i_split (fun c1 => ?_) (fun c1 => ?_)
  · try rw [c1]
    replace c1 := eq_of_beq c1
    refine callQ (callsP _) fun h2 u2 => ?_
    have n2 := u2.next
    have fFR_2 := fun k (hk : k < h0.next) => (u2.other k (by omega)).trans (fr k hk)
    have fX1_2 := (u2.other _ (by omega)).trans hm1
    have fX6_2 := (u2.other _ (by omega)).trans hm6
    have fC_2 := u2.at_
    refine bindS_mk (fa_mk (by kernel_rfl)) ?_
    refine bindV_mk (ld_mk fX1_2 (by kernel_rfl) rfl) ?_
    refine bindS_mk (b_geq) ?_
    refine g_split_f (fun c3 => ?_) (fun c3 => ?_)
    · try rw [c3]
      replace c3 := of_decide_eq_false c3
      refine bindS_mk (fa_mk (by kernel_rfl)) ?_
      refine bindV_mk (ld_mk fX6_2 (by kernel_rfl) rfl) ?_
      first | refine bindS_mk (cv_wr (d := 3) (k := .i64) (by kernel_rfl) (by first | exact wrap_i64 (by omega) (by omega) | exact wr_u8 (by omega) (by omega) | exact wr_u16 (by omega) (by omega) | exact wr_u32 (by omega) (by omega) | exact wr_u64 (by omega) (by omega))) ?_ | refine bindS_mk (cv_int (d := 3) .i64 (by kernel_rfl)) ?_
      refine bindV_mk (len_slc (by kernel_rfl)) ?_
      refine bindS_mk (b_geq) ?_
      refine Meet.of (cast_p (G122_111111010101001002_eq _ _ _ _ _ _ _ _) ?_)
      refine bindV_mk p_f ?_
      refine Meet.of (cast_p (J122_11111101010101_eq _ _ _ _ _ _ _) ?_)
      refine i_split (fun c4 => ?_) (fun c4 => ?_)
      · try rw [c4]
        replace c4 := of_decide_eq_true c4
        exact ⟨congrArg AEnd.ret (hv ▸ line_no (by unfold Ev.fine; omega)), fFR_2⟩
      · try rw [c4]
        replace c4 := of_decide_eq_false c4
        have e0 : e.kind = 0 := by omega
        rw [e0] at hs5; subst hs5
        exact Meet.of (ask e ok (by omega) hv (by omega) fFR_2 fX1_2 (by omega) fX6_2 (by omega) fC_2 (by omega))
    · try rw [c3]
      replace c3 := of_decide_eq_true c3
      refine Meet.of (cast_p (G122_111111010101001002_eq _ _ _ _ _ _ _ _) ?_)
      refine bindV_mk p_t ?_
      refine Meet.of (cast_p (J122_11111101010101_eq _ _ _ _ _ _ _) ?_)
      refine i_t ?_
      exact ⟨congrArg AEnd.ret (hv ▸ line_no (by unfold Ev.fine; omega)), fFR_2⟩
  · try rw [c1]
    replace c1 := ne_of_beq_false c1
    refine bindS_mk (b_eql) ?_
    refine i_split (fun c5 => ?_) (fun c5 => ?_)
    · try rw [c5]
      replace c5 := eq_of_beq c5
      refine bindS_mk (fa_mk (by kernel_rfl)) ?_
      refine bindV_mk (ld_mk hm1 (by kernel_rfl) rfl) ?_
      refine bindS_mk (b_neq) ?_
      refine g_split_f (fun c6 => ?_) (fun c6 => ?_)
      · try rw [c6]
        replace c6 := eq_of_bne_false c6
        refine bindS_mk (fa_mk (by kernel_rfl)) ?_
        refine bindV_mk (ld_mk hm1 (by kernel_rfl) rfl) ?_
        refine bindV_mk (len_slc (by kernel_rfl)) ?_
        refine bindS_mk (b_gtr) ?_
        refine Meet.of (cast_p (G122_1111110101110001002_eq _ _ _ _ _ _) ?_)
        refine bindV_mk p_f ?_
        refine Meet.of (cast_p (J122_111111010111001_eq _ _ _ _ _) ?_)
        refine i_split (fun c7 => ?_) (fun c7 => ?_)
        · try rw [c7]
          replace c7 := of_decide_eq_true c7
          exact ⟨congrArg AEnd.ret (hv ▸ line_no (by unfold Ev.fine; omega)), fr⟩
        · try rw [c7]
          replace c7 := of_decide_eq_false c7
          refine Meet.of (cast_p (J122_11111101011101_eq _ _ _ _) ?_)
          refine bindS_mk (t_add (by rw [hs5]; have l1 := kindName_len e.kind; simp; omega)) ?_
          refine bindS_mk (fa_mk (by kernel_rfl)) ?_
          refine bindV_mk (ld_mk hm1 (by kernel_rfl) rfl) ?_
          refine bindV_mk (len_slc (by kernel_rfl)) ?_
          have e5 : e.kind = 5 := by omega
          rw [e5] at hs5; subst hs5
          refine ⟨e.keep.length + 1, Meet.of (crashL e ok hk (by omega) (by omega) fr hm1 (by omega) e.keep.length 0 _ _ (by omega) (by omega) (by omega) (by decide) ?_)⟩
          refine (line_yes (e := e) (by unfold Ev.fine; omega) ?_).trans hv
          rw [Ev.txt, if_neg (show ¬ e.kind = 0 by omega), if_pos e5, List.drop_zero]
          have e6 : kindName 5 = [99, 114, 97, 115, 104] := rfl
          rw [e6]
          by_cases hz : e.keep.length = 0
          · rw [if_pos hz, if_pos hz, List.length_eq_zero_iff.1 hz]; rfl
          · rw [if_neg hz, if_neg hz, List.append_nil]; rfl
      · try rw [c6]
        replace c6 := ne_of_bne c6
        refine Meet.of (cast_p (G122_1111110101110001002_eq _ _ _ _ _ _) ?_)
        refine bindV_mk p_t ?_
        refine Meet.of (cast_p (J122_111111010111001_eq _ _ _ _ _) ?_)
        refine i_t ?_
        exact ⟨congrArg AEnd.ret (hv ▸ line_no (by unfold Ev.fine; omega)), fr⟩
    · try rw [c5]
      replace c5 := ne_of_beq_false c5
      refine bindS_mk (fa_mk (by kernel_rfl)) ?_
      refine bindV_mk (ld_mk hm1 (by kernel_rfl) rfl) ?_
      refine bindS_mk (cv_wr (d := 49) (k := .u64) (by kernel_rfl) (wr_u64 (by omega) (by omega))) ?_
      refine callS (numP _ (by omega) (by omega) _) ?_
      refine bindE (bs2_at (e := 9) (by kernel_rfl) z9 (by kernel_rfl) (by kernel_rfl)) fun h8 u8 => ?_
      have n8 := u8.next
      have fFR_8 := fun k (hk : k < h0.next) => (u8.other k (by omega)).trans (fr k hk)
      have fX1_8 := (u8.other _ (by omega)).trans hm1
      have fX6_8 := (u8.other _ (by omega)).trans hm6
      have f8_8 := u8.at_
      refine callS (wordsP _ _ [s5, dec e.a.toNat] _ f8_8 (by simp) (by simp) (by rw [jn2, hs5]; have l1 := kindName_len e.kind; have l2 := dec_len20 (n := e.a.toNat) (by omega); simp; omega)) ?_
      refine Meet.of (cast_p (J122_1111111_eq _ _ _) ?_)
      exact ⟨congrArg AEnd.ret ((line_yes (e := e) (by unfold Ev.fine; omega) (by rw [Ev.txt, if_neg (by omega), if_neg (by omega), hs5, jn2])).trans hv), fFR_8⟩
omit ok in
theorem lineV_old (e : Ev) (m : Nat → Bool) : oldV m e.lineV = true := rfl
theorem line0 {k : V} (hk : KeepB h0 k e.keep) : ACalls Pg 122 [evV e k] h0 (Ends e.lineV h0) := by
  have k1 := ok.kind; have k2 := ok.a; have k3 := ok.b; have k4 := ok.ck; have k5 := ok.txn; have k6 := ok.page; have k7 := ok.off; have k8 := ok.s; have k9 := ok.keep
  obtain ⟨a, rfl⟩ := hk.shape
  obtain ⟨v, hv⟩ : ∃ v, e.lineV = v := ⟨_, rfl⟩
  rw [hv]
  refine C122 _ _ _ ?_
  refine bindE (new_at (s73 e a _)) fun h1 u1 => ?_
  have n1 := u1.next
  have fFR_1 := fun k (hk : k < h0.next) => (u1.other k (by omega)).trans ((fun n (_ : n < h0.next) => rfl) k hk)
  have f1_1 := u1.at_
  refine callQ (eventsP _) fun h2 u2 => ?_
  have n2 := u2.next
  have fFR_2 := fun k (hk : k < h0.next) => (u2.other k (by omega)).trans (fFR_1 k hk)
  have f1_2 := (u2.other _ (by omega)).trans f1_1
  have fE_2 := u2.at_
  refine bindS_mk (fa_mk (by kernel_rfl)) ?_
  refine bindV_mk (ld_mk f1_2 (by kernel_rfl) rfl) ?_
  first | refine bindS_mk (cv_wr (d := 3) (k := .i64) (by kernel_rfl) (by first | exact wrap_i64 (by omega) (by omega) | exact wr_u8 (by omega) (by omega) | exact wr_u16 (by omega) (by omega) | exact wr_u32 (by omega) (by omega) | exact wr_u64 (by omega) (by omega))) ?_ | refine bindS_mk (cv_int (d := 3) .i64 (by kernel_rfl)) ?_
  refine bindV_mk (len_slc (by kernel_rfl)) ?_
  refine bindS_mk (b_geq) ?_
  refine g_split_f (fun c3 => ?_) (fun c3 => ?_)
  · try rw [c3]
    replace c3 := of_decide_eq_false c3
    refine bindS_mk (fa_mk (by kernel_rfl)) ?_
    refine bindV_mk (ld_mk f1_2 (by kernel_rfl) rfl) ?_
    refine bindS_mk (b_lss) ?_
    refine Meet.of (cast_p (G122_11001002_eq _ _ _ _ _ _) ?_)
    refine bindV_mk p_f ?_
    refine g_split_f (fun c4 => ?_) (fun c4 => ?_)
    · try rw [c4]
      replace c4 := of_decide_eq_false c4
      refine bindS_mk (fa_mk (by kernel_rfl)) ?_
      refine bindV_mk (ld_mk f1_2 (by kernel_rfl) rfl) ?_
      refine bindS_mk (b_geq) ?_
      refine Meet.of (cast_p (G122_11001004_eq _ _ _ _ _ _) ?_)
      refine bindV_mk p_f ?_
      refine g_split_f (fun c5 => ?_) (fun c5 => ?_)
      · try rw [c5]
        replace c5 := of_decide_eq_false c5
        refine bindS_mk (fa_mk (by kernel_rfl)) ?_
        refine bindV_mk (ld_mk f1_2 (by kernel_rfl) rfl) ?_
        refine bindS_mk (b_neq) ?_
        refine Meet.of (cast_p (G122_11001006_eq _ _ _ _ _ _) ?_)
        refine bindV_mk p_f ?_
        refine Meet.of (cast_p (J122_1101_eq _ _ _ _ _) ?_)
        refine i_split (fun c6 => ?_) (fun c6 => ?_)
        · try rw [c6]
          replace c6 := ne_of_bne c6
          exact ⟨congrArg AEnd.ret (hv ▸ line_no (by unfold Ev.fine; omega)), fFR_2⟩
        · try rw [c6]
          replace c6 := eq_of_bne_false c6
          refine Meet.of (cast_p (J122_111_eq _ _ _ _) ?_)
          refine bindS_mk (fa_mk (by kernel_rfl)) ?_
          refine bindV_mk (ld_mk f1_2 (by kernel_rfl) rfl) ?_
          refine bindS_mk (ia_slc _ (by kernel_rfl) (by omega) (by omega)) ?_
          refine bindV_mk (ld_mk fE_2 (by kernel_rfl) (getKind (k := e.kind) (by omega))) ?_
          refine bindS_mk (fa_mk (by kernel_rfl)) ?_
          refine bindV_mk (ld_mk f1_2 (by kernel_rfl) rfl) ?_
          refine bindE (al_at z57 zs57) fun h7 u7 => ?_
          have n7 := u7.next
          have fFR_7 := fun k (hk : k < h0.next) => (u7.other k (by omega)).trans (fFR_2 k hk)
          have f1_7 := (u7.other _ (by omega)).trans f1_2
          have fE_7 := (u7.other _ (by omega)).trans fE_2
          have f7_7 := u7.at_
          refine bindE (st_at f7_7 (by kernel_rfl) rfl (s57 e) rfl) fun h8 u8 => ?_
          have n8 := u8.next
          have fFR_8 := fun k (hk : k < h0.next) => (u8.other k (by omega)).trans (fFR_7 k hk)
          have f1_8 := (u8.other _ (by omega)).trans f1_7
          have fE_8 := (u8.other _ (by omega)).trans fE_7
          have f7_8 := u8.at_
          refine bindS_mk (fa_mk (by kernel_rfl)) ?_
          refine bindV_mk (ld_mk f1_8 (by kernel_rfl) rfl) ?_
          refine bindS_mk (b_neq) ?_
          refine g_split_t (fun c9 => ?_) (fun c9 => ?_)
          · try rw [c9]
            replace c9 := ne_of_bne c9
            refine bindV_mk (ld_mk f7_8 (by kernel_rfl) rfl) ?_
            refine bindS_mk (build57) ?_
            refine bindS_mk (ne57 e _) ?_
            refine Meet.of (cast_p (G122_11111001002_eq _ _ _ _ _ _ _) ?_)
            refine bindV_mk p_t ?_
            refine g_split_f (fun c10 => ?_) (fun c10 => ?_)
            · try rw [c10]
              have l10 : (e.ck = 0 ∧ e.txn = 0 ∧ e.page = 0 ∧ e.off = 0 ∧ e.s.length = 0) := of_decide_eq_true (by simpa only [Bool.not_eq_false'] using c10)
              refine bindS_mk (fa_mk (by kernel_rfl)) ?_
              refine bindV_mk (ld_mk f1_8 (by kernel_rfl) rfl) ?_
              refine bindS_mk (b_neq) ?_
              refine Meet.of (cast_p (G122_11111001004_eq _ _ _ _ _ _ _) ?_)
              refine g_split_t (fun c11 => ?_) (fun c11 => ?_)
              · try rw [c11]
                replace c11 := ne_of_bne c11
                refine bindS_mk (fa_mk (by kernel_rfl)) ?_
                refine bindV_mk (ld_mk f1_8 (by kernel_rfl) rfl) ?_
                refine bindV_mk (len_slc (by kernel_rfl)) ?_
                refine bindS_mk (b_gtr) ?_
                refine Meet.of (cast_p (G122_11111001005_eq _ _ _ _ _ _ _ _) ?_)
                refine g_ff ?_
                refine bindV_mk p_t ?_
                refine Meet.of (cast_p (G122_11111001006_eq _ _ _ _ _ _ _) ?_)
                refine bindV_mk p_f ?_
                refine Meet.of (cast_p (J122_1111101_eq _ _ _ _ _ _) ?_)
                refine i_split (fun c12 => ?_) (fun c12 => ?_)
                · try rw [c12]
                  replace c12 := of_decide_eq_true c12
                  exact ⟨congrArg AEnd.ret (hv ▸ line_no (by unfold Ev.fine; omega)), fFR_8⟩
                · try rw [c12]
                  replace c12 := of_decide_eq_false c12
                  exact Meet.of (sw e ok (by omega) rfl (hk.keep (by omega) (fun n hn => fFR_8 n hn)) hv (by omega) fFR_8 f1_8 (by omega) f7_8 (by omega))
              · try rw [c11]
                replace c11 := eq_of_bne_false c11
                refine Meet.of (cast_p (G122_11111001005_eq _ _ _ _ _ _ _ _) ?_)
                refine g_ff ?_
                refine bindV_mk p_f ?_
                refine Meet.of (cast_p (G122_11111001006_eq _ _ _ _ _ _ _) ?_)
                refine bindV_mk p_f ?_
                refine Meet.of (cast_p (J122_1111101_eq _ _ _ _ _ _) ?_)
                refine i_f ?_
                exact Meet.of (sw e ok (by omega) rfl (hk.keep (by omega) (fun n hn => fFR_8 n hn)) hv (by omega) fFR_8 f1_8 (by omega) f7_8 (by omega))
            · try rw [c10]
              have l10 : ¬ (e.ck = 0 ∧ e.txn = 0 ∧ e.page = 0 ∧ e.off = 0 ∧ e.s.length = 0) := of_decide_eq_false (by simpa only [Bool.not_eq_true'] using c10)
              refine Meet.of (cast_p (G122_11111001004_eq _ _ _ _ _ _ _) ?_)
              refine g_hole ?_
              refine Meet.of (cast_p (G122_11111001005_eq _ _ _ _ _ _ _ _) ?_)
              refine g_tf ?_
              refine Meet.of (cast_p (G122_11111001006_eq _ _ _ _ _ _ _) ?_)
              refine bindV_mk p_t ?_
              refine Meet.of (cast_p (J122_1111101_eq _ _ _ _ _ _) ?_)
              refine i_t ?_
              exact ⟨congrArg AEnd.ret (hv ▸ line_no (by unfold Ev.fine; omega)), fFR_8⟩
          · try rw [c9]
            replace c9 := eq_of_bne_false c9
            refine Meet.of (cast_p (G122_11111001002_eq _ _ _ _ _ _ _) ?_)
            refine bindV_mk p_f ?_
            refine g_ff ?_
            refine bindS_mk (fa_mk (by kernel_rfl)) ?_
            refine bindV_mk (ld_mk f1_8 (by kernel_rfl) rfl) ?_
            refine bindS_mk (b_neq) ?_
            refine Meet.of (cast_p (G122_11111001004_eq _ _ _ _ _ _ _) ?_)
            refine g_split_t (fun c13 => ?_) (fun c13 => ?_)
            · try rw [c13]
              replace c13 := ne_of_bne c13
              refine bindS_mk (fa_mk (by kernel_rfl)) ?_
              refine bindV_mk (ld_mk f1_8 (by kernel_rfl) rfl) ?_
              refine bindV_mk (len_slc (by kernel_rfl)) ?_
              refine bindS_mk (b_gtr) ?_
              refine Meet.of (cast_p (G122_11111001005_eq _ _ _ _ _ _ _ _) ?_)
              refine g_ff ?_
              refine bindV_mk p_t ?_
              refine Meet.of (cast_p (G122_11111001006_eq _ _ _ _ _ _ _) ?_)
              refine bindV_mk p_f ?_
              refine Meet.of (cast_p (J122_1111101_eq _ _ _ _ _ _) ?_)
              refine i_split (fun c14 => ?_) (fun c14 => ?_)
              · try rw [c14]
                replace c14 := of_decide_eq_true c14
                exact ⟨congrArg AEnd.ret (hv ▸ line_no (by unfold Ev.fine; omega)), fFR_8⟩
              · try rw [c14]
                replace c14 := of_decide_eq_false c14
                exact Meet.of (sw e ok (by omega) rfl (hk.keep (by omega) (fun n hn => fFR_8 n hn)) hv (by omega) fFR_8 f1_8 (by omega) f7_8 (by omega))
            · try rw [c13]
              replace c13 := eq_of_bne_false c13
              refine Meet.of (cast_p (G122_11111001005_eq _ _ _ _ _ _ _ _) ?_)
              refine g_ff ?_
              refine bindV_mk p_f ?_
              refine Meet.of (cast_p (G122_11111001006_eq _ _ _ _ _ _ _) ?_)
              refine bindV_mk p_f ?_
              refine Meet.of (cast_p (J122_1111101_eq _ _ _ _ _ _) ?_)
              refine i_f ?_
              exact Meet.of (sw e ok (by omega) rfl (hk.keep (by omega) (fun n hn => fFR_8 n hn)) hv (by omega) fFR_8 f1_8 (by omega) f7_8 (by omega))
      · try rw [c5]
        replace c5 := of_decide_eq_true c5
        refine Meet.of (cast_p (G122_11001006_eq _ _ _ _ _ _) ?_)
        refine bindV_mk p_t ?_
        refine Meet.of (cast_p (J122_1101_eq _ _ _ _ _) ?_)
        refine i_t ?_
        exact ⟨congrArg AEnd.ret (hv ▸ line_no (by unfold Ev.fine; omega)), fFR_2⟩
    · try rw [c4]
      replace c4 := of_decide_eq_true c4
      refine Meet.of (cast_p (G122_11001004_eq _ _ _ _ _ _) ?_)
      refine bindV_mk p_t ?_
      refine g_tf ?_
      refine Meet.of (cast_p (G122_11001006_eq _ _ _ _ _ _) ?_)
      refine bindV_mk p_t ?_
      refine Meet.of (cast_p (J122_1101_eq _ _ _ _ _) ?_)
      refine i_t ?_
      exact ⟨congrArg AEnd.ret (hv ▸ line_no (by unfold Ev.fine; omega)), fFR_2⟩
  · try rw [c3]
    replace c3 := of_decide_eq_true c3
    refine Meet.of (cast_p (G122_11001002_eq _ _ _ _ _ _) ?_)
    refine bindV_mk p_t ?_
    refine g_tf ?_
    refine Meet.of (cast_p (G122_11001004_eq _ _ _ _ _ _) ?_)
    refine bindV_mk p_t ?_
    refine g_tf ?_
    refine Meet.of (cast_p (G122_11001006_eq _ _ _ _ _ _) ?_)
    refine bindV_mk p_t ?_
    refine Meet.of (cast_p (J122_1101_eq _ _ _ _ _) ?_)
    refine i_t ?_
    exact ⟨congrArg AEnd.ret (hv ▸ line_no (by unfold Ev.fine; omega)), fFR_2⟩
theorem lineP {k : V} (hk : KeepB h0 k e.keep) : ACalls Pg 122 [evV e k] h0 (pureE e.lineV h0) :=
  acalls_forget (lineV_old e _) (line0 e ok hk)
end
end Go.Proofs.YtcglbpjpbjaecaaGreat.Sh
namespace Go.Proofs.YtcglbpjpbjaecaaGreat.Sh
open Go Go.Ab Go.RowKit
open Go.Proofs.YtcglbpjpbjaecaaGreat.Ru (Pg okP)
set_option maxRecDepth 100000
noncomputable def B126 : Code := (Tryz.f126.body).getD .skip
def R126 : List ResultVar := [.tmp 2, .tmp 3]
abbrev N126 : Nat := 214
def K126 : KT := (.seq .leaf (.join (.join (.reg [[1, 12, 15], [1, 17, 20], [1, 22, 25]]) (.two (.seq .leaf .leaf [2, 3]) .leaf) [1, 26]) (.seq .leaf (.join (.seq .leaf (.two (.join (.join (.reg [[1, 4, 35, 38], [1, 4, 40, 44], [1, 4, 46, 49], [1, 4, 51, 54], [1, 4, 56, 59], [1, 4, 61, 65]]) (.two (.seq .leaf .leaf [2, 3]) .leaf) [1, 4, 66]) (.seq .leaf (.join (.seq .leaf (.one (.seq .leaf (.two (.seq .leaf .leaf [2, 3]) (.seq .leaf (.two (.join (.reg [[117, 121, 124]]) .leaf [2, 3]) (.join (.seq .leaf (.two .leaf .leaf) [4, 5, 78, 126]) (.two (.join (.reg [[4, 134, 138, 141], [134, 143, 146]]) .leaf [2, 3]) .leaf) [4, 5, 126])) [4, 5, 78, 104])) [4, 5, 78, 79])) [4, 5, 78]) (.seq .leaf .leaf [2, 3]) [4, 5]) [4, 5]) [1, 4]) .leaf) [1, 4, 31]) (.join (.seq .leaf (.two (.seq .leaf .leaf [2, 3]) .leaf) [1, 156]) (.join (.seq .leaf (.two (.seq .leaf (.join (.seq .leaf (.one (.loop (.join (.seq .leaf (.two .leaf .leaf) [1, 6, 7, 164]) (.join (.one (.seq .leaf (.two .leaf .leaf) [1, 6, 7, 171])) .leaf [1, 6, 7]) [1, 6, 7]) [1, 6, 7])) [1, 6, 7]) (.join (.seq .leaf (.two .leaf .leaf) [1, 6, 179]) (.join (.reg [[182, 186, 190]]) .leaf [2, 3]) [1, 6]) [1, 6]) [1, 6]) .leaf) [1, 159]) (.seq .leaf (.join (.seq .leaf (.one (.seq .leaf (.two .leaf (.seq .leaf (.two .leaf (.seq .leaf (.two .leaf (.seq .leaf (.two .leaf (.seq .leaf (.two .leaf .leaf) [1, 8, 202])) [1, 8, 193, 200])) [1, 8, 193, 198])) [1, 8, 193, 196])) [1, 8, 193, 194])) [1, 8, 193]) (.seq .leaf .leaf [2, 3]) [1, 8]) [1, 8]) [1]) [1]) [1, 4]) [1, 4]) [1]) [1])
def J126_1110101101011101 (Q : AEnd → AH → Prop) (x2 x3 : V) (h : AH) : Prop := vcAt Pg N126 B126 K126 [1, 1, 1, 0, 1, 0, 1, 1, 0, 1, 0, 1, 1, 1, 0, 1] [] (vcRet Pg R126 Q) [(2, x2), (3, x3)] h
def G126_11101011010111001002 (Q : AEnd → AH → Prop) (x117 x121 x124 : V) (h : AH) : Prop := segAtD Pg N126 B126 K126 [1, 1, 1, 0, 1, 0, 1, 1, 0, 1, 0, 1, 1, 1, 0, 0] 2 1 19 [] (vcRet Pg R126 Q) [(117, x117), (121, x121), (124, x124)] h
def J126_111010110101111101 (Q : AEnd → AH → Prop) (x2 x3 : V) (h : AH) : Prop := vcAt Pg N126 B126 K126 [1, 1, 1, 0, 1, 0, 1, 1, 0, 1, 0, 1, 1, 1, 1, 1, 0, 1] [] (vcRet Pg R126 Q) [(2, x2), (3, x3)] h
def G126_1110101101011111001004 (Q : AEnd → AH → Prop) (x134 x143 x146 : V) (h : AH) : Prop := segAtD Pg N126 B126 K126 [1, 1, 1, 0, 1, 0, 1, 1, 0, 1, 0, 1, 1, 1, 1, 1, 0, 0] 4 2 18 [] (vcRet Pg R126 Q) [(134, x134), (143, x143), (146, x146)] h
def G126_1110101101011111001002 (Q : AEnd → AH → Prop) (x4 x134 x138 x141 : V) (h : AH) : Prop := segAtD Pg N126 B126 K126 [1, 1, 1, 0, 1, 0, 1, 1, 0, 1, 0, 1, 1, 1, 1, 1, 0, 0] 2 1 13 [] (vcRet Pg R126 Q) [(4, x4), (134, x134), (138, x138), (141, x141)] h
def J126_111010111 (Q : AEnd → AH → Prop) (x4 x5 : V) (h : AH) : Prop := vcAt Pg N126 B126 K126 [1, 1, 1, 0, 1, 0, 1, 1, 1] [] (vcRet Pg R126 Q) [(4, x4), (5, x5)] h
def J126_1110101101011111 (Q : AEnd → AH → Prop) (x4 x5 x126 : V) (h : AH) : Prop := vcAt Pg N126 B126 K126 [1, 1, 1, 0, 1, 0, 1, 1, 0, 1, 0, 1, 1, 1, 1, 1] [] (vcRet Pg R126 Q) [(4, x4), (5, x5), (126, x126)] h
def J126_1110101 (Q : AEnd → AH → Prop) (x1 x4 : V) (h : AH) : Prop := vcAt Pg N126 B126 K126 [1, 1, 1, 0, 1, 0, 1] [] (vcRet Pg R126 Q) [(1, x1), (4, x4)] h
def J126_11101001 (Q : AEnd → AH → Prop) (x1 x4 x66 : V) (h : AH) : Prop := vcAt Pg N126 B126 K126 [1, 1, 1, 0, 1, 0, 0, 1] [] (vcRet Pg R126 Q) [(1, x1), (4, x4), (66, x66)] h
def G126_111010001012 (Q : AEnd → AH → Prop) (x1 x4 x61 x65 : V) (h : AH) : Prop := segAt Pg N126 B126 K126 [1, 1, 1, 0, 1, 0, 0, 0] 12 6 [] (vcRet Pg R126 Q) [(1, x1), (4, x4), (61, x61), (65, x65)] h
def G126_111010001010 (Q : AEnd → AH → Prop) (x1 x4 x56 x59 : V) (h : AH) : Prop := segAt Pg N126 B126 K126 [1, 1, 1, 0, 1, 0, 0, 0] 10 5 [] (vcRet Pg R126 Q) [(1, x1), (4, x4), (56, x56), (59, x59)] h
def G126_111010001008 (Q : AEnd → AH → Prop) (x1 x4 x51 x54 : V) (h : AH) : Prop := segAt Pg N126 B126 K126 [1, 1, 1, 0, 1, 0, 0, 0] 8 4 [] (vcRet Pg R126 Q) [(1, x1), (4, x4), (51, x51), (54, x54)] h
def G126_111010001006 (Q : AEnd → AH → Prop) (x1 x4 x46 x49 : V) (h : AH) : Prop := segAt Pg N126 B126 K126 [1, 1, 1, 0, 1, 0, 0, 0] 6 3 [] (vcRet Pg R126 Q) [(1, x1), (4, x4), (46, x46), (49, x49)] h
def G126_111010001004 (Q : AEnd → AH → Prop) (x1 x4 x40 x44 : V) (h : AH) : Prop := segAt Pg N126 B126 K126 [1, 1, 1, 0, 1, 0, 0, 0] 4 2 [] (vcRet Pg R126 Q) [(1, x1), (4, x4), (40, x40), (44, x44)] h
def G126_111010001002 (Q : AEnd → AH → Prop) (x1 x4 x35 x38 : V) (h : AH) : Prop := segAt Pg N126 B126 K126 [1, 1, 1, 0, 1, 0, 0, 0] 2 1 [] (vcRet Pg R126 Q) [(1, x1), (4, x4), (35, x35), (38, x38)] h
def J126_111110101010011 (Q : AEnd → AH → Prop) (n : Nat) (x1 x6 x7 : V) (h : AH) : Prop := vcAt Pg N126 B126 K126 [1, 1, 1, 1, 1, 0, 1, 0, 1, 0, 1, 0, 0, 1, 1] [n] (vcRet Pg R126 Q) [(1, x1), (6, x6), (7, x7)] h
def J126_11111010101001 (Q : AEnd → AH → Prop) (n : Nat) (x1 x6 x7 : V) (h : AH) : Prop := vcAt Pg N126 B126 K126 [1, 1, 1, 1, 1, 0, 1, 0, 1, 0, 1, 0, 0, 1] [n] (vcRet Pg R126 Q) [(1, x1), (6, x6), (7, x7)] h
def J126_111110101111 (Q : AEnd → AH → Prop) (x2 x3 : V) (h : AH) : Prop := vcAt Pg N126 B126 K126 [1, 1, 1, 1, 1, 0, 1, 0, 1, 1, 1, 1] [] (vcRet Pg R126 Q) [(2, x2), (3, x3)] h
def G126_1111101011101002 (Q : AEnd → AH → Prop) (x182 x186 x190 : V) (h : AH) : Prop := segAtD Pg N126 B126 K126 [1, 1, 1, 1, 1, 0, 1, 0, 1, 1, 1, 0] 2 1 9 [] (vcRet Pg R126 Q) [(182, x182), (186, x186), (190, x190)] h
def J126_11111010111 (Q : AEnd → AH → Prop) (x1 x6 : V) (h : AH) : Prop := vcAt Pg N126 B126 K126 [1, 1, 1, 1, 1, 0, 1, 0, 1, 1, 1] [] (vcRet Pg R126 Q) [(1, x1), (6, x6)] h
def J126_1111101011 (Q : AEnd → AH → Prop) (x1 x6 : V) (h : AH) : Prop := vcAt Pg N126 B126 K126 [1, 1, 1, 1, 1, 0, 1, 0, 1, 1] [] (vcRet Pg R126 Q) [(1, x1), (6, x6)] h
def L126_111110101010 (Q : AEnd → AH → Prop) (n : Nat) (x1 x6 x7 : V) (h : AH) : Prop := loopAt Pg N126 B126 K126 [1, 1, 1, 1, 1, 0, 1, 0, 1, 0, 1, 0] [] n (vcRet Pg R126 Q) [(1, x1), (6, x6), (7, x7)] h
def J126_11111111 (Q : AEnd → AH → Prop) (x1 x8 : V) (h : AH) : Prop := vcAt Pg N126 B126 K126 [1, 1, 1, 1, 1, 1, 1, 1] [] (vcRet Pg R126 Q) [(1, x1), (8, x8)] h
def J126_111111 (Q : AEnd → AH → Prop) (x1 : V) (h : AH) : Prop := vcAt Pg N126 B126 K126 [1, 1, 1, 1, 1, 1] [] (vcRet Pg R126 Q) [(1, x1)] h
def J126_11111 (Q : AEnd → AH → Prop) (x1 : V) (h : AH) : Prop := vcAt Pg N126 B126 K126 [1, 1, 1, 1, 1] [] (vcRet Pg R126 Q) [(1, x1)] h
def J126_1111 (Q : AEnd → AH → Prop) (x1 x4 : V) (h : AH) : Prop := vcAt Pg N126 B126 K126 [1, 1, 1, 1] [] (vcRet Pg R126 Q) [(1, x1), (4, x4)] h
def J126_11 (Q : AEnd → AH → Prop) (x1 : V) (h : AH) : Prop := vcAt Pg N126 B126 K126 [1, 1] [] (vcRet Pg R126 Q) [(1, x1)] h
def J126_101 (Q : AEnd → AH → Prop) (x1 x26 : V) (h : AH) : Prop := vcAt Pg N126 B126 K126 [1, 0, 1] [] (vcRet Pg R126 Q) [(1, x1), (26, x26)] h
def G126_1001006 (Q : AEnd → AH → Prop) (x1 x22 x25 : V) (h : AH) : Prop := segAt Pg N126 B126 K126 [1, 0, 0] 6 3 [] (vcRet Pg R126 Q) [(1, x1), (22, x22), (25, x25)] h
def G126_1001004 (Q : AEnd → AH → Prop) (x1 x17 x20 : V) (h : AH) : Prop := segAt Pg N126 B126 K126 [1, 0, 0] 4 2 [] (vcRet Pg R126 Q) [(1, x1), (17, x17), (20, x20)] h
def G126_1001002 (Q : AEnd → AH → Prop) (x1 x12 x15 : V) (h : AH) : Prop := segAt Pg N126 B126 K126 [1, 0, 0] 2 1 [] (vcRet Pg R126 Q) [(1, x1), (12, x12), (15, x15)] h
theorem J126_1110101101011101_eq (Q : AEnd → AH → Prop) (x2 x3 : V) (h : AH) : J126_1110101101011101 Q x2 x3 h = (
  Q (.ret (V.tup [x2, x3])) h) := by kernel_rfl
theorem G126_11101011010111001002_eq (Q : AEnd → AH → Prop) (x117 x121 x124 : V) (h : AH) : G126_11101011010111001002 Q x117 x121 x124 h = (
  bindO (fstV (aPick x121 x124 (V.bool false) h)) fun v101 =>
  Meet (J126_1110101101011101 Q x117 v101 h)) := by kernel_rfl
theorem J126_111010110101111101_eq (Q : AEnd → AH → Prop) (x2 x3 : V) (h : AH) : J126_111010110101111101 Q x2 x3 h = (
  Q (.ret (V.tup [x2, x3])) h) := by kernel_rfl
theorem G126_1110101101011111001004_eq (Q : AEnd → AH → Prop) (x134 x143 x146 : V) (h : AH) : G126_1110101101011111001004 Q x134 x143 x146 h = (
  bindO (fstV (aPick x143 x146 (V.bool false) h)) fun v116 =>
  Meet (J126_111010110101111101 Q x134 v116 h)) := by kernel_rfl
theorem G126_1110101101011111001002_eq (Q : AEnd → AH → Prop) (x4 x134 x138 x141 : V) (h : AH) : G126_1110101101011111001002 Q x4 x134 x138 x141 h = (
  bindO (fstV (aPick x138 x141 (V.bool false) h)) fun v115 =>
  vcG v115 true (
  bindO (fstV (still (aFieldAddr Pg 57 x4 4) h)) fun v117 =>
  bindO (fstV (aLoadV Pg h 9 v117)) fun v118 =>
  bindO (fstV (still (aBin Pg .eql 9 v118 (V.str []) true) h)) fun v119 =>
  Meet (G126_1110101101011111001004 Q x134 v115 v119 h)) (Meet (G126_1110101101011111001004 Q x134 v115 hole h))) := by kernel_rfl
theorem J126_111010111_eq (Q : AEnd → AH → Prop) (x4 x5 : V) (h : AH) : J126_111010111 Q x4 x5 h = (
  bindO (fstV (aLoadV Pg h 57 x4)) fun v123 =>
  bindO (fstV (still (aFieldAddr Pg 57 x4 0) h)) fun v124 =>
  bindO (fstV (aLoadV Pg h 5 v124)) fun v125 =>
  bindO (fstV (still (aBuild Pg 57 [(0, v125)]) h)) fun v126 =>
  bindO (fstV (still (aBin Pg .eql 57 v123 v126 false) h)) fun v127 =>
  Q (.ret (V.tup [x5, v127])) h) := by kernel_rfl
theorem J126_1110101101011111_eq (Q : AEnd → AH → Prop) (x4 x5 x126 : V) (h : AH) : J126_1110101101011111 Q x4 x5 x126 h = (
  vcIf x126 (
  bindO (fstV (still (aBin Pg .add 9 x5 (V.str [32]) true) h)) fun v107 =>
  bindO (fstV (still (aFieldAddr Pg 57 x4 1) h)) fun v108 =>
  bindO (fstV (aLoadV Pg h 49 v108)) fun v109 =>
  ∃ v110, ACalls Pg 119 [v109] h (pureE v110 h) ∧ (
  bindO (fstV (still (aBin Pg .add 9 v107 v110 false) h)) fun v111 =>
  bindO (fstV (still (aFieldAddr Pg 57 x4 2) h)) fun v112 =>
  bindO (fstV (aLoadV Pg h 22 v112)) fun v113 =>
  bindO (fstV (still (aBin Pg .eql 22 v113 (V.int .u16 0) true) h)) fun v114 =>
  vcG v114 true (
  bindO (fstV (still (aFieldAddr Pg 57 x4 3) h)) fun v120 =>
  bindO (fstV (aLoadV Pg h 3 v120)) fun v121 =>
  bindO (fstV (still (aBin Pg .eql 3 v121 (V.int .i64 0) true) h)) fun v122 =>
  Meet (G126_1110101101011111001002 Q x4 v111 v114 v122 h)) (Meet (G126_1110101101011111001002 Q x4 v111 v114 hole h)))) (
  Meet (J126_111010111 Q x4 x5 h))) := by kernel_rfl
theorem J126_1110101_eq (Q : AEnd → AH → Prop) (x1 x4 : V) (h : AH) : J126_1110101 Q x1 x4 h = (
  bindO (fstV (still (aFieldAddr Pg 73 x1 1) h)) fun v47 =>
  bindO (fstV (aLoadV Pg h 3 v47)) fun v48 =>
  bindO (fstV (still (aConv Pg h 3 49 v48) h)) fun v49 =>
  ∃ v50, ACalls Pg 119 [v49] h (pureE v50 h) ∧ (
  bindO (fstV (still (aBin Pg .add 9 (V.str [97, 115, 107, 32]) v50 true) h)) fun v51 =>
  bindO (fstV (still (aBin Pg .add 9 v51 (V.str [32]) true) h)) fun v52 =>
  bindO (fstV (still (aFieldAddr Pg 57 x4 0) h)) fun v53 =>
  bindO (fstV (aLoadV Pg h 5 v53)) fun v54 =>
  ∃ v55, ACalls Pg 120 [v54] h (pureE v55 h) ∧ (
  bindO (fstV (still (aBin Pg .add 9 v52 v55 false) h)) fun v56 =>
  bindV (still (aFieldAddr Pg 57 x4 0) h) fun v57 h58 =>
  bindV (aLoadV Pg h58 5 v57) fun v59 h60 =>
  bindV (still (aBin Pg .eql 5 v59 (V.int .u8 2) true) h60) fun v61 h62 =>
  vcIf v61 (
  bindO (fstV (still (aBin Pg .add 9 v56 (V.str [32]) true) h62)) fun v63 =>
  bindO (fstV (still (aFieldAddr Pg 57 x4 1) h62)) fun v64 =>
  bindO (fstV (aLoadV Pg h62 49 v64)) fun v65 =>
  ∃ v66, ACalls Pg 119 [v65] h62 (pureE v66 h62) ∧ (
  bindO (fstV (still (aBin Pg .add 9 v63 v66 false) h62)) fun v67 =>
  bindO (fstV (still (aBin Pg .add 9 v67 (V.str [32]) true) h62)) fun v68 =>
  bindO (fstV (still (aFieldAddr Pg 57 x4 2) h62)) fun v69 =>
  bindO (fstV (aLoadV Pg h62 22 v69)) fun v70 =>
  bindO (fstV (still (aConv Pg h62 22 49 v70) h62)) fun v71 =>
  ∃ v72, ACalls Pg 119 [v71] h62 (pureE v72 h62) ∧ (
  bindO (fstV (still (aBin Pg .add 9 v68 v72 false) h62)) fun v73 =>
  bindO (fstV (still (aBin Pg .add 9 v73 (V.str [32]) true) h62)) fun v74 =>
  bindO (fstV (still (aFieldAddr Pg 57 x4 3) h62)) fun v75 =>
  bindO (fstV (aLoadV Pg h62 3 v75)) fun v76 =>
  bindO (fstV (still (aConv Pg h62 3 49 v76) h62)) fun v77 =>
  ∃ v78, ACalls Pg 119 [v77] h62 (pureE v78 h62) ∧ (
  bindO (fstV (still (aBin Pg .add 9 v74 v78 false) h62)) fun v79 =>
  bindO (fstV (still (aBin Pg .add 9 v79 (V.str [32]) true) h62)) fun v80 =>
  bindO (fstV (still (aFieldAddr Pg 57 x4 4) h62)) fun v81 =>
  bindO (fstV (aLoadV Pg h62 9 v81)) fun v82 =>
  ∃ v83, ACalls Pg 121 [v82] h62 (pureE v83 h62) ∧ (
  bindO (fstV (still (aBin Pg .add 9 v80 v83 false) h62)) fun v84 =>
  Q (.ret (V.tup [v84, (V.bool true)])) h62))))) (
  bindV (still (aBin Pg .eql 5 v59 (V.int .u8 1) true) h62) fun v85 h86 =>
  vcIf v85 (
  bindO (fstV (still (aBin Pg .add 9 v56 (V.str [32]) true) h86)) fun v87 =>
  bindO (fstV (still (aFieldAddr Pg 57 x4 1) h86)) fun v88 =>
  bindO (fstV (aLoadV Pg h86 49 v88)) fun v89 =>
  ∃ v90, ACalls Pg 119 [v89] h86 (pureE v90 h86) ∧ (
  bindO (fstV (still (aBin Pg .add 9 v87 v90 false) h86)) fun v91 =>
  bindO (fstV (still (aBin Pg .add 9 v91 (V.str [32]) true) h86)) fun v92 =>
  bindO (fstV (still (aFieldAddr Pg 57 x4 2) h86)) fun v93 =>
  bindO (fstV (aLoadV Pg h86 22 v93)) fun v94 =>
  bindO (fstV (still (aConv Pg h86 22 49 v94) h86)) fun v95 =>
  ∃ v96, ACalls Pg 119 [v95] h86 (pureE v96 h86) ∧ (
  bindO (fstV (still (aBin Pg .add 9 v92 v96 false) h86)) fun v97 =>
  bindO (fstV (still (aFieldAddr Pg 57 x4 3) h86)) fun v98 =>
  bindO (fstV (aLoadV Pg h86 3 v98)) fun v99 =>
  bindO (fstV (still (aBin Pg .eql 3 v99 (V.int .i64 0) true) h86)) fun v100 =>
  vcG v100 true (
  bindO (fstV (still (aFieldAddr Pg 57 x4 4) h86)) fun v102 =>
  bindO (fstV (aLoadV Pg h86 9 v102)) fun v103 =>
  bindO (fstV (still (aBin Pg .eql 9 v103 (V.str []) true) h86)) fun v104 =>
  Meet (G126_11101011010111001002 Q v97 v100 v104 h86)) (Meet (G126_11101011010111001002 Q v97 v100 hole h86))))) (
  bindV (still (aBin Pg .eql 5 v59 (V.int .u8 3) true) h86) fun v105 h106 =>
  vcIf v105 (
  Meet (J126_1110101101011111 Q x4 v56 v105 h106)) (
  bindV (still (aBin Pg .eql 5 v59 (V.int .u8 4) true) h106) fun v128 h129 =>
  Meet (J126_1110101101011111 Q x4 v56 v128 h129))))))) := by kernel_rfl
theorem J126_11101001_eq (Q : AEnd → AH → Prop) (x1 x4 x66 : V) (h : AH) : J126_11101001 Q x1 x4 x66 h = (
  vcIf x66 (
  Q (.ret (V.tup [(V.str []), (V.bool false)])) h) (
  Meet (J126_1110101 Q x1 x4 h))) := by kernel_rfl
theorem G126_111010001012_eq (Q : AEnd → AH → Prop) (x1 x4 x61 x65 : V) (h : AH) : G126_111010001012 Q x1 x4 x61 x65 h = (
  bindV (aPick x61 (V.bool true) x65 h) fun v45 h46 =>
  Meet (J126_11101001 Q x1 x4 v45 h46)) := by kernel_rfl
theorem G126_111010001010_eq (Q : AEnd → AH → Prop) (x1 x4 x56 x59 : V) (h : AH) : G126_111010001010 Q x1 x4 x56 x59 h = (
  bindV (aPick x56 (V.bool true) x59 h) fun v43 h44 =>
  vcG v43 false (
  bindV (still (aFieldAddr Pg 57 x4 4) h44) fun v130 h131 =>
  bindV (aLoadV Pg h131 9 v130) fun v132 h133 =>
  bindV (aBuiltin Pg h133 .len [9] [v132]) fun v134 h135 =>
  bindV (still (aBin Pg .gtr 3 v134 (V.int .i64 64) true) h135) fun v136 h137 =>
  Meet (G126_111010001012 Q x1 x4 v43 v136 h137)) (Meet (G126_111010001012 Q x1 x4 v43 hole h44))) := by kernel_rfl
theorem G126_111010001008_eq (Q : AEnd → AH → Prop) (x1 x4 x51 x54 : V) (h : AH) : G126_111010001008 Q x1 x4 x51 x54 h = (
  bindV (aPick x51 (V.bool true) x54 h) fun v41 h42 =>
  vcG v41 false (
  bindV (still (aFieldAddr Pg 57 x4 3) h42) fun v138 h139 =>
  bindV (aLoadV Pg h139 3 v138) fun v140 h141 =>
  bindV (still (aBin Pg .gtr 3 v140 (V.int .i64 2147483647) true) h141) fun v142 h143 =>
  Meet (G126_111010001010 Q x1 x4 v41 v142 h143)) (Meet (G126_111010001010 Q x1 x4 v41 hole h42))) := by kernel_rfl
theorem G126_111010001006_eq (Q : AEnd → AH → Prop) (x1 x4 x46 x49 : V) (h : AH) : G126_111010001006 Q x1 x4 x46 x49 h = (
  bindV (aPick x46 (V.bool true) x49 h) fun v39 h40 =>
  vcG v39 false (
  bindV (still (aFieldAddr Pg 57 x4 3) h40) fun v144 h145 =>
  bindV (aLoadV Pg h145 3 v144) fun v146 h147 =>
  bindV (still (aBin Pg .lss 3 v146 (V.int .i64 0) true) h147) fun v148 h149 =>
  Meet (G126_111010001008 Q x1 x4 v39 v148 h149)) (Meet (G126_111010001008 Q x1 x4 v39 hole h40))) := by kernel_rfl
theorem G126_111010001004_eq (Q : AEnd → AH → Prop) (x1 x4 x40 x44 : V) (h : AH) : G126_111010001004 Q x1 x4 x40 x44 h = (
  bindV (aPick x40 (V.bool true) x44 h) fun v37 h38 =>
  vcG v37 false (
  bindV (still (aFieldAddr Pg 57 x4 1) h38) fun v150 h151 =>
  bindV (aLoadV Pg h151 49 v150) fun v152 h153 =>
  bindV (still (aBin Pg .gtr 49 v152 (V.int .u64 2147483647) true) h153) fun v154 h155 =>
  Meet (G126_111010001006 Q x1 x4 v37 v154 h155)) (Meet (G126_111010001006 Q x1 x4 v37 hole h38))) := by kernel_rfl
theorem G126_111010001002_eq (Q : AEnd → AH → Prop) (x1 x4 x35 x38 : V) (h : AH) : G126_111010001002 Q x1 x4 x35 x38 h = (
  bindV (aPick x35 (V.bool true) x38 h) fun v35 h36 =>
  vcG v35 false (
  bindV (still (aFieldAddr Pg 73 x1 4) h36) fun v156 h157 =>
  bindV (aLoadV Pg h157 71 v156) fun v158 h159 =>
  bindV (aBuiltin Pg h159 .len [71] [v158]) fun v160 h161 =>
  bindV (still (aBin Pg .gtr 3 v160 (V.int .i64 0) true) h161) fun v162 h163 =>
  Meet (G126_111010001004 Q x1 x4 v35 v162 h163)) (Meet (G126_111010001004 Q x1 x4 v35 hole h36))) := by kernel_rfl
theorem J126_111110101010011_eq (Q : AEnd → AH → Prop) (n : Nat) (x1 x6 x7 : V) (h : AH) : J126_111110101010011 Q n x1 x6 x7 h = (
  bindV (still (aBin Pg .add 3 x7 (V.int .i64 1) true) h) fun v200 h201 =>
  Meet (L126_111110101010 Q n x1 x6 v200 h201)) := by kernel_rfl
theorem J126_11111010101001_eq (Q : AEnd → AH → Prop) (n : Nat) (x1 x6 x7 : V) (h : AH) : J126_11111010101001 Q n x1 x6 x7 h = (
  bindV (still (aFieldAddr Pg 73 x1 4) h) fun v190 h191 =>
  bindV (aLoadV Pg h191 71 v190) fun v192 h193 =>
  bindV (still (aIndexAddr Pg 71 v192 x7) h193) fun v194 h195 =>
  bindV (aLoadV Pg h195 4 v194) fun v196 h197 =>
  vcIf v196 (
  bindV (still (aBin Pg .add 9 x6 (V.str [49]) true) h197) fun v198 h199 =>
  Meet (J126_111110101010011 Q n x1 v198 x7 h199)) (
  bindV (still (aBin Pg .add 9 x6 (V.str [48]) true) h197) fun v202 h203 =>
  Meet (J126_111110101010011 Q n x1 v202 x7 h203))) := by kernel_rfl
theorem J126_111110101111_eq (Q : AEnd → AH → Prop) (x2 x3 : V) (h : AH) : J126_111110101111 Q x2 x3 h = (
  Q (.ret (V.tup [x2, x3])) h) := by kernel_rfl
theorem G126_1111101011101002_eq (Q : AEnd → AH → Prop) (x182 x186 x190 : V) (h : AH) : G126_1111101011101002 Q x182 x186 x190 h = (
  bindO (fstV (aPick x186 x190 (V.bool false) h)) fun v217 =>
  Meet (J126_111110101111 Q x182 v217 h)) := by kernel_rfl
theorem J126_11111010111_eq (Q : AEnd → AH → Prop) (x1 x6 : V) (h : AH) : J126_11111010111 Q x1 x6 h = (
  bindO (fstV (still (aFieldAddr Pg 73 x1 1) h)) fun v214 =>
  bindO (fstV (aLoadV Pg h 3 v214)) fun v215 =>
  bindO (fstV (still (aBin Pg .eql 3 v215 (V.int .i64 0) true) h)) fun v216 =>
  vcG v216 true (
  bindO (fstV (still (aFieldAddr Pg 73 x1 4) h)) fun v218 =>
  bindO (fstV (aLoadV Pg h 71 v218)) fun v219 =>
  bindO (fstV (aBuiltin Pg h .len [71] [v219])) fun v220 =>
  bindO (fstV (still (aBin Pg .leq 3 v220 (V.int .i64 2000) true) h)) fun v221 =>
  Meet (G126_1111101011101002 Q x6 v216 v221 h)) (Meet (G126_1111101011101002 Q x6 v216 hole h))) := by kernel_rfl
theorem J126_1111101011_eq (Q : AEnd → AH → Prop) (x1 x6 : V) (h : AH) : J126_1111101011 Q x1 x6 h = (
  bindV (still (aFieldAddr Pg 73 x1 4) h) fun v204 h205 =>
  bindV (aLoadV Pg h205 71 v204) fun v206 h207 =>
  bindV (aBuiltin Pg h207 .len [71] [v206]) fun v208 h209 =>
  bindV (still (aBin Pg .eql 3 v208 (V.int .i64 0) true) h209) fun v210 h211 =>
  vcIf v210 (
  bindV (still (aBin Pg .add 9 x6 (V.str [45]) true) h211) fun v212 h213 =>
  Meet (J126_11111010111 Q x1 v212 h213)) (
  Meet (J126_11111010111 Q x1 x6 h211))) := by kernel_rfl
theorem L126_111110101010_eq (Q : AEnd → AH → Prop) (n : Nat) (x1 x6 x7 : V) (h : AH) : L126_111110101010 Q (n + 1) x1 x6 x7 h = (
  bindV (still (aFieldAddr Pg 73 x1 4) h) fun v182 h183 =>
  bindV (aLoadV Pg h183 71 v182) fun v184 h185 =>
  bindV (aBuiltin Pg h185 .len [71] [v184]) fun v186 h187 =>
  bindV (still (aBin Pg .lss 3 x7 v186 false) h187) fun v188 h189 =>
  vcIf v188 (
  Meet (J126_11111010101001 Q n x1 x6 x7 h189)) (
  Meet (J126_1111101011 Q x1 x6 h189))) := by kernel_rfl
theorem J126_11111111_eq (Q : AEnd → AH → Prop) (x1 x8 : V) (h : AH) : J126_11111111 Q x1 x8 h = (
  bindO (fstV (still (aFieldAddr Pg 73 x1 1) h)) fun v228 =>
  bindO (fstV (aLoadV Pg h 3 v228)) fun v229 =>
  bindO (fstV (still (aConv Pg h 3 49 v229) h)) fun v230 =>
  ∃ v231, ACalls Pg 119 [v230] h (pureE v231 h) ∧ (
  bindO (fstV (still (aBin Pg .add 9 x8 v231 false) h)) fun v232 =>
  bindO (fstV (still (aFieldAddr Pg 73 x1 4) h)) fun v233 =>
  bindO (fstV (aLoadV Pg h 71 v233)) fun v234 =>
  bindO (fstV (aBuiltin Pg h .len [71] [v234])) fun v235 =>
  bindO (fstV (still (aBin Pg .eql 3 v235 (V.int .i64 0) true) h)) fun v236 =>
  Q (.ret (V.tup [v232, v236])) h)) := by kernel_rfl
theorem J126_111111_eq (Q : AEnd → AH → Prop) (x1 : V) (h : AH) : J126_111111 Q x1 h = (
  bindV (still (aFieldAddr Pg 73 x1 0) h) fun v222 h223 =>
  bindV (aLoadV Pg h223 5 v222) fun v224 h225 =>
  bindV (still (aBin Pg .eql 5 v224 (V.int .u8 1) true) h225) fun v226 h227 =>
  vcIf v226 (
  Meet (J126_11111111 Q x1 (V.str [115, 116, 101, 112, 32]) h227)) (
  bindV (still (aBin Pg .eql 5 v224 (V.int .u8 2) true) h227) fun v237 h238 =>
  vcIf v237 (
  Meet (J126_11111111 Q x1 (V.str [114, 111, 117, 110, 100, 32]) h238)) (
  bindV (still (aBin Pg .eql 5 v224 (V.int .u8 3) true) h238) fun v239 h240 =>
  vcIf v239 (
  Meet (J126_11111111 Q x1 (V.str [102, 117, 115, 101, 32]) h240)) (
  bindV (still (aBin Pg .eql 5 v224 (V.int .u8 4) true) h240) fun v241 h242 =>
  vcIf v241 (
  Meet (J126_11111111 Q x1 (V.str [102, 97, 105, 108, 32]) h242)) (
  bindV (still (aBin Pg .eql 5 v224 (V.int .u8 6) true) h242) fun v243 h244 =>
  vcIf v243 (
  Meet (J126_11111111 Q x1 (V.str [111, 112, 101, 110, 32]) h244)) (
  Meet (J126_11111111 Q x1 (V.str []) h244))))))) := by kernel_rfl
theorem J126_11111_eq (Q : AEnd → AH → Prop) (x1 : V) (h : AH) : J126_11111 Q x1 h = (
  bindV (still (aFieldAddr Pg 73 x1 0) h) fun v176 h177 =>
  bindV (aLoadV Pg h177 5 v176) fun v178 h179 =>
  bindV (still (aBin Pg .eql 5 v178 (V.int .u8 5) true) h179) fun v180 h181 =>
  vcIf v180 (
  ∃ n, Meet (L126_111110101010 Q n x1 (V.str [99, 114, 97, 115, 104, 32]) (V.int .i64 0) h181)) (
  Meet (J126_111111 Q x1 h181))) := by kernel_rfl
theorem J126_1111_eq (Q : AEnd → AH → Prop) (x1 x4 : V) (h : AH) : J126_1111 Q x1 x4 h = (
  bindV (aLoadV Pg h 57 x4) fun v170 h171 =>
  bindV (still (aBuild Pg 57 []) h171) fun v172 h173 =>
  bindV (still (aBin Pg .neq 57 v170 v172 false) h173) fun v174 h175 =>
  vcIf v174 (
  Q (.ret (V.tup [(V.str []), (V.bool false)])) h175) (
  Meet (J126_11111 Q x1 h175))) := by kernel_rfl
theorem J126_11_eq (Q : AEnd → AH → Prop) (x1 : V) (h : AH) : J126_11 Q x1 h = (
  bindV (still (aFieldAddr Pg 73 x1 3) h) fun v15 h16 =>
  bindV (aLoadV Pg h16 57 v15) fun v17 h18 =>
  bindV (aAlloc Pg h18 57) fun v19 h20 =>
  bindV (aStoreV Pg h20 57 v19 v17) fun _ h22 =>
  bindV (still (aFieldAddr Pg 73 x1 0) h22) fun v23 h24 =>
  bindV (aLoadV Pg h24 5 v23) fun v25 h26 =>
  bindV (still (aBin Pg .eql 5 v25 (V.int .u8 0) true) h26) fun v27 h28 =>
  vcIf v27 (
  bindV (still (aFieldAddr Pg 73 x1 1) h28) fun v29 h30 =>
  bindV (aLoadV Pg h30 3 v29) fun v31 h32 =>
  bindV (still (aBin Pg .gtr 3 v31 (V.int .i64 9) true) h32) fun v33 h34 =>
  vcG v33 false (
  bindV (still (aFieldAddr Pg 57 v19 0) h34) fun v164 h165 =>
  bindV (aLoadV Pg h165 5 v164) fun v166 h167 =>
  bindV (still (aBin Pg .gtr 5 v166 (V.int .u8 7) true) h167) fun v168 h169 =>
  Meet (G126_111010001002 Q x1 v19 v33 v168 h169)) (Meet (G126_111010001002 Q x1 v19 v33 hole h34))) (
  Meet (J126_1111 Q x1 v19 h28))) := by kernel_rfl
theorem J126_101_eq (Q : AEnd → AH → Prop) (x1 x26 : V) (h : AH) : J126_101 Q x1 x26 h = (
  vcIf x26 (
  Q (.ret (V.tup [(V.str []), (V.bool false)])) h) (
  Meet (J126_11 Q x1 h))) := by kernel_rfl
theorem G126_1001006_eq (Q : AEnd → AH → Prop) (x1 x22 x25 : V) (h : AH) : G126_1001006 Q x1 x22 x25 h = (
  bindV (aPick x22 (V.bool true) x25 h) fun v13 h14 =>
  Meet (J126_101 Q x1 v13 h14)) := by kernel_rfl
theorem G126_1001004_eq (Q : AEnd → AH → Prop) (x1 x17 x20 : V) (h : AH) : G126_1001004 Q x1 x17 x20 h = (
  bindV (aPick x17 (V.bool true) x20 h) fun v11 h12 =>
  vcG v11 false (
  bindV (still (aFieldAddr Pg 73 x1 2) h12) fun v245 h246 =>
  bindV (aLoadV Pg h246 3 v245) fun v247 h248 =>
  bindV (still (aBin Pg .neq 3 v247 (V.int .i64 0) true) h248) fun v249 h250 =>
  Meet (G126_1001006 Q x1 v11 v249 h250)) (Meet (G126_1001006 Q x1 v11 hole h12))) := by kernel_rfl
theorem G126_1001002_eq (Q : AEnd → AH → Prop) (x1 x12 x15 : V) (h : AH) : G126_1001002 Q x1 x12 x15 h = (
  bindV (aPick x12 (V.bool true) x15 h) fun v9 h10 =>
  vcG v9 false (
  bindV (still (aFieldAddr Pg 73 x1 1) h10) fun v251 h252 =>
  bindV (aLoadV Pg h252 3 v251) fun v253 h254 =>
  bindV (still (aBin Pg .gtr 3 v253 (V.int .i64 2147483647) true) h254) fun v255 h256 =>
  Meet (G126_1001004 Q x1 v9 v255 h256)) (Meet (G126_1001004 Q x1 v9 hole h10))) := by kernel_rfl
theorem S126 (Q : AEnd → AH → Prop) (a0 : V) (h : AH) : vc Pg N126 B126 K126 (vcRet Pg R126 Q) (initEnv 0 [a0]) h = (
  bindV (aNew Pg h 73 a0) fun v1 h2 =>
  bindV (still (aFieldAddr Pg 73 v1 0) h2) fun v3 h4 =>
  bindV (aLoadV Pg h4 5 v3) fun v5 h6 =>
  bindV (still (aBin Pg .gtr 5 v5 (V.int .u8 6) true) h6) fun v7 h8 =>
  vcG v7 false (
  bindV (still (aFieldAddr Pg 73 v1 1) h8) fun v257 h258 =>
  bindV (aLoadV Pg h258 3 v257) fun v259 h260 =>
  bindV (still (aBin Pg .lss 3 v259 (V.int .i64 0) true) h260) fun v261 h262 =>
  Meet (G126_1001002 Q v1 v7 v261 h262)) (Meet (G126_1001002 Q v1 v7 hole h8))) := by kernel_rfl
theorem C126 (Q : AEnd → AH → Prop) (a0 : V) (h : AH) (c :
  bindV (aNew Pg h 73 a0) fun v1 h2 =>
  bindV (still (aFieldAddr Pg 73 v1 0) h2) fun v3 h4 =>
  bindV (aLoadV Pg h4 5 v3) fun v5 h6 =>
  bindV (still (aBin Pg .gtr 5 v5 (V.int .u8 6) true) h6) fun v7 h8 =>
  vcG v7 false (
  bindV (still (aFieldAddr Pg 73 v1 1) h8) fun v257 h258 =>
  bindV (aLoadV Pg h258 3 v257) fun v259 h260 =>
  bindV (still (aBin Pg .lss 3 v259 (V.int .i64 0) true) h260) fun v261 h262 =>
  Meet (G126_1001002 Q v1 v7 v261 h262)) (Meet (G126_1001002 Q v1 v7 hole h8))) : ACalls Pg 126 [a0] h Q :=
  acalls_of_vc okP Tryz.func126 (show Tryz.f126.body = some B126 from by kernel_rfl) K126 (by rw [← S126 Q a0 h] at c; exact c)
end Go.Proofs.YtcglbpjpbjaecaaGreat.Sh
namespace Go.Proofs.YtcglbpjpbjaecaaGreat.Sh
open Go Go.Ab Go.RowKit
open Go.Proofs.YtcglbpjpbjaecaaGreat.Ru (Pg okP)
set_option maxRecDepth 10000
def Ev.pre (e : Ev) : Prop :=
  e.kind < 7 ∧ 0 ≤ e.a ∧ e.a < 2147483648 ∧ e.b = 0 ∧
  (e.kind ≠ 0 → e.ck = 0 ∧ e.txn = 0 ∧ e.page = 0 ∧ e.off = 0 ∧ e.s.length = 0) ∧
  (e.kind = 0 → e.a < 10 ∧ e.ck < 8 ∧ e.keep.length = 0 ∧ e.txn < 2147483648 ∧ 0 ≤ e.off ∧ e.off < 2147483648 ∧ e.s.length ≤ 64)
instance (e : Ev) : Decidable e.pre := by unfold Ev.pre; infer_instance
theorem fine_pre {e : Ev} (h : e.fine) : e.pre := by unfold Ev.fine at h; unfold Ev.pre; omega
def Ev.lineR (e : Ev) : V := .tup [.str (if e.pre then e.txt else []), .bool (decide e.fine)]
theorem lineR_mk {e : Ev} {t : List UInt8} {b : Bool} (hp : e.pre) (ht : t = e.txt) (hb : b = decide e.fine) : V.tup [.str t, .bool b] = e.lineR := by rw [Ev.lineR, if_pos hp, ht, hb]
theorem lineR_no {e : Ev} (hp : ¬ e.pre) : V.tup [.str [], .bool false] = e.lineR := by rw [Ev.lineR, if_neg hp, decide_eq_false fun h => hp (fine_pre h)]
theorem eqd (x y : Int) : (x == y) = decide (x = y) := by by_cases h : x = y <;> simp [h]
theorem eqs (s : List UInt8) : (s == []) = decide (s.length = 0) := by cases s <;> simp
theorem NameN (n : Nat) (h : AH) : ACalls Pg 120 [.int .u8 n] h (pureE (.str (nameOf n)) h) := NameP n (by omega) h
theorem NumN (n : Nat) (hn : n < 18446744073709551616) (h : AH) : ACalls Pg 119 [.int .u64 n] h (pureE (.str (dec n)) h) := NumP n (by omega) (by omega) h
def cK (e : Ev) : V := .agg [.int .u8 e.ck, .int .u64 0, .int .u16 0, .int .i64 0, .str []]
theorem eq57k (e : Ev) (c : Bool) : aBin Pg .eql 57 (cV e) (cK e) c = some (.bool (decide (e.txn = 0 ∧ e.page = 0 ∧ e.off = 0 ∧ e.s.length = 0))) := by
  have h1 : aBin Pg .eql 57 (cV e) (cK e) c = if eqOk Pg 57 (cV e) (cK e) c = true then (aEq Pg 57 (cV e) (cK e)).map .bool else none := rfl
  have h2 : eqOk Pg 57 (cV e) (cK e) c = true := by kernel_rfl
  have h3 : plainT Pg 20 57 = true := by kernel_rfl
  rw [h1, h2, if_pos rfl]
  unfold aEq
  have hz : hasShape Pg (cK e) 57 = true := by kernel_rfl
  rw [h3, if_pos rfl, s57 e, hz]
  simp only [Bool.and_self, if_true]
  have : beqV (cV e) (cK e) = some (decide (e.txn = 0 ∧ e.page = 0 ∧ e.off = 0 ∧ e.s.length = 0)) := by
    obtain ⟨kind, a, b, ck, txn, page, off, s, keep⟩ := e
    simp only [cV, cK, beqV, beqVs, if_true]
    clear h1 h2 h3 hz
    simp only [eqd]
    by_cases k2 : txn = 0 <;> by_cases k3 : page = 0 <;> by_cases k4 : off = 0 <;> cases s <;> simp [k2, k3, k4]
  rw [this]; rfl
theorem build57k (e : Ev) : aBuild Pg 57 [(0, .int .u8 e.ck)] = some (cK e) := by kernel_rfl
section
variable (e : Ev) (ok : e.ok) {v : V} {h0 : AH} {n1 n6 n8 : Nat} {h : AH} {k : V}
include ok
theorem Rask (hA : e.kind = 0 ∧ 0 ≤ e.a ∧ e.a < 10 ∧ e.b = 0 ∧ e.keep.length = 0 ∧ e.ck < 8 ∧ e.txn < 2147483648 ∧ 0 ≤ e.off ∧ e.off < 2147483648 ∧ e.s.length ≤ 64) (hv : e.lineR = v) (hn : h0.next ≤ h.next) (fr : ∀ n, n < h0.next → h.m n = h0.m n) (hm1 : h.m n1 = some (.cells true (.one 73) (evV e k))) (hn1 : n1 < h.next ∧ h0.next ≤ n1) (hm6 : h.m n6 = some (.cells true (.one 57) (cV e))) (hn6 : n6 < h.next ∧ h0.next ≤ n6) : J126_1110101 (Ends v h0) (.ptr (some ⟨n1, .one 73, []⟩)) (.ptr (some ⟨n6, .one 57, []⟩)) h := by
  have k1 := ok.kind; have k2 := ok.a; have k3 := ok.b; have k4 := ok.ck; have k5 := ok.txn; have k6 := ok.page; have k7 := ok.off; have k8 := ok.s; have k9 := ok.keep
  rw [J126_1110101_eq]
  refine bindSO_mk (fa_mk (by kernel_rfl)) ?_
  refine bindVO_mk (ld_mk hm1 (by kernel_rfl) rfl) ?_
  refine bindSO_mk (cv_wr (d := 49) (k := .u64) (by kernel_rfl) (wr_u64 (by omega) (by omega))) ?_
  refine ⟨_, NumP _ (by omega) (by omega) _, ?_⟩
  refine bindSO_mk (t_add (by have l1 := name_len e.ck; have l2 := dec_len20 (n := e.a.toNat) (by omega); have l3 := dec_len20 (n := e.txn) (by omega); have l4 := dec_len20 (n := e.page) (by omega); have l5 := dec_len20 (n := e.off.toNat) (by omega); have l6 := hexS_len e.s; simp only [List.length_append, List.length_cons, List.length_nil]; omega)) ?_
  refine bindSO_mk (t_add (by have l1 := name_len e.ck; have l2 := dec_len20 (n := e.a.toNat) (by omega); have l3 := dec_len20 (n := e.txn) (by omega); have l4 := dec_len20 (n := e.page) (by omega); have l5 := dec_len20 (n := e.off.toNat) (by omega); have l6 := hexS_len e.s; simp only [List.length_append, List.length_cons, List.length_nil]; omega)) ?_
  refine bindSO_mk (fa_mk (by kernel_rfl)) ?_
  refine bindVO_mk (ld_mk hm6 (by kernel_rfl) rfl) ?_
  refine ⟨_, NameN _ _, ?_⟩
  refine bindSO_mk (t_add (by have l1 := name_len e.ck; have l2 := dec_len20 (n := e.a.toNat) (by omega); have l3 := dec_len20 (n := e.txn) (by omega); have l4 := dec_len20 (n := e.page) (by omega); have l5 := dec_len20 (n := e.off.toNat) (by omega); have l6 := hexS_len e.s; simp only [List.length_append, List.length_cons, List.length_nil]; omega)) ?_
  refine bindS_mk (fa_mk (by kernel_rfl)) ?_
  refine bindV_mk (ld_mk hm6 (by kernel_rfl) rfl) ?_
  refine bindS_mk (b_eql) ?_
  refine i_split (fun c1 => ?_) (fun c1 => ?_)
  · try rw [c1]
    replace c1 := eq_of_beq c1
    refine bindSO_mk (t_add (by have l1 := name_len e.ck; have l2 := dec_len20 (n := e.a.toNat) (by omega); have l3 := dec_len20 (n := e.txn) (by omega); have l4 := dec_len20 (n := e.page) (by omega); have l5 := dec_len20 (n := e.off.toNat) (by omega); have l6 := hexS_len e.s; simp only [List.length_append, List.length_cons, List.length_nil]; omega)) ?_
    refine bindSO_mk (fa_mk (by kernel_rfl)) ?_
    refine bindVO_mk (ld_mk hm6 (by kernel_rfl) rfl) ?_
    refine ⟨_, NumN _ (by omega) _, ?_⟩
    refine bindSO_mk (t_add (by have l1 := name_len e.ck; have l2 := dec_len20 (n := e.a.toNat) (by omega); have l3 := dec_len20 (n := e.txn) (by omega); have l4 := dec_len20 (n := e.page) (by omega); have l5 := dec_len20 (n := e.off.toNat) (by omega); have l6 := hexS_len e.s; simp only [List.length_append, List.length_cons, List.length_nil]; omega)) ?_
    refine bindSO_mk (t_add (by have l1 := name_len e.ck; have l2 := dec_len20 (n := e.a.toNat) (by omega); have l3 := dec_len20 (n := e.txn) (by omega); have l4 := dec_len20 (n := e.page) (by omega); have l5 := dec_len20 (n := e.off.toNat) (by omega); have l6 := hexS_len e.s; simp only [List.length_append, List.length_cons, List.length_nil]; omega)) ?_
    refine bindSO_mk (fa_mk (by kernel_rfl)) ?_
    refine bindVO_mk (ld_mk hm6 (by kernel_rfl) rfl) ?_
    refine bindSO_mk (cv_wr (d := 49) (k := .u64) (by kernel_rfl) (wr_u64 (by omega) (by omega))) ?_
    refine ⟨_, NumN _ (by omega) _, ?_⟩
    refine bindSO_mk (t_add (by have l1 := name_len e.ck; have l2 := dec_len20 (n := e.a.toNat) (by omega); have l3 := dec_len20 (n := e.txn) (by omega); have l4 := dec_len20 (n := e.page) (by omega); have l5 := dec_len20 (n := e.off.toNat) (by omega); have l6 := hexS_len e.s; simp only [List.length_append, List.length_cons, List.length_nil]; omega)) ?_
    refine bindSO_mk (t_add (by have l1 := name_len e.ck; have l2 := dec_len20 (n := e.a.toNat) (by omega); have l3 := dec_len20 (n := e.txn) (by omega); have l4 := dec_len20 (n := e.page) (by omega); have l5 := dec_len20 (n := e.off.toNat) (by omega); have l6 := hexS_len e.s; simp only [List.length_append, List.length_cons, List.length_nil]; omega)) ?_
    refine bindSO_mk (fa_mk (by kernel_rfl)) ?_
    refine bindVO_mk (ld_mk hm6 (by kernel_rfl) rfl) ?_
    refine bindSO_mk (cv_wr (d := 49) (k := .u64) (by kernel_rfl) (wr_u64 (by omega) (by omega))) ?_
    refine ⟨_, NumP _ (by omega) (by omega) _, ?_⟩
    refine bindSO_mk (t_add (by have l1 := name_len e.ck; have l2 := dec_len20 (n := e.a.toNat) (by omega); have l3 := dec_len20 (n := e.txn) (by omega); have l4 := dec_len20 (n := e.page) (by omega); have l5 := dec_len20 (n := e.off.toNat) (by omega); have l6 := hexS_len e.s; simp only [List.length_append, List.length_cons, List.length_nil]; omega)) ?_
    refine bindSO_mk (t_add (by have l1 := name_len e.ck; have l2 := dec_len20 (n := e.a.toNat) (by omega); have l3 := dec_len20 (n := e.txn) (by omega); have l4 := dec_len20 (n := e.page) (by omega); have l5 := dec_len20 (n := e.off.toNat) (by omega); have l6 := hexS_len e.s; simp only [List.length_append, List.length_cons, List.length_nil]; omega)) ?_
    refine bindSO_mk (fa_mk (by kernel_rfl)) ?_
    refine bindVO_mk (ld_mk hm6 (by kernel_rfl) rfl) ?_
    refine ⟨_, HexP _ (by omega) _, ?_⟩
    refine bindSO_mk (t_add (by have l1 := name_len e.ck; have l2 := dec_len20 (n := e.a.toNat) (by omega); have l3 := dec_len20 (n := e.txn) (by omega); have l4 := dec_len20 (n := e.page) (by omega); have l5 := dec_len20 (n := e.off.toNat) (by omega); have l6 := hexS_len e.s; simp only [List.length_append, List.length_cons, List.length_nil]; omega)) ?_
    refine ⟨congrArg AEnd.ret ((lineR_mk (e := e) (by unfold Ev.pre; omega) ?_ ?_).trans hv), fr⟩
    · have f0 : e.kind = 0 := by omega
      first
      | simp [Ev.txt, f0, (show fTxn e.ck = true from decide_eq_true (by omega)), (show fPage e.ck = true from decide_eq_true (by omega)), (show fOff e.ck = true from decide_eq_true (by omega))]
      | simp [Ev.txt, f0, (show fTxn e.ck = true from decide_eq_true (by omega)), (show fPage e.ck = true from decide_eq_true (by omega)), (show fOff e.ck = false from decide_eq_false (by omega))]
      | simp [Ev.txt, f0, (show fTxn e.ck = true from decide_eq_true (by omega)), (show fPage e.ck = false from decide_eq_false (by omega)), (show fOff e.ck = false from decide_eq_false (by omega))]
      | simp [Ev.txt, f0, (show fTxn e.ck = false from decide_eq_false (by omega)), (show fPage e.ck = false from decide_eq_false (by omega)), (show fOff e.ck = false from decide_eq_false (by omega))]
    · first | exact (decide_eq_true (by unfold Ev.fine; omega)).symm | exact (decide_eq_false (by unfold Ev.fine; omega)).symm | (rw [eqd]; exact decide_eq_decide.2 (by unfold Ev.fine; omega)) | (rw [eqs]; exact decide_eq_decide.2 (by unfold Ev.fine; omega)) | exact decide_eq_decide.2 (by unfold Ev.fine; omega)
  · try rw [c1]
    replace c1 := ne_of_beq_false c1
    refine bindS_mk (b_eql) ?_
    refine i_split (fun c2 => ?_) (fun c2 => ?_)
    · try rw [c2]
      replace c2 := eq_of_beq c2
      refine bindSO_mk (t_add (by have l1 := name_len e.ck; have l2 := dec_len20 (n := e.a.toNat) (by omega); have l3 := dec_len20 (n := e.txn) (by omega); have l4 := dec_len20 (n := e.page) (by omega); have l5 := dec_len20 (n := e.off.toNat) (by omega); have l6 := hexS_len e.s; simp only [List.length_append, List.length_cons, List.length_nil]; omega)) ?_
      refine bindSO_mk (fa_mk (by kernel_rfl)) ?_
      refine bindVO_mk (ld_mk hm6 (by kernel_rfl) rfl) ?_
      refine ⟨_, NumN _ (by omega) _, ?_⟩
      refine bindSO_mk (t_add (by have l1 := name_len e.ck; have l2 := dec_len20 (n := e.a.toNat) (by omega); have l3 := dec_len20 (n := e.txn) (by omega); have l4 := dec_len20 (n := e.page) (by omega); have l5 := dec_len20 (n := e.off.toNat) (by omega); have l6 := hexS_len e.s; simp only [List.length_append, List.length_cons, List.length_nil]; omega)) ?_
      refine bindSO_mk (t_add (by have l1 := name_len e.ck; have l2 := dec_len20 (n := e.a.toNat) (by omega); have l3 := dec_len20 (n := e.txn) (by omega); have l4 := dec_len20 (n := e.page) (by omega); have l5 := dec_len20 (n := e.off.toNat) (by omega); have l6 := hexS_len e.s; simp only [List.length_append, List.length_cons, List.length_nil]; omega)) ?_
      refine bindSO_mk (fa_mk (by kernel_rfl)) ?_
      refine bindVO_mk (ld_mk hm6 (by kernel_rfl) rfl) ?_
      refine bindSO_mk (cv_wr (d := 49) (k := .u64) (by kernel_rfl) (wr_u64 (by omega) (by omega))) ?_
      refine ⟨_, NumN _ (by omega) _, ?_⟩
      refine bindSO_mk (t_add (by have l1 := name_len e.ck; have l2 := dec_len20 (n := e.a.toNat) (by omega); have l3 := dec_len20 (n := e.txn) (by omega); have l4 := dec_len20 (n := e.page) (by omega); have l5 := dec_len20 (n := e.off.toNat) (by omega); have l6 := hexS_len e.s; simp only [List.length_append, List.length_cons, List.length_nil]; omega)) ?_
      refine bindSO_mk (fa_mk (by kernel_rfl)) ?_
      refine bindVO_mk (ld_mk hm6 (by kernel_rfl) rfl) ?_
      refine bindSO_mk (b_eql) ?_
      refine g_split_t (fun c3 => ?_) (fun c3 => ?_)
      · try rw [c3]
        replace c3 := eq_of_beq c3
        refine bindSO_mk (fa_mk (by kernel_rfl)) ?_
        refine bindVO_mk (ld_mk hm6 (by kernel_rfl) rfl) ?_
        refine bindSO_mk (t_eql) ?_
        refine Meet.of (cast_p (G126_11101011010111001002_eq _ _ _ _ _) ?_)
        refine bindVO_mk p_t ?_
        refine Meet.of (cast_p (J126_1110101101011101_eq _ _ _ _) ?_)
        refine ⟨congrArg AEnd.ret ((lineR_mk (e := e) (by unfold Ev.pre; omega) ?_ ?_).trans hv), fr⟩
        · have f0 : e.kind = 0 := by omega
          first
          | simp [Ev.txt, f0, (show fTxn e.ck = true from decide_eq_true (by omega)), (show fPage e.ck = true from decide_eq_true (by omega)), (show fOff e.ck = true from decide_eq_true (by omega))]
          | simp [Ev.txt, f0, (show fTxn e.ck = true from decide_eq_true (by omega)), (show fPage e.ck = true from decide_eq_true (by omega)), (show fOff e.ck = false from decide_eq_false (by omega))]
          | simp [Ev.txt, f0, (show fTxn e.ck = true from decide_eq_true (by omega)), (show fPage e.ck = false from decide_eq_false (by omega)), (show fOff e.ck = false from decide_eq_false (by omega))]
          | simp [Ev.txt, f0, (show fTxn e.ck = false from decide_eq_false (by omega)), (show fPage e.ck = false from decide_eq_false (by omega)), (show fOff e.ck = false from decide_eq_false (by omega))]
        · first | exact (decide_eq_true (by unfold Ev.fine; omega)).symm | exact (decide_eq_false (by unfold Ev.fine; omega)).symm | (rw [eqd]; exact decide_eq_decide.2 (by unfold Ev.fine; omega)) | (rw [eqs]; exact decide_eq_decide.2 (by unfold Ev.fine; omega)) | exact decide_eq_decide.2 (by unfold Ev.fine; omega)
      · try rw [c3]
        replace c3 := ne_of_beq_false c3
        refine Meet.of (cast_p (G126_11101011010111001002_eq _ _ _ _ _) ?_)
        refine bindVO_mk p_f ?_
        refine Meet.of (cast_p (J126_1110101101011101_eq _ _ _ _) ?_)
        refine ⟨congrArg AEnd.ret ((lineR_mk (e := e) (by unfold Ev.pre; omega) ?_ ?_).trans hv), fr⟩
        · have f0 : e.kind = 0 := by omega
          first
          | simp [Ev.txt, f0, (show fTxn e.ck = true from decide_eq_true (by omega)), (show fPage e.ck = true from decide_eq_true (by omega)), (show fOff e.ck = true from decide_eq_true (by omega))]
          | simp [Ev.txt, f0, (show fTxn e.ck = true from decide_eq_true (by omega)), (show fPage e.ck = true from decide_eq_true (by omega)), (show fOff e.ck = false from decide_eq_false (by omega))]
          | simp [Ev.txt, f0, (show fTxn e.ck = true from decide_eq_true (by omega)), (show fPage e.ck = false from decide_eq_false (by omega)), (show fOff e.ck = false from decide_eq_false (by omega))]
          | simp [Ev.txt, f0, (show fTxn e.ck = false from decide_eq_false (by omega)), (show fPage e.ck = false from decide_eq_false (by omega)), (show fOff e.ck = false from decide_eq_false (by omega))]
        · first | exact (decide_eq_true (by unfold Ev.fine; omega)).symm | exact (decide_eq_false (by unfold Ev.fine; omega)).symm | (rw [eqd]; exact decide_eq_decide.2 (by unfold Ev.fine; omega)) | (rw [eqs]; exact decide_eq_decide.2 (by unfold Ev.fine; omega)) | exact decide_eq_decide.2 (by unfold Ev.fine; omega)
    · try rw [c2]
      replace c2 := ne_of_beq_false c2
      refine bindS_mk (b_eql) ?_
      refine i_split (fun c4 => ?_) (fun c4 => ?_)
      · try rw [c4]
        replace c4 := eq_of_beq c4
        refine Meet.of (cast_p (J126_1110101101011111_eq _ _ _ _ _) ?_)
        refine i_t ?_
        refine bindSO_mk (t_add (by have l1 := name_len e.ck; have l2 := dec_len20 (n := e.a.toNat) (by omega); have l3 := dec_len20 (n := e.txn) (by omega); have l4 := dec_len20 (n := e.page) (by omega); have l5 := dec_len20 (n := e.off.toNat) (by omega); have l6 := hexS_len e.s; simp only [List.length_append, List.length_cons, List.length_nil]; omega)) ?_
        refine bindSO_mk (fa_mk (by kernel_rfl)) ?_
        refine bindVO_mk (ld_mk hm6 (by kernel_rfl) rfl) ?_
        refine ⟨_, NumN _ (by omega) _, ?_⟩
        refine bindSO_mk (t_add (by have l1 := name_len e.ck; have l2 := dec_len20 (n := e.a.toNat) (by omega); have l3 := dec_len20 (n := e.txn) (by omega); have l4 := dec_len20 (n := e.page) (by omega); have l5 := dec_len20 (n := e.off.toNat) (by omega); have l6 := hexS_len e.s; simp only [List.length_append, List.length_cons, List.length_nil]; omega)) ?_
        refine bindSO_mk (fa_mk (by kernel_rfl)) ?_
        refine bindVO_mk (ld_mk hm6 (by kernel_rfl) rfl) ?_
        refine bindSO_mk (b_eql) ?_
        refine g_split_t (fun c5 => ?_) (fun c5 => ?_)
        · try rw [c5]
          replace c5 := eq_of_beq c5
          refine bindSO_mk (fa_mk (by kernel_rfl)) ?_
          refine bindVO_mk (ld_mk hm6 (by kernel_rfl) rfl) ?_
          refine bindSO_mk (b_eql) ?_
          refine Meet.of (cast_p (G126_1110101101011111001002_eq _ _ _ _ _ _) ?_)
          refine bindVO_mk p_t ?_
          refine g_split_t (fun c6 => ?_) (fun c6 => ?_)
          · try rw [c6]
            replace c6 := eq_of_beq c6
            refine bindSO_mk (fa_mk (by kernel_rfl)) ?_
            refine bindVO_mk (ld_mk hm6 (by kernel_rfl) rfl) ?_
            refine bindSO_mk (t_eql) ?_
            refine Meet.of (cast_p (G126_1110101101011111001004_eq _ _ _ _ _) ?_)
            refine bindVO_mk p_t ?_
            refine Meet.of (cast_p (J126_111010110101111101_eq _ _ _ _) ?_)
            refine ⟨congrArg AEnd.ret ((lineR_mk (e := e) (by unfold Ev.pre; omega) ?_ ?_).trans hv), fr⟩
            · have f0 : e.kind = 0 := by omega
              first
              | simp [Ev.txt, f0, (show fTxn e.ck = true from decide_eq_true (by omega)), (show fPage e.ck = true from decide_eq_true (by omega)), (show fOff e.ck = true from decide_eq_true (by omega))]
              | simp [Ev.txt, f0, (show fTxn e.ck = true from decide_eq_true (by omega)), (show fPage e.ck = true from decide_eq_true (by omega)), (show fOff e.ck = false from decide_eq_false (by omega))]
              | simp [Ev.txt, f0, (show fTxn e.ck = true from decide_eq_true (by omega)), (show fPage e.ck = false from decide_eq_false (by omega)), (show fOff e.ck = false from decide_eq_false (by omega))]
              | simp [Ev.txt, f0, (show fTxn e.ck = false from decide_eq_false (by omega)), (show fPage e.ck = false from decide_eq_false (by omega)), (show fOff e.ck = false from decide_eq_false (by omega))]
            · first | exact (decide_eq_true (by unfold Ev.fine; omega)).symm | exact (decide_eq_false (by unfold Ev.fine; omega)).symm | (rw [eqd]; exact decide_eq_decide.2 (by unfold Ev.fine; omega)) | (rw [eqs]; exact decide_eq_decide.2 (by unfold Ev.fine; omega)) | exact decide_eq_decide.2 (by unfold Ev.fine; omega)
          · try rw [c6]
            replace c6 := ne_of_beq_false c6
            refine Meet.of (cast_p (G126_1110101101011111001004_eq _ _ _ _ _) ?_)
            refine bindVO_mk p_f ?_
            refine Meet.of (cast_p (J126_111010110101111101_eq _ _ _ _) ?_)
            refine ⟨congrArg AEnd.ret ((lineR_mk (e := e) (by unfold Ev.pre; omega) ?_ ?_).trans hv), fr⟩
            · have f0 : e.kind = 0 := by omega
              first
              | simp [Ev.txt, f0, (show fTxn e.ck = true from decide_eq_true (by omega)), (show fPage e.ck = true from decide_eq_true (by omega)), (show fOff e.ck = true from decide_eq_true (by omega))]
              | simp [Ev.txt, f0, (show fTxn e.ck = true from decide_eq_true (by omega)), (show fPage e.ck = true from decide_eq_true (by omega)), (show fOff e.ck = false from decide_eq_false (by omega))]
              | simp [Ev.txt, f0, (show fTxn e.ck = true from decide_eq_true (by omega)), (show fPage e.ck = false from decide_eq_false (by omega)), (show fOff e.ck = false from decide_eq_false (by omega))]
              | simp [Ev.txt, f0, (show fTxn e.ck = false from decide_eq_false (by omega)), (show fPage e.ck = false from decide_eq_false (by omega)), (show fOff e.ck = false from decide_eq_false (by omega))]
            · first | exact (decide_eq_true (by unfold Ev.fine; omega)).symm | exact (decide_eq_false (by unfold Ev.fine; omega)).symm | (rw [eqd]; exact decide_eq_decide.2 (by unfold Ev.fine; omega)) | (rw [eqs]; exact decide_eq_decide.2 (by unfold Ev.fine; omega)) | exact decide_eq_decide.2 (by unfold Ev.fine; omega)
        · try rw [c5]
          replace c5 := ne_of_beq_false c5
          refine Meet.of (cast_p (G126_1110101101011111001002_eq _ _ _ _ _ _) ?_)
          refine bindVO_mk p_f ?_
          refine g_ft ?_
          refine Meet.of (cast_p (G126_1110101101011111001004_eq _ _ _ _ _) ?_)
          refine bindVO_mk p_f ?_
          refine Meet.of (cast_p (J126_111010110101111101_eq _ _ _ _) ?_)
          refine ⟨congrArg AEnd.ret ((lineR_mk (e := e) (by unfold Ev.pre; omega) ?_ ?_).trans hv), fr⟩
          · have f0 : e.kind = 0 := by omega
            first
            | simp [Ev.txt, f0, (show fTxn e.ck = true from decide_eq_true (by omega)), (show fPage e.ck = true from decide_eq_true (by omega)), (show fOff e.ck = true from decide_eq_true (by omega))]
            | simp [Ev.txt, f0, (show fTxn e.ck = true from decide_eq_true (by omega)), (show fPage e.ck = true from decide_eq_true (by omega)), (show fOff e.ck = false from decide_eq_false (by omega))]
            | simp [Ev.txt, f0, (show fTxn e.ck = true from decide_eq_true (by omega)), (show fPage e.ck = false from decide_eq_false (by omega)), (show fOff e.ck = false from decide_eq_false (by omega))]
            | simp [Ev.txt, f0, (show fTxn e.ck = false from decide_eq_false (by omega)), (show fPage e.ck = false from decide_eq_false (by omega)), (show fOff e.ck = false from decide_eq_false (by omega))]
          · first | exact (decide_eq_true (by unfold Ev.fine; omega)).symm | exact (decide_eq_false (by unfold Ev.fine; omega)).symm | (rw [eqd]; exact decide_eq_decide.2 (by unfold Ev.fine; omega)) | (rw [eqs]; exact decide_eq_decide.2 (by unfold Ev.fine; omega)) | exact decide_eq_decide.2 (by unfold Ev.fine; omega)
      · try rw [c4]
        replace c4 := ne_of_beq_false c4
        refine bindS_mk (b_eql) ?_
        refine Meet.of (cast_p (J126_1110101101011111_eq _ _ _ _ _) ?_)
        refine i_split (fun c7 => ?_) (fun c7 => ?_)
        · try rw [c7]
          replace c7 := eq_of_beq c7
          refine bindSO_mk (t_add (by have l1 := name_len e.ck; have l2 := dec_len20 (n := e.a.toNat) (by omega); have l3 := dec_len20 (n := e.txn) (by omega); have l4 := dec_len20 (n := e.page) (by omega); have l5 := dec_len20 (n := e.off.toNat) (by omega); have l6 := hexS_len e.s; simp only [List.length_append, List.length_cons, List.length_nil]; omega)) ?_
          refine bindSO_mk (fa_mk (by kernel_rfl)) ?_
          refine bindVO_mk (ld_mk hm6 (by kernel_rfl) rfl) ?_
          refine ⟨_, NumN _ (by omega) _, ?_⟩
          refine bindSO_mk (t_add (by have l1 := name_len e.ck; have l2 := dec_len20 (n := e.a.toNat) (by omega); have l3 := dec_len20 (n := e.txn) (by omega); have l4 := dec_len20 (n := e.page) (by omega); have l5 := dec_len20 (n := e.off.toNat) (by omega); have l6 := hexS_len e.s; simp only [List.length_append, List.length_cons, List.length_nil]; omega)) ?_
          refine bindSO_mk (fa_mk (by kernel_rfl)) ?_
          refine bindVO_mk (ld_mk hm6 (by kernel_rfl) rfl) ?_
          refine bindSO_mk (b_eql) ?_
          refine g_split_t (fun c8 => ?_) (fun c8 => ?_)
          · try rw [c8]
            replace c8 := eq_of_beq c8
            refine bindSO_mk (fa_mk (by kernel_rfl)) ?_
            refine bindVO_mk (ld_mk hm6 (by kernel_rfl) rfl) ?_
            refine bindSO_mk (b_eql) ?_
            refine Meet.of (cast_p (G126_1110101101011111001002_eq _ _ _ _ _ _) ?_)
            refine bindVO_mk p_t ?_
            refine g_split_t (fun c9 => ?_) (fun c9 => ?_)
            · try rw [c9]
              replace c9 := eq_of_beq c9
              refine bindSO_mk (fa_mk (by kernel_rfl)) ?_
              refine bindVO_mk (ld_mk hm6 (by kernel_rfl) rfl) ?_
              refine bindSO_mk (t_eql) ?_
              refine Meet.of (cast_p (G126_1110101101011111001004_eq _ _ _ _ _) ?_)
              refine bindVO_mk p_t ?_
              refine Meet.of (cast_p (J126_111010110101111101_eq _ _ _ _) ?_)
              refine ⟨congrArg AEnd.ret ((lineR_mk (e := e) (by unfold Ev.pre; omega) ?_ ?_).trans hv), fr⟩
              · have f0 : e.kind = 0 := by omega
                first
                | simp [Ev.txt, f0, (show fTxn e.ck = true from decide_eq_true (by omega)), (show fPage e.ck = true from decide_eq_true (by omega)), (show fOff e.ck = true from decide_eq_true (by omega))]
                | simp [Ev.txt, f0, (show fTxn e.ck = true from decide_eq_true (by omega)), (show fPage e.ck = true from decide_eq_true (by omega)), (show fOff e.ck = false from decide_eq_false (by omega))]
                | simp [Ev.txt, f0, (show fTxn e.ck = true from decide_eq_true (by omega)), (show fPage e.ck = false from decide_eq_false (by omega)), (show fOff e.ck = false from decide_eq_false (by omega))]
                | simp [Ev.txt, f0, (show fTxn e.ck = false from decide_eq_false (by omega)), (show fPage e.ck = false from decide_eq_false (by omega)), (show fOff e.ck = false from decide_eq_false (by omega))]
              · first | exact (decide_eq_true (by unfold Ev.fine; omega)).symm | exact (decide_eq_false (by unfold Ev.fine; omega)).symm | (rw [eqd]; exact decide_eq_decide.2 (by unfold Ev.fine; omega)) | (rw [eqs]; exact decide_eq_decide.2 (by unfold Ev.fine; omega)) | exact decide_eq_decide.2 (by unfold Ev.fine; omega)
            · try rw [c9]
              replace c9 := ne_of_beq_false c9
              refine Meet.of (cast_p (G126_1110101101011111001004_eq _ _ _ _ _) ?_)
              refine bindVO_mk p_f ?_
              refine Meet.of (cast_p (J126_111010110101111101_eq _ _ _ _) ?_)
              refine ⟨congrArg AEnd.ret ((lineR_mk (e := e) (by unfold Ev.pre; omega) ?_ ?_).trans hv), fr⟩
              · have f0 : e.kind = 0 := by omega
                first
                | simp [Ev.txt, f0, (show fTxn e.ck = true from decide_eq_true (by omega)), (show fPage e.ck = true from decide_eq_true (by omega)), (show fOff e.ck = true from decide_eq_true (by omega))]
                | simp [Ev.txt, f0, (show fTxn e.ck = true from decide_eq_true (by omega)), (show fPage e.ck = true from decide_eq_true (by omega)), (show fOff e.ck = false from decide_eq_false (by omega))]
                | simp [Ev.txt, f0, (show fTxn e.ck = true from decide_eq_true (by omega)), (show fPage e.ck = false from decide_eq_false (by omega)), (show fOff e.ck = false from decide_eq_false (by omega))]
                | simp [Ev.txt, f0, (show fTxn e.ck = false from decide_eq_false (by omega)), (show fPage e.ck = false from decide_eq_false (by omega)), (show fOff e.ck = false from decide_eq_false (by omega))]
              · first | exact (decide_eq_true (by unfold Ev.fine; omega)).symm | exact (decide_eq_false (by unfold Ev.fine; omega)).symm | (rw [eqd]; exact decide_eq_decide.2 (by unfold Ev.fine; omega)) | (rw [eqs]; exact decide_eq_decide.2 (by unfold Ev.fine; omega)) | exact decide_eq_decide.2 (by unfold Ev.fine; omega)
          · try rw [c8]
            replace c8 := ne_of_beq_false c8
            refine Meet.of (cast_p (G126_1110101101011111001002_eq _ _ _ _ _ _) ?_)
            refine bindVO_mk p_f ?_
            refine g_ft ?_
            refine Meet.of (cast_p (G126_1110101101011111001004_eq _ _ _ _ _) ?_)
            refine bindVO_mk p_f ?_
            refine Meet.of (cast_p (J126_111010110101111101_eq _ _ _ _) ?_)
            refine ⟨congrArg AEnd.ret ((lineR_mk (e := e) (by unfold Ev.pre; omega) ?_ ?_).trans hv), fr⟩
            · have f0 : e.kind = 0 := by omega
              first
              | simp [Ev.txt, f0, (show fTxn e.ck = true from decide_eq_true (by omega)), (show fPage e.ck = true from decide_eq_true (by omega)), (show fOff e.ck = true from decide_eq_true (by omega))]
              | simp [Ev.txt, f0, (show fTxn e.ck = true from decide_eq_true (by omega)), (show fPage e.ck = true from decide_eq_true (by omega)), (show fOff e.ck = false from decide_eq_false (by omega))]
              | simp [Ev.txt, f0, (show fTxn e.ck = true from decide_eq_true (by omega)), (show fPage e.ck = false from decide_eq_false (by omega)), (show fOff e.ck = false from decide_eq_false (by omega))]
              | simp [Ev.txt, f0, (show fTxn e.ck = false from decide_eq_false (by omega)), (show fPage e.ck = false from decide_eq_false (by omega)), (show fOff e.ck = false from decide_eq_false (by omega))]
            · first | exact (decide_eq_true (by unfold Ev.fine; omega)).symm | exact (decide_eq_false (by unfold Ev.fine; omega)).symm | (rw [eqd]; exact decide_eq_decide.2 (by unfold Ev.fine; omega)) | (rw [eqs]; exact decide_eq_decide.2 (by unfold Ev.fine; omega)) | exact decide_eq_decide.2 (by unfold Ev.fine; omega)
        · try rw [c7]
          replace c7 := ne_of_beq_false c7
          refine Meet.of (cast_p (J126_111010111_eq _ _ _ _) ?_)
          refine bindVO_mk (ld_mk hm6 (by kernel_rfl) rfl) ?_
          refine bindSO_mk (fa_mk (by kernel_rfl)) ?_
          refine bindVO_mk (ld_mk hm6 (by kernel_rfl) rfl) ?_
          refine bindSO_mk (build57k e) ?_
          refine bindSO_mk (eq57k e _) ?_
          refine ⟨congrArg AEnd.ret ((lineR_mk (e := e) (by unfold Ev.pre; omega) ?_ ?_).trans hv), fr⟩
          · have f0 : e.kind = 0 := by omega
            first
            | simp [Ev.txt, f0, (show fTxn e.ck = true from decide_eq_true (by omega)), (show fPage e.ck = true from decide_eq_true (by omega)), (show fOff e.ck = true from decide_eq_true (by omega))]
            | simp [Ev.txt, f0, (show fTxn e.ck = true from decide_eq_true (by omega)), (show fPage e.ck = true from decide_eq_true (by omega)), (show fOff e.ck = false from decide_eq_false (by omega))]
            | simp [Ev.txt, f0, (show fTxn e.ck = true from decide_eq_true (by omega)), (show fPage e.ck = false from decide_eq_false (by omega)), (show fOff e.ck = false from decide_eq_false (by omega))]
            | simp [Ev.txt, f0, (show fTxn e.ck = false from decide_eq_false (by omega)), (show fPage e.ck = false from decide_eq_false (by omega)), (show fOff e.ck = false from decide_eq_false (by omega))]
          · first | exact (decide_eq_true (by unfold Ev.fine; omega)).symm | exact (decide_eq_false (by unfold Ev.fine; omega)).symm | (rw [eqd]; exact decide_eq_decide.2 (by unfold Ev.fine; omega)) | (rw [eqs]; exact decide_eq_decide.2 (by unfold Ev.fine; omega)) | exact decide_eq_decide.2 (by unfold Ev.fine; omega)
end
end Go.Proofs.YtcglbpjpbjaecaaGreat.Sh
namespace Go.Proofs.YtcglbpjpbjaecaaGreat.Sh
open Go Go.Ab Go.RowKit
open Go.Proofs.YtcglbpjpbjaecaaGreat.Ru (Pg okP)
set_option maxRecDepth 10000
section
variable (e : Ev) (ok : e.ok) {v : V} {h0 : AH} {n1 n6 n8 : Nat} {h : AH} {k : V}
include ok
theorem RcrashL (hA : e.kind = 5 ∧ 0 ≤ e.a ∧ e.a < 2147483648 ∧ e.b = 0 ∧ (e.ck = 0 ∧ e.txn = 0 ∧ e.page = 0 ∧ e.off = 0 ∧ e.s.length = 0)) (hk : KeepB h k e.keep) (hl : e.keep.length ≤ 100000) (hv : e.lineR = v) (hn : h0.next ≤ h.next) (fr : ∀ n, n < h0.next → h.m n = h0.m n) (hm1 : h.m n1 = some (.cells true (.one 73) (evV e k))) (hn1 : n1 < h.next ∧ h0.next ≤ n1) : ∀ (j i : Nat) (s : List UInt8) (m : Nat), i ≤ e.keep.length → e.keep.length - i = j → j < m → s.length ≤ 100 + i → s ++ (bitsT (e.keep.drop i) ++ (if e.keep.length = 0 then [45] else [])) = e.txt → L126_111110101010 (Ends v h0) m (.ptr (some ⟨n1, .one 73, []⟩)) (.str s) (.int .i64 i) h := by
  have k1 := ok.kind; have k2 := ok.a; have k3 := ok.b; have k4 := ok.ck; have k5 := ok.txn; have k6 := ok.page; have k7 := ok.off; have k8 := ok.s; have k9 := ok.keep
  obtain ⟨a, rfl⟩ := hk.shape
  intro j
  induction j with
  | zero =>
    intro i s m hi hj hm hs ht
    obtain ⟨m, rfl⟩ : ∃ j, m = j + 1 := ⟨m - 1, by omega⟩
    rw [L126_111110101010_eq]
    refine bindS_mk (fa_mk (by kernel_rfl)) ?_
    refine bindV_mk (ld_mk hm1 (by kernel_rfl) rfl) ?_
    refine bindV_mk (len_slc (by kernel_rfl)) ?_
    refine bindS_mk (b_lss) ?_
    refine i_split (fun c1 => ?_) (fun c1 => ?_)
    · try rw [c1]
      replace c1 := of_decide_eq_true c1
      exfalso; omega
    · try rw [c1]
      replace c1 := of_decide_eq_false c1
      refine Meet.of (cast_p (J126_1111101011_eq _ _ _ _) ?_)
      refine bindS_mk (fa_mk (by kernel_rfl)) ?_
      refine bindV_mk (ld_mk hm1 (by kernel_rfl) rfl) ?_
      refine bindV_mk (len_slc (by kernel_rfl)) ?_
      refine bindS_mk (b_eql) ?_
      refine i_split (fun c2 => ?_) (fun c2 => ?_)
      · try rw [c2]
        replace c2 := eq_of_beq c2
        refine bindS_mk (t_add (by simp; omega)) ?_
        refine Meet.of (cast_p (J126_11111010111_eq _ _ _ _) ?_)
        refine bindSO_mk (fa_mk (by kernel_rfl)) ?_
        refine bindVO_mk (ld_mk hm1 (by kernel_rfl) rfl) ?_
        refine bindSO_mk (b_eql) ?_
        refine g_split_t (fun c3 => ?_) (fun c3 => ?_)
        · try rw [c3]
          replace c3 := eq_of_beq c3
          refine bindSO_mk (fa_mk (by kernel_rfl)) ?_
          refine bindVO_mk (ld_mk hm1 (by kernel_rfl) rfl) ?_
          refine bindVO_mk (len_slc (by kernel_rfl)) ?_
          refine bindSO_mk (b_leq) ?_
          refine Meet.of (cast_p (G126_1111101011101002_eq _ _ _ _ _) ?_)
          refine bindVO_mk p_t ?_
          refine Meet.of (cast_p (J126_111110101111_eq _ _ _ _) ?_)
          refine ⟨congrArg AEnd.ret ((lineR_mk (e := e) (by unfold Ev.pre; omega) ?_ ?_).trans hv), fr⟩
          · rw [← ht, List.drop_of_length_le (by omega)]
            first | (rw [if_pos (by omega)]; simp [bitsT]; done) | (rw [if_neg (by omega)]; simp [bitsT]; done)
          · first | exact (decide_eq_true (by unfold Ev.fine; omega)).symm | exact (decide_eq_false (by unfold Ev.fine; omega)).symm | (rw [eqd]; exact decide_eq_decide.2 (by unfold Ev.fine; omega)) | (rw [eqs]; exact decide_eq_decide.2 (by unfold Ev.fine; omega)) | exact decide_eq_decide.2 (by unfold Ev.fine; omega)
        · try rw [c3]
          replace c3 := ne_of_beq_false c3
          refine Meet.of (cast_p (G126_1111101011101002_eq _ _ _ _ _) ?_)
          refine bindVO_mk p_f ?_
          refine Meet.of (cast_p (J126_111110101111_eq _ _ _ _) ?_)
          refine ⟨congrArg AEnd.ret ((lineR_mk (e := e) (by unfold Ev.pre; omega) ?_ ?_).trans hv), fr⟩
          · rw [← ht, List.drop_of_length_le (by omega)]
            first | (rw [if_pos (by omega)]; simp [bitsT]; done) | (rw [if_neg (by omega)]; simp [bitsT]; done)
          · first | exact (decide_eq_true (by unfold Ev.fine; omega)).symm | exact (decide_eq_false (by unfold Ev.fine; omega)).symm | (rw [eqd]; exact decide_eq_decide.2 (by unfold Ev.fine; omega)) | (rw [eqs]; exact decide_eq_decide.2 (by unfold Ev.fine; omega)) | exact decide_eq_decide.2 (by unfold Ev.fine; omega)
      · try rw [c2]
        replace c2 := ne_of_beq_false c2
        refine Meet.of (cast_p (J126_11111010111_eq _ _ _ _) ?_)
        refine bindSO_mk (fa_mk (by kernel_rfl)) ?_
        refine bindVO_mk (ld_mk hm1 (by kernel_rfl) rfl) ?_
        refine bindSO_mk (b_eql) ?_
        refine g_split_t (fun c4 => ?_) (fun c4 => ?_)
        · try rw [c4]
          replace c4 := eq_of_beq c4
          refine bindSO_mk (fa_mk (by kernel_rfl)) ?_
          refine bindVO_mk (ld_mk hm1 (by kernel_rfl) rfl) ?_
          refine bindVO_mk (len_slc (by kernel_rfl)) ?_
          refine bindSO_mk (b_leq) ?_
          refine Meet.of (cast_p (G126_1111101011101002_eq _ _ _ _ _) ?_)
          refine bindVO_mk p_t ?_
          refine Meet.of (cast_p (J126_111110101111_eq _ _ _ _) ?_)
          refine ⟨congrArg AEnd.ret ((lineR_mk (e := e) (by unfold Ev.pre; omega) ?_ ?_).trans hv), fr⟩
          · rw [← ht, List.drop_of_length_le (by omega)]
            first | (rw [if_pos (by omega)]; simp [bitsT]; done) | (rw [if_neg (by omega)]; simp [bitsT]; done)
          · first | exact (decide_eq_true (by unfold Ev.fine; omega)).symm | exact (decide_eq_false (by unfold Ev.fine; omega)).symm | (rw [eqd]; exact decide_eq_decide.2 (by unfold Ev.fine; omega)) | (rw [eqs]; exact decide_eq_decide.2 (by unfold Ev.fine; omega)) | exact decide_eq_decide.2 (by unfold Ev.fine; omega)
        · try rw [c4]
          replace c4 := ne_of_beq_false c4
          refine Meet.of (cast_p (G126_1111101011101002_eq _ _ _ _ _) ?_)
          refine bindVO_mk p_f ?_
          refine Meet.of (cast_p (J126_111110101111_eq _ _ _ _) ?_)
          refine ⟨congrArg AEnd.ret ((lineR_mk (e := e) (by unfold Ev.pre; omega) ?_ ?_).trans hv), fr⟩
          · rw [← ht, List.drop_of_length_le (by omega)]
            first | (rw [if_pos (by omega)]; simp [bitsT]; done) | (rw [if_neg (by omega)]; simp [bitsT]; done)
          · first | exact (decide_eq_true (by unfold Ev.fine; omega)).symm | exact (decide_eq_false (by unfold Ev.fine; omega)).symm | (rw [eqd]; exact decide_eq_decide.2 (by unfold Ev.fine; omega)) | (rw [eqs]; exact decide_eq_decide.2 (by unfold Ev.fine; omega)) | exact decide_eq_decide.2 (by unfold Ev.fine; omega)
  | succ j ih =>
    intro i s m hi hj hm hs ht
    obtain ⟨m, rfl⟩ : ∃ j, m = j + 1 := ⟨m - 1, by omega⟩
    have ih := fun i s m h1 h2 h3 h4 h5 => ih i s m h1 h2 h3 h4 h5
    obtain ⟨b, hb0⟩ : ∃ b, e.keep[i]? = some b := ⟨e.keep[i]'(by omega), List.getElem?_eq_getElem (by omega)⟩
    have hd : e.keep.drop i = b :: e.keep.drop (i + 1) := drop_at' hb0
    rw [L126_111110101010_eq]
    refine bindS_mk (fa_mk (by kernel_rfl)) ?_
    refine bindV_mk (ld_mk hm1 (by kernel_rfl) rfl) ?_
    refine bindV_mk (len_slc (by kernel_rfl)) ?_
    refine bindS_mk (b_lss) ?_
    refine (show decide (((i : Nat) : Int) < ((e.keep.length : Nat) : Int)) = true from decide_eq_true (by omega)) ▸ i_t ?_
    rcases hk with ⟨_, hk⟩ | ⟨nK, hnK, hke, hmK⟩
    · rw [hk] at hb0; cases hb0
    obtain ⟨rfl, _⟩ := V.slc.injEq .. ▸ hke
    refine Meet.of ?_
    rw [J126_11111010101001_eq]
    refine bindS_mk (fa_mk (by kernel_rfl)) ?_
    refine bindV_mk (ld_mk hm1 (by kernel_rfl) rfl) ?_
    refine bindS_mk (ia_slc _ (by kernel_rfl) (by omega) (by omega)) ?_
    refine bindV_mk (ld_mk hmK (by kernel_rfl) (getV_row (boolsV_get (by rw [show 0 + ((i : Nat) : Int).toNat = i by omega]; exact hb0)))) ?_
    refine i_split (fun hb2 => ?_) (fun hb2 => ?_)
    · skip
      refine bindS_mk (t_add (by simp; omega)) ?_
      refine Meet.of (cast_p (J126_111110101010011_eq _ _ _ _ _ _) ?_)
      first | refine bindS_mk (w_add (by first | exact wrap_i64 (by omega) (by omega) | exact wr_u8 (by omega) (by omega) | exact wr_u16 (by omega) (by omega) | exact wr_u32 (by omega) (by omega) | exact wr_u64 (by omega) (by omega))) ?_ | refine bindS_mk (b_add) ?_
      refine Meet.of ((congrArg (fun x : Int => L126_111110101010 (Ends v h0) m (.ptr (some ⟨n1, .one 73, []⟩)) _ (.int .i64 x) h) (show ((i : Nat) : Int) + 1 = ((i + 1 : Nat) : Int) by omega)).mpr (ih (i + 1) _ m (by omega) (by omega) (by omega) (by simp; omega) ?_))
      rw [← ht, hd]; simp [bitsT, hb2]
    · skip
      refine bindS_mk (t_add (by simp; omega)) ?_
      refine Meet.of (cast_p (J126_111110101010011_eq _ _ _ _ _ _) ?_)
      first | refine bindS_mk (w_add (by first | exact wrap_i64 (by omega) (by omega) | exact wr_u8 (by omega) (by omega) | exact wr_u16 (by omega) (by omega) | exact wr_u32 (by omega) (by omega) | exact wr_u64 (by omega) (by omega))) ?_ | refine bindS_mk (b_add) ?_
      refine Meet.of ((congrArg (fun x : Int => L126_111110101010 (Ends v h0) m (.ptr (some ⟨n1, .one 73, []⟩)) _ (.int .i64 x) h) (show ((i : Nat) : Int) + 1 = ((i + 1 : Nat) : Int) by omega)).mpr (ih (i + 1) _ m (by omega) (by omega) (by omega) (by simp; omega) ?_))
      rw [← ht, hd]; simp [bitsT, hb2]
theorem Roth (hA : e.kind ≠ 0 ∧ e.kind ≠ 5 ∧ e.kind < 7 ∧ 0 ≤ e.a ∧ e.a < 2147483648 ∧ e.b = 0 ∧ (e.ck = 0 ∧ e.txn = 0 ∧ e.page = 0 ∧ e.off = 0 ∧ e.s.length = 0)) {s8 : List UInt8} (hs8 : s8 = kindName e.kind ++ [32]) (hk : KeepB h k e.keep) (hv : e.lineR = v) (hn : h0.next ≤ h.next) (fr : ∀ n, n < h0.next → h.m n = h0.m n) (hm1 : h.m n1 = some (.cells true (.one 73) (evV e k))) (hn1 : n1 < h.next ∧ h0.next ≤ n1) : J126_11111111 (Ends v h0) (.ptr (some ⟨n1, .one 73, []⟩)) (.str s8) h := by
  have k1 := ok.kind; have k2 := ok.a; have k3 := ok.b; have k4 := ok.ck; have k5 := ok.txn; have k6 := ok.page; have k7 := ok.off; have k8 := ok.s; have k9 := ok.keep
  obtain ⟨a, rfl⟩ := hk.shape
  rw [J126_11111111_eq]
  refine bindSO_mk (fa_mk (by kernel_rfl)) ?_
  refine bindVO_mk (ld_mk hm1 (by kernel_rfl) rfl) ?_
  refine bindSO_mk (cv_wr (d := 49) (k := .u64) (by kernel_rfl) (wr_u64 (by omega) (by omega))) ?_
  refine ⟨_, NumP _ (by omega) (by omega) _, ?_⟩
  refine bindSO_mk (t_add (by rw [hs8]; have l1 := kindName_len e.kind; have l2 := dec_len20 (n := e.a.toNat) (by omega); simp; omega)) ?_
  refine bindSO_mk (fa_mk (by kernel_rfl)) ?_
  refine bindVO_mk (ld_mk hm1 (by kernel_rfl) rfl) ?_
  refine bindVO_mk (len_slc (by kernel_rfl)) ?_
  refine bindSO_mk (b_eql) ?_
  refine ⟨congrArg AEnd.ret ((lineR_mk (e := e) (by unfold Ev.pre; omega) ?_ ?_).trans hv), fr⟩
  · rw [Ev.txt, if_neg (show ¬ e.kind = 0 by omega), if_neg (show ¬ e.kind = 5 by omega), hs8]; simp
  · first | exact (decide_eq_true (by unfold Ev.fine; omega)).symm | exact (decide_eq_false (by unfold Ev.fine; omega)).symm | (rw [eqd]; exact decide_eq_decide.2 (by unfold Ev.fine; omega)) | (rw [eqs]; exact decide_eq_decide.2 (by unfold Ev.fine; omega)) | exact decide_eq_decide.2 (by unfold Ev.fine; omega)
omit ok in
theorem lineR_old (e : Ev) (m : Nat → Bool) : oldV m e.lineR = true := rfl
theorem lineR0 {k : V} (hk : KeepB h0 k e.keep) (hkl : e.keep.length ≤ 100000) : ACalls Pg 126 [evV e k] h0 (Ends e.lineR h0) := by
  have k1 := ok.kind; have k2 := ok.a; have k3 := ok.b; have k4 := ok.ck; have k5 := ok.txn; have k6 := ok.page; have k7 := ok.off; have k8 := ok.s; have k9 := ok.keep
  obtain ⟨a, rfl⟩ := hk.shape
  obtain ⟨v, hv⟩ : ∃ v, e.lineR = v := ⟨_, rfl⟩
  rw [hv]
  refine C126 _ _ _ ?_
  refine bindE (new_at (s73 e a _)) fun h1 u1 => ?_
  have n1 := u1.next
  have fFR_1 := fun k (hk : k < h0.next) => (u1.other k (by omega)).trans ((fun n (_ : n < h0.next) => rfl) k hk)
  have f1_1 := u1.at_
  refine bindS_mk (fa_mk (by kernel_rfl)) ?_
  refine bindV_mk (ld_mk f1_1 (by kernel_rfl) rfl) ?_
  refine bindS_mk (b_gtr) ?_
  refine g_split_f (fun c2 => ?_) (fun c2 => ?_)
  · try rw [c2]
    replace c2 := of_decide_eq_false c2
    refine bindS_mk (fa_mk (by kernel_rfl)) ?_
    refine bindV_mk (ld_mk f1_1 (by kernel_rfl) rfl) ?_
    refine bindS_mk (b_lss) ?_
    refine Meet.of (cast_p (G126_1001002_eq _ _ _ _ _) ?_)
    refine bindV_mk p_f ?_
    refine g_split_f (fun c3 => ?_) (fun c3 => ?_)
    · try rw [c3]
      replace c3 := of_decide_eq_false c3
      refine bindS_mk (fa_mk (by kernel_rfl)) ?_
      refine bindV_mk (ld_mk f1_1 (by kernel_rfl) rfl) ?_
      refine bindS_mk (b_gtr) ?_
      refine Meet.of (cast_p (G126_1001004_eq _ _ _ _ _) ?_)
      refine bindV_mk p_f ?_
      refine g_split_f (fun c4 => ?_) (fun c4 => ?_)
      · try rw [c4]
        replace c4 := of_decide_eq_false c4
        refine bindS_mk (fa_mk (by kernel_rfl)) ?_
        refine bindV_mk (ld_mk f1_1 (by kernel_rfl) rfl) ?_
        refine bindS_mk (b_neq) ?_
        refine Meet.of (cast_p (G126_1001006_eq _ _ _ _ _) ?_)
        refine bindV_mk p_f ?_
        refine Meet.of (cast_p (J126_101_eq _ _ _ _) ?_)
        refine i_split (fun c5 => ?_) (fun c5 => ?_)
        · try rw [c5]
          replace c5 := ne_of_bne c5
          exact ⟨congrArg AEnd.ret ((lineR_no (e := e) (by unfold Ev.pre; omega)).trans hv), fFR_1⟩
        · try rw [c5]
          replace c5 := eq_of_bne_false c5
          refine Meet.of (cast_p (J126_11_eq _ _ _) ?_)
          refine bindS_mk (fa_mk (by kernel_rfl)) ?_
          refine bindV_mk (ld_mk f1_1 (by kernel_rfl) rfl) ?_
          refine bindE (al_at z57 zs57) fun h6 u6 => ?_
          have n6 := u6.next
          have fFR_6 := fun k (hk : k < h0.next) => (u6.other k (by omega)).trans (fFR_1 k hk)
          have f1_6 := (u6.other _ (by omega)).trans f1_1
          have f6_6 := u6.at_
          refine bindE (st_at f6_6 (by kernel_rfl) rfl (s57 e) rfl) fun h7 u7 => ?_
          have n7 := u7.next
          have fFR_7 := fun k (hk : k < h0.next) => (u7.other k (by omega)).trans (fFR_6 k hk)
          have f1_7 := (u7.other _ (by omega)).trans f1_6
          have f6_7 := u7.at_
          refine bindS_mk (fa_mk (by kernel_rfl)) ?_
          refine bindV_mk (ld_mk f1_7 (by kernel_rfl) rfl) ?_
          refine bindS_mk (b_eql) ?_
          refine i_split (fun c8 => ?_) (fun c8 => ?_)
          · try rw [c8]
            replace c8 := eq_of_beq c8
            refine bindS_mk (fa_mk (by kernel_rfl)) ?_
            refine bindV_mk (ld_mk f1_7 (by kernel_rfl) rfl) ?_
            refine bindS_mk (b_gtr) ?_
            refine g_split_f (fun c9 => ?_) (fun c9 => ?_)
            · try rw [c9]
              replace c9 := of_decide_eq_false c9
              refine bindS_mk (fa_mk (by kernel_rfl)) ?_
              refine bindV_mk (ld_mk f6_7 (by kernel_rfl) rfl) ?_
              refine bindS_mk (b_gtr) ?_
              refine Meet.of (cast_p (G126_111010001002_eq _ _ _ _ _ _) ?_)
              refine bindV_mk p_f ?_
              refine g_split_f (fun c10 => ?_) (fun c10 => ?_)
              · try rw [c10]
                replace c10 := of_decide_eq_false c10
                refine bindS_mk (fa_mk (by kernel_rfl)) ?_
                refine bindV_mk (ld_mk f1_7 (by kernel_rfl) rfl) ?_
                refine bindV_mk (len_slc (by kernel_rfl)) ?_
                refine bindS_mk (b_gtr) ?_
                refine Meet.of (cast_p (G126_111010001004_eq _ _ _ _ _ _) ?_)
                refine bindV_mk p_f ?_
                refine g_split_f (fun c11 => ?_) (fun c11 => ?_)
                · try rw [c11]
                  replace c11 := of_decide_eq_false c11
                  refine bindS_mk (fa_mk (by kernel_rfl)) ?_
                  refine bindV_mk (ld_mk f6_7 (by kernel_rfl) rfl) ?_
                  refine bindS_mk (b_gtr) ?_
                  refine Meet.of (cast_p (G126_111010001006_eq _ _ _ _ _ _) ?_)
                  refine bindV_mk p_f ?_
                  refine g_split_f (fun c12 => ?_) (fun c12 => ?_)
                  · try rw [c12]
                    replace c12 := of_decide_eq_false c12
                    refine bindS_mk (fa_mk (by kernel_rfl)) ?_
                    refine bindV_mk (ld_mk f6_7 (by kernel_rfl) rfl) ?_
                    refine bindS_mk (b_lss) ?_
                    refine Meet.of (cast_p (G126_111010001008_eq _ _ _ _ _ _) ?_)
                    refine bindV_mk p_f ?_
                    refine g_split_f (fun c13 => ?_) (fun c13 => ?_)
                    · try rw [c13]
                      replace c13 := of_decide_eq_false c13
                      refine bindS_mk (fa_mk (by kernel_rfl)) ?_
                      refine bindV_mk (ld_mk f6_7 (by kernel_rfl) rfl) ?_
                      refine bindS_mk (b_gtr) ?_
                      refine Meet.of (cast_p (G126_111010001010_eq _ _ _ _ _ _) ?_)
                      refine bindV_mk p_f ?_
                      refine g_split_f (fun c14 => ?_) (fun c14 => ?_)
                      · try rw [c14]
                        replace c14 := of_decide_eq_false c14
                        refine bindS_mk (fa_mk (by kernel_rfl)) ?_
                        refine bindV_mk (ld_mk f6_7 (by kernel_rfl) rfl) ?_
                        refine bindV_mk (len_str (by kernel_rfl)) ?_
                        refine bindS_mk (b_gtr) ?_
                        refine Meet.of (cast_p (G126_111010001012_eq _ _ _ _ _ _) ?_)
                        refine bindV_mk p_f ?_
                        refine Meet.of (cast_p (J126_11101001_eq _ _ _ _ _) ?_)
                        refine i_split (fun c15 => ?_) (fun c15 => ?_)
                        · try rw [c15]
                          replace c15 := of_decide_eq_true c15
                          exact ⟨congrArg AEnd.ret ((lineR_no (e := e) (by unfold Ev.pre; omega)).trans hv), fFR_7⟩
                        · try rw [c15]
                          replace c15 := of_decide_eq_false c15
                          exact Meet.of (Rask e ok (by omega) hv (by omega) fFR_7 f1_7 (by omega) f6_7 (by omega))
                      · try rw [c14]
                        replace c14 := of_decide_eq_true c14
                        refine Meet.of (cast_p (G126_111010001012_eq _ _ _ _ _ _) ?_)
                        refine bindV_mk p_t ?_
                        refine Meet.of (cast_p (J126_11101001_eq _ _ _ _ _) ?_)
                        refine i_t ?_
                        exact ⟨congrArg AEnd.ret ((lineR_no (e := e) (by unfold Ev.pre; omega)).trans hv), fFR_7⟩
                    · try rw [c13]
                      replace c13 := of_decide_eq_true c13
                      refine Meet.of (cast_p (G126_111010001010_eq _ _ _ _ _ _) ?_)
                      refine bindV_mk p_t ?_
                      refine g_tf ?_
                      refine Meet.of (cast_p (G126_111010001012_eq _ _ _ _ _ _) ?_)
                      refine bindV_mk p_t ?_
                      refine Meet.of (cast_p (J126_11101001_eq _ _ _ _ _) ?_)
                      refine i_t ?_
                      exact ⟨congrArg AEnd.ret ((lineR_no (e := e) (by unfold Ev.pre; omega)).trans hv), fFR_7⟩
                  · try rw [c12]
                    replace c12 := of_decide_eq_true c12
                    refine Meet.of (cast_p (G126_111010001008_eq _ _ _ _ _ _) ?_)
                    refine bindV_mk p_t ?_
                    refine g_tf ?_
                    refine Meet.of (cast_p (G126_111010001010_eq _ _ _ _ _ _) ?_)
                    refine bindV_mk p_t ?_
                    refine g_tf ?_
                    refine Meet.of (cast_p (G126_111010001012_eq _ _ _ _ _ _) ?_)
                    refine bindV_mk p_t ?_
                    refine Meet.of (cast_p (J126_11101001_eq _ _ _ _ _) ?_)
                    refine i_t ?_
                    exact ⟨congrArg AEnd.ret ((lineR_no (e := e) (by unfold Ev.pre; omega)).trans hv), fFR_7⟩
                · try rw [c11]
                  replace c11 := of_decide_eq_true c11
                  refine Meet.of (cast_p (G126_111010001006_eq _ _ _ _ _ _) ?_)
                  refine bindV_mk p_t ?_
                  refine g_tf ?_
                  refine Meet.of (cast_p (G126_111010001008_eq _ _ _ _ _ _) ?_)
                  refine bindV_mk p_t ?_
                  refine g_tf ?_
                  refine Meet.of (cast_p (G126_111010001010_eq _ _ _ _ _ _) ?_)
                  refine bindV_mk p_t ?_
                  refine g_tf ?_
                  refine Meet.of (cast_p (G126_111010001012_eq _ _ _ _ _ _) ?_)
                  refine bindV_mk p_t ?_
                  refine Meet.of (cast_p (J126_11101001_eq _ _ _ _ _) ?_)
                  refine i_t ?_
                  exact ⟨congrArg AEnd.ret ((lineR_no (e := e) (by unfold Ev.pre; omega)).trans hv), fFR_7⟩
              · try rw [c10]
                replace c10 := of_decide_eq_true c10
                refine Meet.of (cast_p (G126_111010001004_eq _ _ _ _ _ _) ?_)
                refine bindV_mk p_t ?_
                refine g_tf ?_
                refine Meet.of (cast_p (G126_111010001006_eq _ _ _ _ _ _) ?_)
                refine bindV_mk p_t ?_
                refine g_tf ?_
                refine Meet.of (cast_p (G126_111010001008_eq _ _ _ _ _ _) ?_)
                refine bindV_mk p_t ?_
                refine g_tf ?_
                refine Meet.of (cast_p (G126_111010001010_eq _ _ _ _ _ _) ?_)
                refine bindV_mk p_t ?_
                refine g_tf ?_
                refine Meet.of (cast_p (G126_111010001012_eq _ _ _ _ _ _) ?_)
                refine bindV_mk p_t ?_
                refine Meet.of (cast_p (J126_11101001_eq _ _ _ _ _) ?_)
                refine i_t ?_
                exact ⟨congrArg AEnd.ret ((lineR_no (e := e) (by unfold Ev.pre; omega)).trans hv), fFR_7⟩
            · try rw [c9]
              replace c9 := of_decide_eq_true c9
              refine Meet.of (cast_p (G126_111010001002_eq _ _ _ _ _ _) ?_)
              refine bindV_mk p_t ?_
              refine g_tf ?_
              refine Meet.of (cast_p (G126_111010001004_eq _ _ _ _ _ _) ?_)
              refine bindV_mk p_t ?_
              refine g_tf ?_
              refine Meet.of (cast_p (G126_111010001006_eq _ _ _ _ _ _) ?_)
              refine bindV_mk p_t ?_
              refine g_tf ?_
              refine Meet.of (cast_p (G126_111010001008_eq _ _ _ _ _ _) ?_)
              refine bindV_mk p_t ?_
              refine g_tf ?_
              refine Meet.of (cast_p (G126_111010001010_eq _ _ _ _ _ _) ?_)
              refine bindV_mk p_t ?_
              refine g_tf ?_
              refine Meet.of (cast_p (G126_111010001012_eq _ _ _ _ _ _) ?_)
              refine bindV_mk p_t ?_
              refine Meet.of (cast_p (J126_11101001_eq _ _ _ _ _) ?_)
              refine i_t ?_
              exact ⟨congrArg AEnd.ret ((lineR_no (e := e) (by unfold Ev.pre; omega)).trans hv), fFR_7⟩
          · try rw [c8]
            replace c8 := ne_of_beq_false c8
            refine Meet.of (cast_p (J126_1111_eq _ _ _ _) ?_)
            refine bindV_mk (ld_mk f6_7 (by kernel_rfl) rfl) ?_
            refine bindS_mk (build57) ?_
            refine bindS_mk (ne57 e _) ?_
            refine i_split (fun c16 => ?_) (fun c16 => ?_)
            · try rw [c16]
              have l16 : ¬ (e.ck = 0 ∧ e.txn = 0 ∧ e.page = 0 ∧ e.off = 0 ∧ e.s.length = 0) := of_decide_eq_false (by simpa only [Bool.not_eq_true'] using c16)
              exact ⟨congrArg AEnd.ret ((lineR_no (e := e) (by unfold Ev.pre; omega)).trans hv), fFR_7⟩
            · try rw [c16]
              have l16 : (e.ck = 0 ∧ e.txn = 0 ∧ e.page = 0 ∧ e.off = 0 ∧ e.s.length = 0) := of_decide_eq_true (by simpa only [Bool.not_eq_false'] using c16)
              refine Meet.of (cast_p (J126_11111_eq _ _ _) ?_)
              refine bindS_mk (fa_mk (by kernel_rfl)) ?_
              refine bindV_mk (ld_mk f1_7 (by kernel_rfl) rfl) ?_
              refine bindS_mk (b_eql) ?_
              refine i_split (fun c17 => ?_) (fun c17 => ?_)
              · try rw [c17]
                replace c17 := eq_of_beq c17
                have e5 : e.kind = 5 := by omega
                refine ⟨e.keep.length + 1, Meet.of (RcrashL e ok (by omega) (hk.keep (by omega) (fun n hn => fFR_7 n hn)) hkl hv (by omega) fFR_7 f1_7 (by omega) e.keep.length 0 _ _ (by omega) (by omega) (by omega) (by decide) ?_)⟩
                rw [Ev.txt, if_neg (show ¬ e.kind = 0 by omega), if_pos e5, List.drop_zero]
                by_cases hz : e.keep.length = 0
                · rw [if_pos hz, if_pos hz, List.length_eq_zero_iff.1 hz]; rfl
                · rw [if_neg hz, if_neg hz, List.append_nil]
              · try rw [c17]
                replace c17 := ne_of_beq_false c17
                refine Meet.of (cast_p (J126_111111_eq _ _ _) ?_)
                refine bindS_mk (fa_mk (by kernel_rfl)) ?_
                refine bindV_mk (ld_mk f1_7 (by kernel_rfl) rfl) ?_
                refine bindS_mk (b_eql) ?_
                refine i_split (fun c18 => ?_) (fun c18 => ?_)
                · try rw [c18]
                  replace c18 := eq_of_beq c18
                  have ek : e.kind = 1 := by omega
                  exact Meet.of (Roth e ok (by omega) (by rw [ek]; rfl) (hk.keep (by omega) (fun n hn => fFR_7 n hn)) hv (by omega) fFR_7 f1_7 (by omega))
                · try rw [c18]
                  replace c18 := ne_of_beq_false c18
                  refine bindS_mk (b_eql) ?_
                  refine i_split (fun c19 => ?_) (fun c19 => ?_)
                  · try rw [c19]
                    replace c19 := eq_of_beq c19
                    have ek : e.kind = 2 := by omega
                    exact Meet.of (Roth e ok (by omega) (by rw [ek]; rfl) (hk.keep (by omega) (fun n hn => fFR_7 n hn)) hv (by omega) fFR_7 f1_7 (by omega))
                  · try rw [c19]
                    replace c19 := ne_of_beq_false c19
                    refine bindS_mk (b_eql) ?_
                    refine i_split (fun c20 => ?_) (fun c20 => ?_)
                    · try rw [c20]
                      replace c20 := eq_of_beq c20
                      have ek : e.kind = 3 := by omega
                      exact Meet.of (Roth e ok (by omega) (by rw [ek]; rfl) (hk.keep (by omega) (fun n hn => fFR_7 n hn)) hv (by omega) fFR_7 f1_7 (by omega))
                    · try rw [c20]
                      replace c20 := ne_of_beq_false c20
                      refine bindS_mk (b_eql) ?_
                      refine i_split (fun c21 => ?_) (fun c21 => ?_)
                      · try rw [c21]
                        replace c21 := eq_of_beq c21
                        have ek : e.kind = 4 := by omega
                        exact Meet.of (Roth e ok (by omega) (by rw [ek]; rfl) (hk.keep (by omega) (fun n hn => fFR_7 n hn)) hv (by omega) fFR_7 f1_7 (by omega))
                      · try rw [c21]
                        replace c21 := ne_of_beq_false c21
                        refine bindS_mk (b_eql) ?_
                        refine i_split (fun c22 => ?_) (fun c22 => ?_)
                        · try rw [c22]
                          replace c22 := eq_of_beq c22
                          have ek : e.kind = 6 := by omega
                          exact Meet.of (Roth e ok (by omega) (by rw [ek]; rfl) (hk.keep (by omega) (fun n hn => fFR_7 n hn)) hv (by omega) fFR_7 f1_7 (by omega))
                        · try rw [c22]
                          replace c22 := ne_of_beq_false c22
                          exfalso; omega
      · try rw [c4]
        replace c4 := of_decide_eq_true c4
        refine Meet.of (cast_p (G126_1001006_eq _ _ _ _ _) ?_)
        refine bindV_mk p_t ?_
        refine Meet.of (cast_p (J126_101_eq _ _ _ _) ?_)
        refine i_t ?_
        exact ⟨congrArg AEnd.ret ((lineR_no (e := e) (by unfold Ev.pre; omega)).trans hv), fFR_1⟩
    · try rw [c3]
      replace c3 := of_decide_eq_true c3
      refine Meet.of (cast_p (G126_1001004_eq _ _ _ _ _) ?_)
      refine bindV_mk p_t ?_
      refine g_tf ?_
      refine Meet.of (cast_p (G126_1001006_eq _ _ _ _ _) ?_)
      refine bindV_mk p_t ?_
      refine Meet.of (cast_p (J126_101_eq _ _ _ _) ?_)
      refine i_t ?_
      exact ⟨congrArg AEnd.ret ((lineR_no (e := e) (by unfold Ev.pre; omega)).trans hv), fFR_1⟩
  · try rw [c2]
    replace c2 := of_decide_eq_true c2
    refine Meet.of (cast_p (G126_1001002_eq _ _ _ _ _) ?_)
    refine bindV_mk p_t ?_
    refine g_tf ?_
    refine Meet.of (cast_p (G126_1001004_eq _ _ _ _ _) ?_)
    refine bindV_mk p_t ?_
    refine g_tf ?_
    refine Meet.of (cast_p (G126_1001006_eq _ _ _ _ _) ?_)
    refine bindV_mk p_t ?_
    refine Meet.of (cast_p (J126_101_eq _ _ _ _) ?_)
    refine i_t ?_
    exact ⟨congrArg AEnd.ret ((lineR_no (e := e) (by unfold Ev.pre; omega)).trans hv), fFR_1⟩
theorem lineRP {k : V} (hk : KeepB h0 k e.keep) (hkl : e.keep.length ≤ 100000) : ACalls Pg 126 [evV e k] h0 (pureE e.lineR h0) :=
  acalls_forget (lineR_old e _) (lineR0 e ok hk hkl)
end
end Go.Proofs.YtcglbpjpbjaecaaGreat.Sh
namespace Go.Proofs.YtcglbpjpbjaecaaGreat.Sj
open Go Go.Ab Go.RowKit Go.Proofs
open Go.Proofs.YtcglbpjpbjaecaaGreat.Ru (Pg okP)
set_option maxRecDepth 100000
section
variable {P : Program} (w : World)
theorem lies_bytes {e : TypeId} (hc : P.cellsOf e = 1) (count o n : Nat) (hn : o + n ≤ count) : liesAt P P.depth e count o e n = true := by
  have hd : P.depth = (2 * (P.types.size + Made.depth) + 1) + 1 := rfl
  rw [hd]
  simp only [liesAt, Bool.or_eq_true]
  left
  rw [hd]
  simp [Go.rowAt, hc, hn, sameLayout, Nat.mod_one]
theorem uStr (pt it ty e : TypeId) (hp : P.underlying pt = some (.pointer e)) (hc : P.cellsOf e = 1) (g o cells : Nat) (hsh : w.shape? g = some (e, cells)) (l : List UInt8) (h0 : l ≠ []) (hn : o + l.length ≤ cells) (h63 : l.length ≤ 9223372036854775807)
    (hcell : ∀ j x, l[j]? = some x → w.cell? ((⟨g, o, none⟩ : Addr).add j) = some (.int .u8 x.toNat)) :
    (Builtin.unsafeString_ #[pt, it] ty #[.pointer (some ⟨g, o, none⟩), .int .i64 l.length]).run P w = .ok (.string ⟨l.toArray⟩) (w.freeze ⟨g, o, none⟩ l.length) := by
  have hl : l.length ≠ 0 := by simpa using h0
  have hlb := Lib.run_loadBytes (P := P) w l ⟨g, o, none⟩ .empty hcell
  have hlies := lies_bytes (P := P) hc (cells / P.cellsOf e) o l.length (by rw [hc]; simpa using hn)
  have h63' : ¬ (9223372036854775807 : Int) < (l.length : Int) := by omega
  have hdef : Builtin.unsafeString_ #[pt, it] ty #[.pointer (some ⟨g, o, none⟩), .int .i64 l.length] =
      (do
        let n ← asInt (.int .i64 l.length)
        if n < 0 then runtimePanic (.error "unsafe.String: len out of range")
        if n > IntKind.i64.max then unsupported (.unsafePointer "String: a length above the largest int")
        if n = 0 then pure (.string .empty)
        else if ← variablesAt ⟨g, o, none⟩ (← elemOf pt) n.toNat then do
          let s ← loadBytes ⟨g, o, none⟩ .empty n.toNat
          freeze ⟨g, o, none⟩ n.toNat
          pure (.string s)
        else unsupported (.unsafePointer "String: not so many bytes at ptr")) := rfl
  rw [hdef]
  have hmax : IntKind.i64.max = 9223372036854775807 := rfl
  have hneg : ¬ (l.length : Int) < 0 := by omega
  simp [asInt, asIntOf, hmax, h63', hneg, hl, variablesAt, hsh, elemOf, run_underlying hp, hlies, hlb]
end
theorem joLay169 : Lays.n169 Tryz.prog joRen := { joLay with }
theorem joLay240 : Lays.n240 Tryz.prog joRen := { joLay with }
set_option maxHeartbeats 2000000 in
theorem strAt {P : Program} {ρ : Go.Shelf.Ren} (L : Lays.n169 P ρ) (X : Builder.Extra P ρ) (b g o cap : Nat) (p : Value) (cur : Array Value) (fr fr2 : Nat × Nat) (l : List UInt8) (w : World) (hbk : w.heap[b]? = some (.cells #[p, .slice (some ⟨g, o, none⟩) l.length cap] (ρ.t 72) fr))
    (hg : w.heap[g]? = some (.cells cur (ρ.t 5) fr2)) (h0 : l ≠ []) (hc : cap ≠ 0) (hn : o + l.length ≤ cur.size) (h63 : l.length ≤ 9223372036854775807) (hcell : ∀ j x, l[j]? = some x → w.cell? ((⟨g, o, none⟩ : Addr).add j) = some (.int .u8 x.toNat)) :
    Calls P (ρ.f 169) #[.pointer (some ⟨b, 0, none⟩)] w fun e w' => e = .returned (.string ⟨l.toArray⟩) ∧ w' = w.drew.freeze ⟨g, o, none⟩ l.length := by
  have c1 : w.drew.cell? ⟨b, 1, none⟩ = some (.slice (some ⟨g, o, none⟩) l.length cap) := by
    have : w.drew.heap[b]? = some (.cells #[p, .slice (some ⟨g, o, none⟩) l.length cap] (ρ.t 72) fr) := hbk
    rw [Lib.cell_of_heap this]; rfl
  have hSD : (Builtin.unsafeSliceData_ #[(ρ.t 37)] (ρ.t 127) #[.slice (some ⟨g, o, none⟩) l.length cap]).run P w.drew = .ok (.pointer (some ⟨g, o, none⟩)) w.drew :=
    Lib.run_unsafeSliceData_row _ _ _ _ _ _ hc
  have hUS : (Builtin.unsafeString_ #[(ρ.t 127), (ρ.t 3)] (ρ.t 9) #[.pointer (some ⟨g, o, none⟩), .int .i64 l.length]).run P w.drew = .ok (.string ⟨l.toArray⟩) (w.drew.freeze ⟨g, o, none⟩ l.length) := by
    refine uStr w.drew (ρ.t 127) (ρ.t 3) (ρ.t 9) (ρ.t 5) L.t127 X.cellsByte g o cur.size (by have hg' : w.drew.heap[g]? = some (.cells cur (ρ.t 5) fr2) := hg; simp [World.shape?, hg']) l h0 hn h63 ?_
    intro j x hx
    exact hcell j x hx
  have mixed := L.mixed
  have t72 := L.t72; have a72 := L.a72; have z72 := L.z72; have v72 := L.v72; have u72 := run_underlying L.t72
  have t70 := L.t70; have a70 := L.a70; have z70 := L.z70; have v70 := L.v70; have u70 := run_underlying L.t70
  have t37 := L.t37; have a37 := L.a37; have z37 := L.z37; have v37 := L.v37; have u37 := run_underlying L.t37
  have t127 := L.t127; have a127 := L.a127; have z127 := L.z127; have v127 := L.v127; have u127 := run_underlying L.t127
  have t3 := L.t3; have a3 := L.a3; have z3 := L.z3; have v3 := L.v3; have u3 := run_underlying L.t3
  have t9 := L.t9; have a9 := L.a9; have z9 := L.z9; have v9 := L.v9; have u9 := run_underlying L.t9
  have t5 := X.t5; have a5 := X.a5; have z5 := X.z5; have v5 := X.v5; have u5 := run_underlying X.t5
  go_enter L.f169, Body.n169_ntmps ρ
  go_wp2
  go_region_o
  all_goals (go_wp2; go_ret; exact ⟨rfl, rfl⟩)
set_option maxHeartbeats 2000000 in
theorem strNil {P : Program} {ρ : Go.Shelf.Ren} (L : Lays.n169 P ρ) (X : Builder.Extra P ρ) (b : Nat) (p : Value) (fr : Nat × Nat) (w : World) (hbk : w.heap[b]? = some (.cells #[p, .slice none 0 0] (ρ.t 72) fr)) :
    Calls P (ρ.f 169) #[.pointer (some ⟨b, 0, none⟩)] w fun e w' => e = .returned (.string ⟨#[]⟩) ∧ w' = w.drew := by
  have c1 : w.drew.cell? ⟨b, 1, none⟩ = some (.slice none 0 0) := by
    have : w.drew.heap[b]? = some (.cells #[p, .slice none 0 0] (ρ.t 72) fr) := hbk
    rw [Lib.cell_of_heap this]; rfl
  have hSD : (Builtin.unsafeSliceData_ #[(ρ.t 37)] (ρ.t 127) #[.slice none 0 0]).run P w.drew = .ok (.pointer none) w.drew := Lib.run_unsafeSliceData_nil _ _ _ _ _
  have hUS : (Builtin.unsafeString_ #[(ρ.t 127), (ρ.t 3)] (ρ.t 9) #[.pointer none, .int .i64 0]).run P w.drew = .ok (.string .empty) w.drew := Lib.run_unsafeString_none _ _ _ _ _
  have mixed := L.mixed
  have t72 := L.t72; have a72 := L.a72; have z72 := L.z72; have v72 := L.v72; have u72 := run_underlying L.t72
  have t70 := L.t70; have a70 := L.a70; have z70 := L.z70; have v70 := L.v70; have u70 := run_underlying L.t70
  have t37 := L.t37; have a37 := L.a37; have z37 := L.z37; have v37 := L.v37; have u37 := run_underlying L.t37
  have t127 := L.t127; have a127 := L.a127; have z127 := L.z127; have v127 := L.v127; have u127 := run_underlying L.t127
  have t3 := L.t3; have a3 := L.a3; have z3 := L.z3; have v3 := L.v3; have u3 := run_underlying L.t3
  have t9 := L.t9; have a9 := L.a9; have z9 := L.z9; have v9 := L.v9; have u9 := run_underlying L.t9
  have t5 := X.t5; have a5 := X.a5; have z5 := X.z5; have v5 := X.v5; have u5 := run_underlying X.t5
  go_enter L.f169, Body.n169_ntmps ρ
  go_wp2
  go_region_o
  all_goals (go_wp2; go_ret; exact ⟨rfl, rfl⟩)
end Go.Proofs.YtcglbpjpbjaecaaGreat.Sj
namespace Go.Proofs.YtcglbpjpbjaecaaGreat.Sh
open Go Go.Ab Go.RowKit
open Go.Proofs.YtcglbpjpbjaecaaGreat.Ru (Pg okP)
set_option maxRecDepth 100000
noncomputable def B123 : Code := (Tryz.f123.body).getD .skip
def R123 : List ResultVar := [.tmp 4, .tmp 5]
abbrev N123 : Nat := 19
def K123 : KT := (.seq .leaf (.seq .leaf (.seq .leaf (.seq .leaf .leaf [4, 5]) [1]) [0, 1]) [0, 1])
theorem S123 (Q : AEnd → AH → Prop) (a0 a1 : V) (h : AH) : vc Pg N123 B123 K123 (vcRet Pg R123 Q) (initEnv 0 [a0, a1]) h = (
  ACalls Pg 199 [a0] h (aEnd (fun v1 h2 =>
  bindV (aNil a0 h2) fun v3 h4 =>
  bindV (still (aFieldAddr Pg 233 v3 1) h4) fun v5 h6 =>
  bindV (aLoadV Pg h6 207 v5) fun v7 h8 =>
  bindV (aBuiltin Pg h8 .append [207, 9] [v7, a1]) fun v9 h10 =>
  bindV (aNil a0 h10) fun v11 h12 =>
  bindV (still (aFieldAddr Pg 233 v11 1) h12) fun v13 h14 =>
  bindV (aStoreV Pg h14 207 v13 v9) fun _ h16 =>
  bindV (aBuiltin Pg h16 .len [9] [a1]) fun v17 h18 =>
  Q (.ret (V.tup [v17, V.nilIfc])) h18) fun v h => Q (.panic v) h)) := by kernel_rfl
theorem C123 (Q : AEnd → AH → Prop) (a0 a1 : V) (h : AH) (c :
  ACalls Pg 199 [a0] h (aEnd (fun v1 h2 =>
  bindV (aNil a0 h2) fun v3 h4 =>
  bindV (still (aFieldAddr Pg 233 v3 1) h4) fun v5 h6 =>
  bindV (aLoadV Pg h6 207 v5) fun v7 h8 =>
  bindV (aBuiltin Pg h8 .append [207, 9] [v7, a1]) fun v9 h10 =>
  bindV (aNil a0 h10) fun v11 h12 =>
  bindV (still (aFieldAddr Pg 233 v11 1) h12) fun v13 h14 =>
  bindV (aStoreV Pg h14 207 v13 v9) fun _ h16 =>
  bindV (aBuiltin Pg h16 .len [9] [a1]) fun v17 h18 =>
  Q (.ret (V.tup [v17, V.nilIfc])) h18) fun v h => Q (.panic v) h)) : ACalls Pg 123 [a0, a1] h Q :=
  acalls_of_vc okP Tryz.func123 (show Tryz.f123.body = some B123 from by kernel_rfl) K123 (by rw [← S123 Q a0 a1 h] at c; exact c)
noncomputable def B124 : Code := (Tryz.f124.body).getD .skip
def R124 : List ResultVar := [.tmp 2]
abbrev N124 : Nat := 8
def K124 : KT := (.seq .leaf (.seq .leaf .leaf [2]) [0])
theorem S124 (Q : AEnd → AH → Prop) (a0 : V) (h : AH) : vc Pg N124 B124 K124 (vcRet Pg R124 Q) (initEnv 0 [a0]) h = (
  bindV (aNil a0 h) fun v1 h2 =>
  bindV (still (aFieldAddr Pg 233 v1 1) h2) fun v3 h4 =>
  bindV (aLoadV Pg h4 207 v3) fun v5 h6 =>
  bindV (aBuiltin Pg h6 .len [207] [v5]) fun v7 h8 =>
  Q (.ret v7) h8) := by kernel_rfl
theorem C124 (Q : AEnd → AH → Prop) (a0 : V) (h : AH) (c :
  bindV (aNil a0 h) fun v1 h2 =>
  bindV (still (aFieldAddr Pg 233 v1 1) h2) fun v3 h4 =>
  bindV (aLoadV Pg h4 207 v3) fun v5 h6 =>
  bindV (aBuiltin Pg h6 .len [207] [v5]) fun v7 h8 =>
  Q (.ret v7) h8) : ACalls Pg 124 [a0] h Q :=
  acalls_of_vc okP Tryz.func124 (show Tryz.f124.body = some B124 from by kernel_rfl) K124 (by rw [← S124 Q a0 h] at c; exact c)
/- NOT PRINTED 125 (*strings.Builder).String: [an operation that writes, of a region that draws] -/
/- NOT PRINTED 199 (*strings.Builder).copyCheck: [a kind of code that is not covered] -/
end Go.Proofs.YtcglbpjpbjaecaaGreat.Sh
namespace Go.Proofs.YtcglbpjpbjaecaaGreat.Sj
open Go Go.Ab Go.RowKit Go.Proofs
open Go.Proofs.YtcglbpjpbjaecaaGreat.Ru (Pg okP)
set_option maxRecDepth 100000
variable {B : Base} {ι : Names} {W : World} {h : AH}
theorem two_cells {ι : Names} {x y : V} {cs : List Value} (hx : ∀ l, x ≠ .agg l) (hy : ∀ l, y ≠ .agg l) (r : relC Pg ι (.agg [x, y]) cs) : ∃ a b, cs = [a, b] ∧ relC Pg ι x [a] ∧ relC Pg ι y [b] := by
  simp only [relC, relCs] at r
  obtain ⟨c1, c2, h1, ⟨c3, c4, h2, rfl, rfl⟩, rfl⟩ := r
  obtain ⟨a, rfl, _⟩ := relC_one hx h1
  obtain ⟨b, rfl, _⟩ := relC_one hy h2
  exact ⟨a, b, by simp, h1, h2⟩
theorem bld_obj {n : Nat} {x y : V} (F : Fits Pg B ι h W) (hm : h.m n = some (.cells true (.one 233) (.agg [x, y]))) (hx : ∀ l, x ≠ .agg l) (hy : ∀ l, y ≠ .agg l) :
    ∃ L a b fr, ι n = some L ∧ L.off = 0 ∧ L.size = 2 ∧ L.ty = .one 233 ∧ W.heap[L.blk]? = some (.cells #[a, b] 233 fr) ∧ relC Pg ι x [a] ∧ relC Pg ι y [b] ∧ unfrozen fr 2 := by
  obtain ⟨L, hL, k1, k2, a, b, c, elem, fr, k4, k5, k6, k7, k8⟩ := F.obj _ _ hm
  obtain ⟨q8, k9, k10, k11⟩ := (show unfrozen fr L.size ∧ elem = 233 ∧ L.off = 0 ∧ L.size = Pg.cellsOf 233 from k8 rfl)
  have hs : Pg.cellsOf 233 = 2 := by kernel_rfl
  have k11' : L.size = 2 := k11.trans hs
  obtain ⟨u, v, rfl, r1, r2⟩ := two_cells hx hy k7
  obtain rfl : a = [] := List.length_eq_zero_iff.1 (by omega)
  obtain rfl : c = [] := List.length_eq_zero_iff.1 (by simp at k6; omega)
  subst k9
  exact ⟨L, u, v, fr, hL, k10, k11', k1, by simpa using k4, r1, r2, by rw [k11, hs] at q8; exact q8⟩
theorem ptr_addr {n : Nat} {L : Go.Ab.Loc} {v : Value} (hL : ι n = some L) (h0 : L.off = 0) (ht : L.ty = .one 233) (r : rel Pg ι (.ptr (some ⟨n, .one 233, []⟩)) v) : v = .pointer (some ⟨L.blk, 0, none⟩) := itV_inv r rfl hL h0
def bp (n : Nat) : V := .ptr (some ⟨n, .one 233, []⟩)
theorem copyP (n : Nat) (y p : V) (hp : p = .ptr none ∨ p = bp n) (hy : ∀ l, y ≠ .agg l) (hm : h.m n = some (.cells true (.one 233) (.agg [p, y]))) :
    ACalls Pg 199 [bp n] h fun e h' => e = .ret (.tup []) ∧ h' = h.put n (.cells true (.one 233) (.agg [bp n, y])) := by
  intro B ι W vs F r
  obtain ⟨v0, vs0, h0, r0, rfl⟩ := relL_cons_iff.1 r
  simp only [relL] at r0
  subst r0
  have hpa : ∀ l, p ≠ .agg l := by rcases hp with rfl | rfl <;> intro l hh <;> cases hh
  obtain ⟨L, a, b, fr, hL, ho, hsz, hty, hb, ra, rb, hfr⟩ := bld_obj F hm hpa hy
  obtain rfl := ptr_addr hL ho hty h0
  have hnew : relC Pg ι (bp n) [.pointer (some ⟨L.blk, 0, none⟩)] := by
    simp only [bp, relC]
    exact ⟨_, ⟨L, 0, 233, hL, hty, rfl, by rw [ho]⟩, rfl⟩
  have hobj : objR Pg ι (World.putRow W L.blk [.pointer (some ⟨L.blk, 0, none⟩), b] 233 fr) L (.cells true (.one 233) (.agg [bp n, y])) := by
    obtain ⟨L2, hL2, _, hs2, _⟩ := F.obj _ _ hm
    rw [hL] at hL2; cases hL2
    refine ⟨hty, ?_, [], [.pointer (some ⟨L.blk, 0, none⟩), b], [], 233, fr, by rw [putRow_at (getBlk_lt hb)]; rfl, by rw [ho]; rfl, by rw [hsz]; rfl, ?_, fun _ => ⟨by rw [hsz]; exact hfr, rfl, ho, by rw [hsz]; kernel_rfl⟩⟩
    · have e1 : hasShape Pg (bp n) 231 = true := by kernel_rfl
      have u : ∃ z w : TypeId, (∀ v w : V, hasShape Pg (.agg [v, w]) 233 = (hasShape Pg v 231 && (hasShape Pg w 207 && true))) := ⟨0, 0, fun v w => by kernel_rfl⟩
      obtain ⟨_, _, u⟩ := u
      have hs3 : hasShape Pg (.agg [p, y]) 233 = true := hs2
      rw [u] at hs3
      show hasShape Pg (.agg [bp n, y]) 233 = true
      rw [u, e1]
      simp only [Bool.and_eq_true] at hs3 ⊢
      exact ⟨trivial, hs3.2⟩
    · simp only [relC, relCs]
      exact ⟨_, [b], hnew, ⟨[b], [], rb, rfl, rfl⟩, rfl⟩
  have Fput := F.store (v' := .agg [bp n, y]) hm hL hobj
  rcases hp with rfl | rfl
  · have ea : a = .pointer none := by simpa [relC] using ra
    subst ea
    have hc : W.cell? ⟨L.blk, 0, none⟩ = some (.pointer none) := by simp [World.cell?, hb]
    have hsh : W.shape? L.blk = some (233, 2) := by simp [World.shape?, hb]
    have hfz : W.frozen? ⟨L.blk, 0, none⟩ = false := by
      obtain ⟨lo, hi⟩ := fr
      have := hfr 0 (by omega)
      simp only at this
      simp only [World.frozen?, hb, Bool.and_eq_false_iff, decide_eq_false_iff_not]
      omega
    refine Calls.mono (Any.Builder_copyCheck_fresh joLay240 joX.toX72 L.blk W hc hsh hfz) ?_
    rintro e w' ⟨rfl, rfl⟩
    have ew : W.setCell ⟨L.blk, 0, none⟩ (.pointer (some ⟨L.blk, 0, none⟩)) = World.putRow W L.blk [.pointer (some ⟨L.blk, 0, none⟩), b] 233 fr := by
      simp only [World.setCell, World.putRow]
      congr 1
      apply Array.ext_getElem?
      intro k
      by_cases hk : k = L.blk
      · subst hk
        rw [Array.getElem?_modify, if_pos rfl, hb, Array.getElem?_setIfInBounds_self_of_lt (getBlk_lt hb)]
        rfl
      · rw [Array.getElem?_modify, if_neg (by omega), Array.getElem?_setIfInBounds_ne (by omega)]
    rw [ew]
    exact ⟨ι, _, .ret (.tup []), Names.le_refl _, Fput, .inr ⟨rfl, by simp only [relC, Value.cells]; exact ⟨[], by simp [relL], rfl⟩⟩, rfl, rfl⟩
  · have ea : a = .pointer (some ⟨L.blk, 0, none⟩) := by
      have e2 := itV_inv (a := ⟨n, .one 233, []⟩) (rel_leaf (by intro l hh; cases hh) ra) rfl hL ho
      exact e2
    subst ea
    have hc : W.cell? ⟨L.blk, 0, none⟩ = some (.pointer (some ⟨L.blk, 0, none⟩)) := by simp [World.cell?, hb]
    refine Calls.mono (Any.Builder_copyCheck_used joLay240 joX.toX72 L.blk W hc) ?_
    rintro e w' ⟨rfl, hw⟩
    have ew : World.putRow W L.blk [.pointer (some ⟨L.blk, 0, none⟩), b] 233 fr = W := putRow_self (by simpa using hb)
    rw [ew] at Fput
    rw [hw]
    exact ⟨ι, _, .ret (.tup []), Names.le_refl _, Fput, .inr ⟨rfl, by simp only [relC, Value.cells]; exact ⟨[], by simp [relL], rfl⟩⟩, rfl, rfl⟩
def Bld (h : AH) (n : Nat) (l : List UInt8) : Prop := n < h.next ∧ ∃ p y, (p = .ptr none ∨ p = bp n) ∧ h.m n = some (.cells true (.one 233) (.agg [p, y])) ∧ BufB 5 h y l ∧ ∀ len, y ≠ .slc (some (⟨n, .row 5, []⟩, 0)) len
theorem buf_na {h : AH} {y : V} {l : List UInt8} (b : BufB 5 h y l) : ∀ m, y ≠ .agg m := by
  intro m
  rcases b.shape with ⟨n, rfl⟩ | ⟨a, n, rfl⟩ <;> intro hh <;> cases hh
theorem s207 (a : Option (PA × Nat)) (n : Nat) : hasShape Pg (.slc a n) 207 = true := by kernel_rfl
theorem ap2079 : apOk Pg 207 9 5 = true := by kernel_rfl
theorem by5 : Pg.bytesOf 5 = 1 := by kernel_rfl
theorem elemsStr (h : AH) (s : List UInt8) : aElems Pg h 5 (.str s) = some (bytesV s) := by
  have hu : ul Pg 5 = some (.int .u8) := by kernel_rfl
  simp only [aElems, hu]
theorem writeP (n : Nat) (l s : List UInt8) (hs : s ≠ []) (hl : l.length + s.length ≤ 140737488355328) (b : Bld h n l) :
    ACalls Pg 123 [bp n, .str s] h fun e h' => e = .ret (.tup [.int .i64 s.length, .nilIfc]) ∧ Bld h' n (l ++ s) ∧ h.next ≤ h'.next ∧ (∀ k, k < h.next → k ≠ n → (∀ y p, h.m n = some (.cells true (.one 233) (.agg [p, y])) → ∀ len, y ≠ .slc (some (⟨k, .row 5, []⟩, 0)) len) → h'.m k = h.m k) ∧ ∀ y p, h'.m n = some (.cells true (.one 233) (.agg [p, y])) → ∀ k, k < h.next → ∀ len, y ≠ .slc (some (⟨k, .row 5, []⟩, 0)) len := by
  obtain ⟨hn, p, y, hp, hm, hb, hny⟩ := b
  refine Sh.C123 _ _ _ _ (callH (copyP n y p hp (buf_na hb) hm) ?_)
  obtain ⟨h1, u1⟩ : ∃ h1, h1 = h.put n (.cells true (.one 233) (.agg [bp n, y])) := ⟨_, rfl⟩
  rw [← u1]
  have U := upd_put h n (.cells true (.one 233) (.agg [bp n, y]))
  rw [← u1] at U
  refine bindV_mk rfl ?_
  refine bindS_mk (fa_mk (by kernel_rfl)) ?_
  refine bindV_mk (ld_mk U.at_ (by kernel_rfl) rfl) ?_
  have hb1 : BufB 5 h1 y l := by
    rcases hb with ⟨rfl, rfl⟩ | ⟨m, g1, rfl, g3⟩
    · exact .inl ⟨rfl, rfl⟩
    · refine .inr ⟨m, by rw [U.next]; exact g1, rfl, ?_⟩
      rw [U.other m (fun e => by subst e; exact hny _ rfl)]; exact g3
  obtain ⟨v, h2, e2, hb2, hn2, hk2⟩ := hb1.app ap2079 by5 (elemsStr h1 s) hs hl
  refine bindV_mk e2 ?_
  have hm2 : h2.m n = some (.cells true (.one 233) (.agg [bp n, y])) := by
    rw [hk2 n (by rw [U.next]; exact hn) (fun len => hny len)]; exact U.at_
  refine bindV_mk rfl ?_
  refine bindS_mk (fa_mk (by kernel_rfl)) ?_
  have hvs : hasShape Pg v 207 = true := by rcases hb2.shape with ⟨k, rfl⟩ | ⟨a, k, rfl⟩ <;> exact s207 _ _
  refine bindE (st_at hm2 (by kernel_rfl) rfl hvs rfl) fun h3 u3 => ?_
  refine bindV_mk (len_str (by kernel_rfl)) ?_
  have hvn : ∀ k, k < h1.next → ∀ len, v ≠ .slc (some (⟨k, .row 5, []⟩, 0)) len := by
    -- the new row's name lies ahead
    intro k hk len e
    subst e
    have hw' : bytesV s ≠ [] := by cases s <;> simp_all [bytesV]
    rcases hb1 with ⟨rfl, rfl⟩ | ⟨m, g1, rfl, g3⟩
    · obtain ⟨h', e1, u⟩ := apN_at (n := 0) ap2079 (elemsStr h1 s) hw' (by rw [by5, bytesV_len]; simp at hl; omega)
      rw [e1] at e2
      simp only [Option.some.injEq, Prod.mk.injEq, V.slc.injEq, PA.mk.injEq] at e2
      omega
    · obtain ⟨h', e1, u⟩ := apR_at (i := 0) (n := l.length) ap2079 g1 g3 (by rw [bytesV_len]; omega) (elemsStr h1 s) hw' (by rw [by5, bytesV_len]; omega)
      rw [e1] at e2
      simp only [Option.some.injEq, Prod.mk.injEq, V.slc.injEq, PA.mk.injEq] at e2
      omega
  refine ⟨rfl, ⟨by rw [u3.next]; have := U.next; omega, bp n, v, .inr rfl, u3.at_, ?_, fun len => hvn n (by rw [U.next]; exact hn) len⟩, by rw [u3.next]; have := U.next; omega, fun k hk hkn hky => ?_, fun y' p' hh k hk len e => by rw [u3.at_] at hh; cases hh; exact hvn k (by rw [U.next]; exact hk) len e⟩
  · rcases hb2 with ⟨rfl, q⟩ | ⟨m, g1, rfl, g3⟩
    · exact .inl ⟨rfl, q⟩
    · refine .inr ⟨m, by rw [u3.next]; exact g1, rfl, ?_⟩
      rw [u3.other m (fun e => by subst e; exact hvn _ (by rw [U.next]; exact hn) _ rfl)]; exact g3
  · rw [u3.other k hkn, hk2 k (by rw [U.next]; exact hk) (fun len => hky y p hm len), U.other k hkn]
theorem lenP (n : Nat) (l : List UInt8) (b : Bld h n l) : ACalls Pg 124 [bp n] h (pureE (.int .i64 l.length) h) := by
  obtain ⟨hn, p, y, hp, hm, hb, hny⟩ := b
  refine Sh.C124 _ _ _ ?_
  refine bindV_mk rfl ?_
  refine bindS_mk (fa_mk (by kernel_rfl)) ?_
  refine bindV_mk (ld_mk hm (by kernel_rfl) rfl) ?_
  rcases hb with ⟨rfl, rfl⟩ | ⟨m, g1, rfl, g3⟩
  · exact bindV_mk (len_slc (by kernel_rfl)) ⟨rfl, rfl⟩
  · exact bindV_mk (len_slc (by kernel_rfl)) ⟨rfl, rfl⟩
end Go.Proofs.YtcglbpjpbjaecaaGreat.Sj
namespace Go.Proofs.YtcglbpjpbjaecaaGreat.Sj
open Go Go.Ab Go.RowKit Go.Proofs
open Go.Proofs.YtcglbpjpbjaecaaGreat.Ru (Pg okP)
set_option maxRecDepth 100000
variable {h : AH}
theorem relCs_bytes' {ι : Names} : ∀ {l : List UInt8} {cs : List Value}, relCs Pg ι (bytesV l) cs → cs = l.map fun b => Value.int .u8 b.toNat
  | [], cs, h => by simpa only [bytesV, List.map_nil, relCs] using h
  | b :: l, cs, h => by
    have e : bytesV (b :: l) = .int .u8 b.toNat :: bytesV l := rfl
    rw [e] at h
    simp only [relCs, relC] at h
    obtain ⟨a, c, rfl, h2, rfl⟩ := h
    rw [relCs_bytes' h2]; rfl
theorem stringK (n m : Nat) (p : V) (l : List UInt8) (hl : l.length ≤ 140737488355328) (h0 : l ≠ []) (hp : p = .ptr none ∨ p = bp n)
    (hm : h.m n = some (.cells true (.one 233) (.agg [p, .slc (some (⟨m, .row 5, []⟩, 0)) l.length]))) (g3 : h.m m = some (.cells true (.row 5) (.agg (bytesV l)))) :
    ACalls Pg 125 [bp n] h (fun e h' => e = .ret (.str l) ∧ h' = h.kill m) := by
  have hpa : ∀ l, p ≠ .agg l := by rcases hp with rfl | rfl <;> intro l hh <;> cases hh
  intro B ι W vs F r
  obtain ⟨v0, vs0, q0, r0, rfl⟩ := relL_cons_iff.1 r
  simp only [relL] at r0
  subst r0
  obtain ⟨L, a, b, fr, hL, ho, hsz, hty, hbk, ra, rb, hfr⟩ := bld_obj F hm hpa (by intro l hh; cases hh)
  obtain rfl := ptr_addr hL ho hty q0
  have rb' : rel Pg ι (.slc (some (⟨m, .row 5, []⟩, 0)) l.length) b := rel_leaf (by intro l hh; cases hh) rb
  obtain ⟨x, cap, rfl, hcap, hrow⟩ := rel_slc rb'
  have hl0 : 0 < l.length := List.length_pos_iff.2 h0
  obtain ⟨L2, o, e, k1, k2, k3, k4, k5⟩ := hrow (by omega)
  obtain ⟨L3, j1, j2, j3, ca, cb, cc, elem, fr2, j4, j5, j6, j7, j8⟩ := F.obj _ _ g3
  rw [k1] at j1; cases j1
  have hro : Go.Ab.rowAt Pg (.row 5) [] = some (0, 5) := rfl
  rw [hro] at k3; cases k3
  have hcb : cb = l.map fun b => Value.int .u8 b.toNat := relCs_bytes' (by simpa only [relC] using j7)
  have hel : elem = 5 := (j8 rfl).2
  subst hel
  have hx : x = ⟨L2.blk, L2.off, none⟩ := by rw [k4]; simp
  subst hx
  have hcell : ∀ j x, l[j]? = some x → W.cell? ((⟨L2.blk, L2.off, none⟩ : Addr).add j) = some (.int .u8 x.toNat) := by
    intro j x hj
    rw [addr_add, ← j5]
    refine cell_in j4 j _ ?_
    rw [hcb, List.getElem?_map, hj]; rfl
  have key := strAt joLay169 joX L.blk L2.blk L2.off cap a (ca ++ cb ++ cc).toArray fr fr2 l W hbk j4 h0 (by omega) (by
    rw [hcb, ← j5]; simp) (by omega) hcell
  refine Calls.mono key ?_
  rintro e w' ⟨rfl, rfl⟩
  obtain ⟨fr3, hfr3⟩ : ∃ fr3, W.drew.freeze ⟨L2.blk, L2.off, none⟩ l.length = (World.putRow W L2.blk (ca ++ cb ++ cc) 5 fr3).drew := by
    obtain ⟨lo, hi⟩ := fr2
    refine ⟨if lo == hi then (L2.off, L2.off + l.length) else (min lo L2.off, max hi (L2.off + l.length)), ?_⟩
    simp only [World.freeze, World.drew, World.putRow, if_neg (show ¬ l.length = 0 by omega)]
    congr 1
    apply Array.ext_getElem?
    intro k
    by_cases hk : k = L2.blk
    · subst hk
      rw [Array.getElem?_modify, if_pos rfl, j4, Array.getElem?_setIfInBounds_self_of_lt (getBlk_lt j4)]
      rfl
    · rw [Array.getElem?_modify, if_neg (by omega), Array.getElem?_setIfInBounds_ne (by omega)]
  rw [hfr3]
  have Fk := F.letGo g3 rfl k1 (ca ++ cb ++ cc) 5 fr3
  exact ⟨ι, h.kill m, .ret (.str l), Names.le_refl _, Fk.drew _, .inr ⟨rfl, by simp only [relC, Value.cells]⟩, rfl, rfl⟩
theorem stringP (n : Nat) (l : List UInt8) (hl : l.length ≤ 140737488355328) (b : Bld h n l) (hne : l = [] → ∃ p, h.m n = some (.cells true (.one 233) (.agg [p, .slc none 0]))) :
    ∃ h2, ACalls Pg 125 [bp n] h (fun e h' => e = .ret (.str l) ∧ h' = h2) ∧ h2.next = h.next ∧ ∀ k, (∀ y p, h.m n = some (.cells true (.one 233) (.agg [p, y])) → ∀ len, y ≠ .slc (some (⟨k, .row 5, []⟩, 0)) len) → h2.m k = h.m k := by
  obtain ⟨hn, p, y, hp, hm, hb, hny⟩ := b
  have hpa : ∀ l, p ≠ .agg l := by rcases hp with rfl | rfl <;> intro l hh <;> cases hh
  by_cases h0 : l = []
  · obtain ⟨p', hm'⟩ := hne h0
    rw [hm] at hm'
    simp only [Option.some.injEq, AO.cells.injEq, V.agg.injEq, List.cons.injEq, and_true, true_and] at hm'
    obtain ⟨_, rfl⟩ := hm'
    subst h0
    refine ⟨h, ?_, rfl, fun k _ => rfl⟩
    intro B ι W vs F r
    obtain ⟨v0, vs0, q0, r0, rfl⟩ := relL_cons_iff.1 r
    simp only [relL] at r0
    subst r0
    obtain ⟨L, a, b, fr, hL, ho, hsz, hty, hbk, ra, rb, hfr⟩ := bld_obj F hm hpa (by intro l hh; cases hh)
    obtain rfl := ptr_addr hL ho hty q0
    have eb : b = .slice none 0 0 := by
      have : 0 = 0 ∧ [b] = [Value.slice none 0 0] := by simpa only [relC] using rb
      simpa using this.2
    subst eb
    refine Calls.mono (strNil joLay169 joX L.blk a fr W hbk) ?_
    rintro e w' ⟨rfl, rfl⟩
    exact ⟨ι, h, .ret (.str []), Names.le_refl _, F.drew _, .inr ⟨rfl, by simp only [relC, Value.cells]⟩, rfl, rfl⟩
  · rcases hb with ⟨rfl, rfl⟩ | ⟨m, g1, rfl, g3⟩
    · exact absurd rfl h0
    refine ⟨h.kill m, stringK n m p l hl h0 hp hm g3, rfl, fun k hk => by rw [kill_m, if_neg (fun e => by subst e; exact hk _ _ hm _ rfl)]⟩
end Go.Proofs.YtcglbpjpbjaecaaGreat.Sj
namespace Go.Proofs.YtcglbpjpbjaecaaGreat.Sj
open Go Go.Ab Go.RowKit Go.Proofs
open Go.Proofs.YtcglbpjpbjaecaaGreat.Ru (Pg okP)
set_option maxRecDepth 100000
variable {h : AH}
structure BldF (h : AH) (n : Nat) (l : List UInt8) (b0 : Nat) : Prop where
  bld : Bld h n l
  young : ∀ y p, h.m n = some (.cells true (.one 233) (.agg [p, y])) → ∀ k, k < b0 → ∀ len, y ≠ .slc (some (⟨k, .row 5, []⟩, 0)) len
  none : l = [] → ∃ p, h.m n = some (.cells true (.one 233) (.agg [p, .slc none 0]))
theorem bldF_new {n b0 : Nat} (hn : n < h.next) (hm : h.m n = some (.cells true (.one 233) (.agg [.ptr none, .slc none 0]))) : BldF h n [] b0 :=
  ⟨⟨hn, _, _, .inl rfl, hm, .inl ⟨rfl, rfl⟩, fun len e => by cases e⟩, (fun y p hh k hk len e => by rw [hm] at hh; cases hh; cases e), fun _ => ⟨_, hm⟩⟩
theorem BldF.keep {h' : AH} {n b0 : Nat} {l : List UInt8} (b : BldF h n l b0) (hn : h.next ≤ h'.next) (hk : ∀ k, k < h.next → h'.m k = h.m k) : BldF h' n l b0 := by
  obtain ⟨⟨h1, p, y, h2, h3, h4, h5⟩, y1, z1⟩ := b
  have e := hk n h1
  exact ⟨⟨by omega, p, y, h2, e.trans h3, h4.keep hn hk, h5⟩, fun y p hh => y1 y p (e ▸ hh), fun hl => by obtain ⟨p, hp⟩ := z1 hl; exact ⟨p, e.trans hp⟩⟩
theorem writeF (n b0 : Nat) (l s : List UInt8) (hs : s ≠ []) (hl : l.length + s.length ≤ 140737488355328) (b : BldF h n l b0) (hb0 : b0 ≤ n) :
    ACalls Pg 123 [bp n, .str s] h fun e h' => e = .ret (.tup [.int .i64 s.length, .nilIfc]) ∧ (BldF h' n (l ++ s) b0 ∧ h.next ≤ h'.next ∧ ∀ k, k < b0 → h'.m k = h.m k) := by
  have hn := b.bld.1
  refine (writeP n l s hs hl b.bld).mono fun e h' q => ?_
  obtain ⟨q1, q2, q3, q4, q5⟩ := q
  refine ⟨q1, ⟨q2, fun y p hh k hk => q5 y p hh k (by omega), fun e => absurd (List.append_eq_nil_iff.1 e).2 hs⟩, q3, fun k hk => q4 k (by omega) (by omega) fun y p hh => b.young y p hh k hk⟩
theorem stringF (n b0 : Nat) (l : List UInt8) (hl : l.length ≤ 140737488355328) (b : BldF h n l b0) :
    ACalls Pg 125 [bp n] h fun e h' => e = .ret (.str l) ∧ (h'.next = h.next ∧ ∀ k, k < b0 → h'.m k = h.m k) := by
  obtain ⟨h2, c, e1, e2⟩ := stringP n l hl b.bld b.none
  exact c.mono fun e h' q => ⟨q.1, by rw [q.2]; exact ⟨e1, fun k hk => e2 k fun y p hh => b.young y p hh k hk⟩⟩
end Go.Proofs.YtcglbpjpbjaecaaGreat.Sj
namespace Go.Proofs.YtcglbpjpbjaecaaGreat.Sh
open Go Go.Ab Go.RowKit
open Go.Proofs.YtcglbpjpbjaecaaGreat.Ru (Pg okP)
set_option maxRecDepth 10000
def EvsAt (h : AH) (xs : List V) (l : List Ev) : Prop := xs.length = l.length ∧ ∀ (i : Nat) (e : Ev), l[i]? = some e → ∃ k, xs[i]? = some (evV e k) ∧ KeepB h k e.keep
theorem EvsAt.keep {h h' : AH} {xs : List V} {l : List Ev} (b : EvsAt h xs l) (hn : h.next ≤ h'.next) (hk : ∀ n, n < h.next → h'.m n = h.m n) : EvsAt h' xs l :=
  ⟨b.1, fun i e he => let ⟨k, h1, h2⟩ := b.2 i e he; ⟨k, h1, h2.keep hn hk⟩⟩
def ScrB (h : AH) (x : V) (l : List Ev) : Prop :=
  (x = .slc none 0 ∧ l = []) ∨ ∃ n xs, n < h.next ∧ x = .slc (some (⟨n, .row 73, []⟩, 0)) l.length ∧ h.m n = some (.cells true (.row 73) (.agg xs)) ∧ EvsAt h xs l
theorem ScrB.keep {h h' : AH} {x : V} {l : List Ev} (b : ScrB h x l) (hn : h.next ≤ h'.next) (hk : ∀ n, n < h.next → h'.m n = h.m n) : ScrB h' x l := by
  rcases b with ⟨rfl, rfl⟩ | ⟨n, xs, h1, rfl, h3, h4⟩
  · exact .inl ⟨rfl, rfl⟩
  · exact .inr ⟨n, xs, by omega, rfl, (hk n h1).trans h3, h4.keep hn hk⟩
theorem ScrB.shape {h : AH} {x : V} {l : List Ev} (b : ScrB h x l) : ∃ a, x = .slc a l.length := by
  rcases b with ⟨rfl, rfl⟩ | ⟨n, xs, h1, rfl, h3, h4⟩ <;> exact ⟨_, rfl⟩
theorem ScrB.at {h : AH} {x : V} {l : List Ev} (b : ScrB h x l) {i : Nat} {e : Ev} (he : l[i]? = some e) :
    ∃ n xs k, n < h.next ∧ x = .slc (some (⟨n, .row 73, []⟩, 0)) l.length ∧ h.m n = some (.cells true (.row 73) (.agg xs)) ∧ xs[i]? = some (evV e k) ∧ KeepB h k e.keep := by
  rcases b with ⟨_, rfl⟩ | ⟨n, xs, h1, h2, h3, h4⟩
  · cases he
  · obtain ⟨k, k1, k2⟩ := h4.2 i e he
    exact ⟨n, xs, k, h1, h2, h3, k1, k2⟩
def printL : List Ev → List UInt8 → List UInt8 × Int
  | [], out => (out, 0)
  | e :: l, out => if e.fine then (if 131072 < out.length + (e.txt.length + 1) then ([], 10) else printL l (out ++ (e.txt ++ [10]))) else ([], 1)
def printF (l : List Ev) : List UInt8 × Int := if 2000 < l.length then ([], 10) else printL l []
def prV (x : List UInt8 × Int) : V := .tup [.str x.1, .int .i64 x.2]
theorem bitsT_len (l : List Bool) : (bitsT l).length = l.length := by simp [bitsT]
theorem txt_len {e : Ev} (ok : e.ok) (h : e.fine) : e.txt.length ≤ 3000 := by
  have k1 := ok.kind; have k2 := ok.a; have k5 := ok.txn; have k6 := ok.page; have k7 := ok.off
  unfold Ev.fine at h
  have l1 := name_len e.ck; have l2 := dec_len20 (n := e.a.toNat) (by omega); have l3 := dec_len20 (n := e.txn) (by omega); have l4 := dec_len20 (n := e.page) (by omega); have l5 := dec_len20 (n := e.off.toNat) (by omega); have l6 := hexS_len e.s
  have l7 := kindName_len e.kind
  have l8 := bitsT_len e.keep
  unfold Ev.txt
  split
  · split <;> split <;> split <;> simp only [List.length_append, List.length_cons, List.length_nil] <;> omega
  · split
    · split <;> simp only [List.length_append, List.length_cons, List.length_nil] <;> omega
    · simp only [List.length_append, List.length_cons, List.length_nil]; omega
end Go.Proofs.YtcglbpjpbjaecaaGreat.Sh
namespace Go.Ab
open Go
def floB (h : AH) (r : Option (AO × (Nat → V))) (K : V → AH → Prop) : Prop :=
  match r with
  | some (ob, mk) => (∀ n o, h.m n = some o → o.isOwn = true) ∧ K (mk h.next) (h.make ob)
  | none => False
theorem flo_mk {P : Program} {h : AH} {t : TypeId} {z : V} {K : V → AH → Prop} (hz : zeroV P t = some z) (hs : hasShape P z t = true) (ho : oldV (fun _ => false) z = true) (hown : ∀ n o, h.m n = some o → o.isOwn = true)
    (k : K (.ptr (some ⟨h.next, .one t, []⟩)) (h.make (.cells true (.one t) z))) : floB h (floOp P (fun _ => .und) (.alloc t)) K := by
  simp only [floB, floOp, hz, hs, ho, Bool.and_self, if_true]
  exact ⟨hown, k⟩
end Go.Ab
