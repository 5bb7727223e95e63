import Derived.Test.YtdhlolcpcgpcnaaSi
set_option linter.unusedVariables false
set_option linter.unusedSimpArgs false
namespace Go.Proofs.Ytdhlolcpcgpcnaa.Sh
open Go Go.Ab Go.RowKit Go.Gr
set_option linter.unusedSimpArgs false
set_option linter.unusedVariables false
set_option maxRecDepth 10000
theorem bnot_false : (!true) = false := rfl
theorem neq51 (r s : Rc) (hr : r.im.length = 224) (hs : s.im.length = 224) (c : Bool) : aBin Pg .neq 51 r.v s.v c = some (.bool (!decide (r = s))) := by
  have h1 : aBin Pg .neq 51 r.v s.v c = if eqOk Pg 51 r.v s.v c = true then (aEq Pg 51 r.v s.v).map (fun b => .bool (!b)) else none := rfl
  have h2 : eqOk Pg 51 r.v s.v c = true := by kernel_rfl
  rw [h1, h2, if_pos rfl]
  unfold aEq
  rw [pl51, if_pos rfl, shR r hr, shR s hs, beq_rec r s (by rw [hr, hs])]
  rfl
abbrev qT : AEnd → AH → Prop := fun e _ => e = .ret (.bool true)
theorem z0im : (Rc.z 0).im.length = 224 := List.length_replicate ..
/-- What bytes are read as, written again. -/
theorem again13 (s : List UInt8) (hs : s.length < 140737488355328) (h : AH) : J13_111 qT (.str s) h := by
  have d := decP s hs h
  rw [J13_111_eq]
  cases hp : parse s with
  | none =>
    rw [hp] at d
    have z := z0im
    refine call_mk (fun _ => d _) ?_
    refine bindS_mk (show aExtract _ _ = some _ from rfl) ?_
    refine bindS_mk (show aExtract _ _ = some _ from rfl) ?_
    refine bindV_mk (al_mk zero51 (shRz 0)) ?_
    refine bindV_mk (st_mk (by rw [make_m, if_pos rfl]) (by kernel_rfl) (by with_unfolding_all exact rfl) (shR _ (by first | assumption | exact List.length_replicate ..)) (by with_unfolding_all exact rfl)) ?_
    refine bindS_mk (b_neq_t (by omega)) ?_
    refine i_t ?_
    refine bindV_mk (ld_mk put_at (by kernel_rfl) (by with_unfolding_all exact rfl)) ?_
    refine bindS_mk (build51z) ?_
    refine bindS_mk (eq51 (Rc.z 0) (Rc.z 0) z z _) ?_
    rw [decide_eq_true rfl]
    refine g_tt ?_
    refine call_mk (awakeR _) ?_
    refine Meet.of (cast_p (G13_111101001002_eq _ _ _ _) ?_)
    refine bindV_mk p_t ?_
    refine Meet.of (cast_p (J13_11110101_eq _ _ _) ?_)
    rfl
  | some r =>
    rw [hp] at d
    obtain ⟨o, m, e⟩ := parse_sound s r hp
    have hi := o.im
    refine call_mk (fun _ => d _) ?_
    refine bindS_mk (show aExtract _ _ = some _ from rfl) ?_
    refine bindS_mk (show aExtract _ _ = some _ from rfl) ?_
    refine bindV_mk (al_mk zero51 (shRz 0)) ?_
    refine bindV_mk (st_mk (by rw [make_m, if_pos rfl]) (by kernel_rfl) (by with_unfolding_all exact rfl) (shR _ (by first | assumption | exact List.length_replicate ..)) (by with_unfolding_all exact rfl)) ?_
    refine bindS_mk (b_neq_f (by omega)) ?_
    refine i_f ?_
    refine Meet.of (cast_p (J13_11111_eq _ _ _ _) ?_)
    refine bindV_mk (ld_mk put_at (by kernel_rfl) (by with_unfolding_all exact rfl)) ?_
    refine call_mk (encP1 r o m _) ?_
    refine bindS_mk (show aExtract _ _ = some _ from rfl) ?_
    refine bindS_mk (show aExtract _ _ = some _ from rfl) ?_
    refine bindS_mk (b_eql_t (by omega)) ?_
    refine g_tt ?_
    refine bindS_mk (t_eql_t e) ?_
    refine Meet.of (cast_p (G13_11111101002_eq _ _ _ _ _) ?_)
    refine bindV_mk p_t ?_
    refine g_tt ?_
    refine bindV_mk (ld_mk put_at (by kernel_rfl) (by with_unfolding_all exact rfl)) ?_
    refine call_mk (mayP r hi _) ?_
    rw [m]
    refine Meet.of (cast_p (G13_11111101004_eq _ _ _ _) ?_)
    refine bindV_mk p_t ?_
    refine g_tt ?_
    refine call_mk (awakeR _) ?_
    refine Meet.of (cast_p (G13_11111101006_eq _ _ _ _) ?_)
    refine bindV_mk p_t ?_
    refine Meet.of (cast_p (J13_1111111_eq _ _ _) ?_)
    rfl
theorem backLaw (r : Rc) (o : r.ok) (s : List UInt8) (hs : s.length < 140737488355328) : ACalls Pg 13 [r.v, .str s] AH0 qT := by
  refine C13 _ r.v (.str s) AH0 ?_
  have hi := o.im
  refine bindV_mk (new_mk (shR _ hi)) ?_
  refine bindV_mk (ld_mk (by with_unfolding_all exact rfl) (by kernel_rfl) (by with_unfolding_all exact rfl)) ?_
  cases m : r.may with
  | false =>
    refine call_mk (encP0 r o m _) ?_
    refine bindS_mk (show aExtract _ _ = some _ from rfl) ?_
    refine bindS_mk (show aExtract _ _ = some _ from rfl) ?_
    refine bindS_mk (b_eql_f (by omega)) ?_
    refine i_f ?_
    exact Meet.of (again13 s hs _)
  | true =>
    obtain ⟨l1, l4⟩ := enc_len r o m
    have d := fun h => decP r.enc (by omega) h
    rw [parse_complete r o m] at d
    refine call_mk (encP1 r o m _) ?_
    refine bindS_mk (show aExtract _ _ = some _ from rfl) ?_
    refine bindS_mk (show aExtract _ _ = some _ from rfl) ?_
    refine bindS_mk (b_eql_t (by omega)) ?_
    refine i_t ?_
    refine call_mk (d _) ?_
    refine bindS_mk (show aExtract _ _ = some _ from rfl) ?_
    refine bindS_mk (show aExtract _ _ = some _ from rfl) ?_
    refine bindV_mk (al_mk zero51 (shRz 0)) ?_
    refine bindV_mk (st_mk (by rw [make_m, if_pos rfl]) (by kernel_rfl) (by with_unfolding_all exact rfl) (shR _ (by first | assumption | exact List.length_replicate ..)) (by with_unfolding_all exact rfl)) ?_
    refine bindSO_mk (b_neq_f (by omega)) ?_
    refine g_ff ?_
    refine bindVO_mk (ld_mk put_at (by kernel_rfl) (by with_unfolding_all exact rfl)) ?_
    refine bindVO_mk (ld_mk (by with_unfolding_all exact rfl) (by kernel_rfl) (by with_unfolding_all exact rfl)) ?_
    refine bindSO_mk (neq51 r r hi hi _) ?_
    rw [decide_eq_true rfl, bnot_false]
    refine Meet.of (cast_p (G13_11010101002_eq _ _ _ _ _ _ _) ?_)
    refine bindVO_mk (p_f) ?_
    refine g_ff ?_
    refine bindVO_mk (len_str (by kernel_rfl)) ?_
    refine bindSO_mk (b_gtr_f (by omega)) ?_
    refine Meet.of (cast_p (G13_11010101004_eq _ _ _ _ _ _ _) ?_)
    refine bindVO_mk (p_f) ?_
    refine g_ff ?_
    refine bindVO_mk (len_str (by kernel_rfl)) ?_
    refine bindSO_mk (b_lss_f (by omega)) ?_
    refine Meet.of (cast_p (G13_11010101006_eq _ _ _ _ _ _ _) ?_)
    refine bindVO_mk (p_f) ?_
    refine g_ff ?_
    refine bindSO_mk (ix_str (i := 0) str9 (by omega)) ?_
    refine bindSO_mk (fa_mk (by kernel_rfl)) ?_
    refine bindVO_mk (ld_mk (by with_unfolding_all exact rfl) (by kernel_rfl) (by with_unfolding_all exact rfl)) ?_
    have ek : ((r.enc.getD 0 0).toNat : Int) = r.k := by rw [enc_0, c1_nat o.k]; have := o.k; omega
    rw [ek]
    refine bindSO_mk (b_neq_f rfl) ?_
    refine Meet.of (cast_p (G13_11010101008_eq _ _ _ _ _) ?_)
    refine bindVO_mk (p_f) ?_
    refine Meet.of (cast_p (J13_1101011_eq _ _ _ _) ?_)
    refine i_f ?_
    exact Meet.of (again13 s hs _)
end Go.Proofs.Ytdhlolcpcgpcnaa.Sh
namespace Go.Proofs.Ytdhlolcpcgpcnaa.Sh
open Go Go.Ab Go.RowKit Go.Gr
set_option linter.unusedSimpArgs false
set_option linter.unusedVariables false
set_option maxRecDepth 10000
theorem cutNo (n : Int) (l : Nat) (hl : 1 ≤ l) (hu : l ≤ 400) : ∃ k : Nat, k < l ∧ IntKind.i64.wrap ((IntKind.u64.wrap n).tmod (IntKind.u64.wrap ((l : Nat) : Int))) = (k : Int) := by
  rw [w64 (x := ((l : Nat) : Int)) (by omega) (by omega)]
  have h0 : 0 ≤ IntKind.u64.wrap n := by rw [wrap_u64]; omega
  have e : (IntKind.u64.wrap n).tmod ((l : Nat) : Int) = IntKind.u64.wrap n % ((l : Nat) : Int) := Int.tmod_eq_emod_of_nonneg h0
  rw [e]
  have h1 := Int.emod_nonneg (IntKind.u64.wrap n) (show ((l : Nat) : Int) ≠ 0 by omega)
  have h2 := Int.emod_lt_of_pos (IntKind.u64.wrap n) (show (0 : Int) < ((l : Nat) : Int) by omega)
  refine ⟨(IntKind.u64.wrap n % ((l : Nat) : Int)).toNat, by omega, ?_⟩
  rw [wi64 (by omega) (by omega)]
  omega
theorem cutLaw (r : Rc) (o : r.ok) (n : Int) (u : List UInt8) (hu : u.length ≤ 140737488351232) : ACalls Pg 14 [r.v, .int .i64 n, .str u] AH0 qT := by
  refine C14 _ r.v (.int .i64 n) (.str u) AH0 ?_
  have hi := o.im
  refine bindV_mk (new_mk (shR _ hi)) ?_
  refine bindV_mk (ld_mk (by with_unfolding_all exact rfl) (by kernel_rfl) (by with_unfolding_all exact rfl)) ?_
  cases m : r.may with
  | false =>
    refine call_mk (encP0 r o m _) ?_
    refine bindS_mk (show aExtract _ _ = some _ from rfl) ?_
    refine bindS_mk (show aExtract _ _ = some _ from rfl) ?_
    refine bindS_mk (b_neq_t (by omega)) ?_
    refine i_t ?_
    refine bindS_mk (t_eql_t rfl) ?_
    refine g_tt ?_
    refine call_mk (awakeR _) ?_
    refine Meet.of (cast_p (G14_1101001002_eq _ _ _ _) ?_)
    refine bindV_mk p_t ?_
    refine Meet.of (cast_p (J14_110101_eq _ _ _) ?_)
    rfl
  | true =>
    obtain ⟨l1, l4⟩ := enc_len r o m
    obtain ⟨k, hk, ek⟩ := cutNo n r.enc.length l1 l4
    have d1 := fun h => decP (r.enc.take k) (by simp; omega) h
    rw [parse_less r o m k hk] at d1
    have d2 := fun h => decP (r.enc ++ u) (by simp; omega) h
    rw [parse_more r o m u] at d2
    have hne : ((r.enc == []) : Bool) = false := by
      cases e : r.enc with
      | nil => rw [e] at l1; simp at l1
      | cons a t => rfl
    have z := z0im
    refine call_mk (encP1 r o m _) ?_
    refine bindS_mk (show aExtract _ _ = some _ from rfl) ?_
    refine bindS_mk (show aExtract _ _ = some _ from rfl) ?_
    refine bindS_mk (b_neq_f (by omega)) ?_
    refine i_f ?_
    refine Meet.of (cast_p (J14_111_eq _ _ _ _ _) ?_)
    refine bindS_mk (t_eql) ?_
    rw [hne]
    refine i_f ?_
    refine Meet.of (cast_p (J14_1111_eq _ _ _ _ _) ?_)
    refine bindS_mk (cv_int (d := 65) .u64 (by kernel_rfl)) ?_
    refine bindV_mk (len_str (by kernel_rfl)) ?_
    refine bindS_mk (cv_int (d := 65) .u64 (by kernel_rfl)) ?_
    refine bindS_mk (b_rem (by rw [w64 (x := ((r.enc.length : Nat) : Int)) (by omega) (by omega)]; omega)) ?_
    refine bindS_mk (cv_int (d := 3) .i64 (by kernel_rfl)) ?_
    rw [ek]
    refine bindS_mk (sl_hi _ _ _ (by omega)) ?_
    refine call_mk (d1 _) ?_
    refine bindS_mk (show aExtract _ _ = some _ from rfl) ?_
    refine bindS_mk (show aExtract _ _ = some _ from rfl) ?_
    refine bindV_mk (al_mk zero51 (shRz 0)) ?_
    refine bindV_mk (st_mk (by rw [make_m, if_pos rfl]) (by kernel_rfl) (by with_unfolding_all exact rfl) (shR _ (by first | assumption | exact List.length_replicate ..)) (by with_unfolding_all exact rfl)) ?_
    refine bindS_mk (t_add (by omega)) ?_
    refine call_mk (d2 _) ?_
    by_cases hu0 : u = []
    · subst hu0
      rw [if_pos rfl]
      refine bindS_mk (show aExtract _ _ = some _ from rfl) ?_
      refine bindS_mk (show aExtract _ _ = some _ from rfl) ?_
      refine bindV_mk (al_mk zero51 (shRz 0)) ?_
      refine bindV_mk (st_mk (by rw [make_m, if_pos rfl]) (by kernel_rfl) (by with_unfolding_all exact rfl) (shR _ (by first | assumption | exact List.length_replicate ..)) (by with_unfolding_all exact rfl)) ?_
      refine bindS_mk (b_eql_t (by omega)) ?_
      refine g_tt ?_
      refine bindS_mk (b_eql_t (by omega)) ?_
      refine bindS_mk (t_eql_t rfl) ?_
      refine bindS_mk (eqB) ?_
      rw [beq_self_eq_true]
      refine Meet.of (cast_p (G14_111111101002_eq _ _ _ _) ?_)
      refine bindV_mk p_t ?_
      refine g_tt ?_
      refine call_mk (awakeR _) ?_
      refine Meet.of (cast_p (G14_111111101004_eq _ _ _ _) ?_)
      refine bindV_mk p_t ?_
      refine Meet.of (cast_p (J14_11111111_eq _ _ _) ?_)
      rfl
    · rw [if_neg hu0]
      have hne2 : ((u == []) : Bool) = false := by
        cases u with
        | nil => exact absurd rfl hu0
        | cons a t => rfl
      refine bindS_mk (show aExtract _ _ = some _ from rfl) ?_
      refine bindS_mk (show aExtract _ _ = some _ from rfl) ?_
      refine bindV_mk (al_mk zero51 (shRz 0)) ?_
      refine bindV_mk (st_mk (by rw [make_m, if_pos rfl]) (by kernel_rfl) (by with_unfolding_all exact rfl) (shR _ (by first | assumption | exact List.length_replicate ..)) (by with_unfolding_all exact rfl)) ?_
      refine bindS_mk (b_eql_t (by omega)) ?_
      refine g_tt ?_
      refine bindS_mk (b_eql_f (by omega)) ?_
      refine bindS_mk (t_eql) ?_
      rw [hne2]
      refine bindS_mk (eqB) ?_
      rw [beq_self_eq_true]
      refine Meet.of (cast_p (G14_111111101002_eq _ _ _ _) ?_)
      refine bindV_mk p_t ?_
      refine g_tt ?_
      refine call_mk (awakeR _) ?_
      refine Meet.of (cast_p (G14_111111101004_eq _ _ _ _) ?_)
      refine bindV_mk p_t ?_
      refine Meet.of (cast_p (J14_11111111_eq _ _ _) ?_)
      rfl
end Go.Proofs.Ytdhlolcpcgpcnaa.Sh
