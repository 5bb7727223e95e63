import Derived.Test.YtcglbpjpbjaecaaGreatFC
import Derived.Test.YtcglbpjpbjaecaaGreatFH
import Derived.Test.YtcglbpjpbjaecaaGreatCaD
import Derived.Test.YtcglbpjpbjaecaaGreatCfA
import Derived.Test.YtcglbpjpbjaecaaGreatCfG
import Derived.Test.YtcglbpjpbjaecaaGreatCfE
import Derived.Test.YtcglbpjpbjaecaaGreatCfD
import Derived.Test.YtcglbpjpbjaecaaGreatAbG
set_option linter.unusedVariables false
set_option linter.unusedSimpArgs false
namespace Go.Proofs.YtcglbpjpbjaecaaGreat.Sh
open Go Go.Ab Go.RowKit
open Go.Proofs.YtcglbpjpbjaecaaGreat.Ru
set_option maxRecDepth 100000
set_option linter.unusedVariables false
theorem hdOk : HdOk Pg hd := by
  intro f args v hv
  unfold hd at hv
  split at hv
  · rename_i hf
    obtain rfl := Nat.eq_of_beq_eq_true hf
    split at hv
    · rename_i n s
      obtain ⟨hc, hv⟩ := bif_some hv
      rw [Bool.and_eq_true, Nat.blt_eq, Nat.blt_eq] at hc
      cases hv
      exact ⟨by kernel_rfl, fun h => moreP n hc.1 s hc.2 h⟩
    · cases hv
  · cases hv
theorem awakeP (h : AH) : ACalls Pg 18 [] h (pureE (.bool true) h) := by
  have c := (Camok7 hdOk).call
  have e : (Cam7).H.ah = AH0 := by
    show HT.ah ⟨0, 0, Cat0⟩ = AH0
    rw [show Cat0 = .nil by kernel_rfl]
    exact HT0_ah
  rw [e] at c
  exact pure_lift rfl rfl (c.mono fun e _ q => q.1) h
theorem call_at {f : FuncId} {args : List V} {v : V} {h h1 : AH} {K X : V → AH → Prop} (c : ACalls Pg f args h fun e h' => e = .ret v ∧ h' = h1) (k : K v h1) : ACalls Pg f args h (aEnd K X) :=
  c.mono fun e h' q => by obtain ⟨rfl, rfl⟩ := q; exact k
theorem call_pure {f : FuncId} {args : List V} {v : V} {h : AH} {K X : V → AH → Prop} (c : ACalls Pg f args h (pureE v h)) (k : K v h) : ACalls Pg f args h (aEnd K X) :=
  c.mono fun e h' q => by
    cases e with
    | ret u => obtain ⟨rfl, rfl⟩ := q; exact k
    | panic _ => exact q.elim
theorem make_ah (H : HT) (o : AO) (t : T8 AO) (lo : Nat) (n : Nat) (hn : n = H.next + 1) (he : (H.make o fun _ H => H.tr) = t) (ho : o.isOwn = true) : H.ah.make o = HT.ah ⟨lo, n, t⟩ := by
  obtain ⟨H', h1, h2, _⟩ := H.make_spec o ho
  have e1 := h1 (T8 AO) fun _ H => H.tr
  have e2 : (H.make o fun _ H => H.next) = H'.next := h1 Nat fun _ H => H.next
  have e3 : (H.make o fun _ H => H.next) = H.next + 1 := by
    obtain ⟨a, b, c⟩ := H
    exact (fNat_eq (b + 1) _).trans (by
      obtain ⟨t', k1, _, _⟩ := T8.upd_spec (some o) (path b) c
      exact k1 _ _)
  rw [← h2]
  obtain ⟨a, b, c⟩ := H'
  unfold HT.ah
  have e1 : c = t := e1.symm.trans he
  have e4 : b = n := by rw [hn]; exact (e2.symm.trans e3)
  rw [e1, e4]
def bV : V := .ptr (some ⟨104, .one 137, []⟩)
def rmV : V := .ptr (some ⟨103, .one 140, []⟩)
noncomputable abbrev A7 (k m : Nat) (r : V) : AH := HT.ah ⟨3, 248, Cft7 k m r⟩
theorem root7 (k m : Nat) (r : V) : (A7 k m r).m 0 = some (.cells true (.one 24) r) := by kernel_rfl
/-- The law up to Free. -/
theorem head3 (k m : Nat) (r : V) (hr : hasShape Pg r 24 = true) (q : AEnd → AH → Prop) (c : ACalls Pg 15 [bV, r] (A7 k m r) (aEnd (fun v15 h16 =>
  ACalls Pg 16 [bV] h16 (aEnd (fun v17 h18 =>
  ACalls Pg 17 [v17] h18 (aEnd (fun v19 h20 =>
  bindV (aLoadV Pg h20 24 (.ptr (some ⟨0, .one 24, []⟩))) fun v21 h22 =>
  bindV (still (aBuild Pg 24 [(0, (V.int .u16 1))]) h22) fun v23 h24 =>
  bindV (still (aBin Pg .eql 24 v21 v23 false) h24) fun v25 h26 =>
  vcIf v25 (
  bindV (still (aBin Pg .eql 29 v15 (V.int .i64 0) true) h26) fun v27 h28 =>
  vcG v27 true (
  bindV (still (aBin Pg .eql 3 v19 (V.int .i64 0) true) h28) fun v35 h36 =>
  Meet (G3_11111001001002 q v27 v35 h36)) (Meet (G3_11111001001002 q v27 hole h28))) (
  bindV (still (aFieldAddr Pg 24 (.ptr (some ⟨0, .one 24, []⟩)) 0) h26) fun v37 h38 =>
  bindV (aLoadV Pg h38 22 v37) fun v39 h40 =>
  bindV (still (aBin Pg .eql 22 v39 (V.int .u16 0) true) h40) fun v41 h42 =>
  vcG v41 false (
  bindV (still (aFieldAddr Pg 24 (.ptr (some ⟨0, .one 24, []⟩)) 0) h42) fun v65 h66 =>
  bindV (aLoadV Pg h66 22 v65) fun v67 h68 =>
  bindV (still (aBin Pg .gtr 22 v67 (V.int .u16 2) true) h68) fun v69 h70 =>
  Meet (G3_11111001101002 q v15 v19 v41 v69 h70)) (Meet (G3_11111001101002 q v15 v19 v41 hole h42)))) fun v h => q (.panic v) h)) fun v h => q (.panic v) h)) fun v h => q (.panic v) h)) :
    ACalls Pg 3 [r] AH0 q := by
  refine C3 _ r AH0 ?_
  refine bindV_mk (new_mk hr) ?_
  have e0 : AH0.make (.cells true (.one 24) r) = HT.ah ⟨1, 1, Cft0 k m r⟩ := by
    rw [← HT0_ah]
    exact make_ah HT0 _ _ 1 1 rfl (by kernel_rfl) rfl
  rw [e0]
  refine call_at (Cfmok0 hdOk k m r).call ?_
  refine bindS_mk (show aExtract _ _ = some (.ptr (some ⟨3, .one 149, []⟩)) from rfl) ?_
  refine bindS_mk (show aExtract _ _ = some bV from rfl) ?_
  refine bindS_mk (show aBin Pg .eql 26 bV (.ptr none) true = some (.bool false) by kernel_rfl) ?_
  refine g_ff ?_
  refine bindS_mk (show aBuild Pg 33 [(0, .int .u8 7)] = some (.agg (pkV 64 7)) by kernel_rfl) ?_
  refine call_at (Cfmok4 hdOk k m r).call ?_
  refine bindS_mk (show aBin Pg .neq 29 (.int .i64 0) (.int .i64 0) true = some (.bool false) by kernel_rfl) ?_
  refine Meet.of (cast_p (G3_11001002_eq _ _ _ _ _ _) ?_)
  refine bindV_mk p_f ?_
  refine Meet.of (cast_p (J3_1101_eq _ _ _ _ _) ?_)
  refine i_f ?_
  refine Meet.of (cast_p (J3_111_eq _ _ _ _) ?_)
  refine bindV_mk (ld_mk (root7 k m r) (by kernel_rfl) rfl) ?_
  exact c
noncomputable def recE (k m : Nat) : V := .agg [(.int .u8 4), (.agg [(.bool true), (.int .u16 (.ofNat m))]), (.agg (pkV 224 0)), (.int .u32 0), (.agg [(.int .u16 0), (.int .u8 0)]), (.str []), (.int .u8 (.ofNat k)), (.agg [(.bool false), (.int .u16 0), (.int .u32 0), (.agg [(.int .u16 0), (.int .u8 0)]), (.str [])])]
theorem freeE (k m : Nat) (r : V) (hg : gd2 2 m = true) : ACalls Pg 15 [bV, .agg [.int .u16 (.ofNat (.succ m)), .int .u8 (.ofNat k)]] (A7 k m r) (pureE (.int .i64 1) (A7 k m r)) := by
  have hm : 2 ≤ m ∧ m < 65536 := of_decide_eq_true hg
  refine acalls_forget (by rfl) (C15 _ _ _ _ ?_)
  refine bindV_mk (new_mk (by kernel_rfl)) ?_
  have e0 : (A7 k m r).make (.cells true (.one 24) (.agg [.int .u16 (.ofNat (.succ m)), .int .u8 (.ofNat k)])) = HT.ah ⟨249, 249, Cft18 k m r⟩ := make_ah ⟨3, 248, Cft7 k m r⟩ _ _ 249 249 rfl (by kernel_rfl) rfl
  rw [e0]
  have hm1 : (HT.ah ⟨249, 249, Cft18 k m r⟩).m 248 = some (.cells true (.one 24) (.agg [.int .u16 (.ofNat (.succ m)), .int .u8 (.ofNat k)])) := by kernel_rfl
  refine bindS_mk (fa_mk (by kernel_rfl)) ?_
  refine bindV_mk (ld_mk hm1 (by kernel_rfl) (w := .int .u16 (.ofNat (.succ m))) rfl) ?_
  refine bindS_mk (show aBin Pg .eql 22 (.int .u16 (.ofNat (.succ m))) (.int .u16 0) true = some (.bool false) by kernel_rfl) ?_
  refine i_f ?_
  refine Meet.of (cast_p (J15_11_eq _ _ _ _) ?_)
  refine bindS_mk (fa_mk (by kernel_rfl)) ?_
  refine bindV_mk (ld_mk hm1 (by kernel_rfl) (w := .int .u16 (.ofNat (.succ m))) rfl) ?_
  refine bindS_mk b_sub ?_
  have ew : IntKind.u16.wrap (Int.ofNat (Nat.succ m) - 1) = Int.ofNat m := by
    rw [wrap_u16]
    have : (Int.ofNat (Nat.succ m) - 1) = (m : Int) := by simp
    rw [this]
    show (m : Int) % 65536 = (m : Int)
    omega
  rw [ew]
  refine bindS_mk (show aBuild Pg 108 [(0, .bool true), (1, .int .u16 (.ofNat m))] = some (.agg [.bool true, .int .u16 (.ofNat m)]) by kernel_rfl) ?_
  refine bindS_mk (fa_mk (by kernel_rfl)) ?_
  refine bindV_mk (ld_mk hm1 (by kernel_rfl) (w := .int .u8 (.ofNat k)) rfl) ?_
  refine bindS_mk (show aBuild Pg 134 [(0, .int .u8 4), (1, .agg [.bool true, .int .u16 (.ofNat m)]), (6, .int .u8 (.ofNat k))] = some (recE k m) by kernel_rfl) ?_
  have M := Cfmok20 hdOk k m r hg
  refine call_at M.call ?_
  refine ⟨rfl, fun n hn => ?_⟩
  have hn : n < 248 := hn
  have hs := M.ext.same n (show n < 249 by omega) (show n < 249 by omega)
  have hs2 : (HT.ah ⟨249, 253, Cft19 k m r⟩).m n = (HT.ah ⟨249, 249, Cft18 k m r⟩).m n := hs
  have h3 : (HT.ah ⟨249, 249, Cft18 k m r⟩).m n = (A7 k m r).m n := by
    rw [← e0, make_m, if_neg (by show n ≠ 248; omega)]
  exact hs2.trans h3
theorem lawA (k m : Nat)  : ACalls Pg 3 [(.agg [.int .u16 (.ofNat 0), .int .u8 (.ofNat k)])] AH0 fun e _ => e = .ret (.bool true) := by
  refine head3 k m _ (by kernel_rfl) _ ?_
  refine call_at (Cfmok17 hdOk k m _).call ?_
  refine call_at (Cfmok18 hdOk k m _).call ?_
  refine call_at (Cfmok19 hdOk k m _).call ?_
  have hroot : (Cfm19 k m (.agg [.int .u16 (.ofNat 0), .int .u8 (.ofNat k)])).H'.ah.m 0 = some (.cells true (.one 24) (.agg [.int .u16 (.ofNat 0), .int .u8 (.ofNat k)])) := by kernel_rfl
  refine bindV_mk (ld_mk hroot (by kernel_rfl) rfl) ?_
  refine bindS_mk (show aBuild Pg 24 [(0, .int .u16 1)] = some (.agg [.int .u16 1, .int .u8 0]) by kernel_rfl) ?_
  refine bindS_mk (show aBin Pg .eql 24 (.agg [.int .u16 (.ofNat 0), .int .u8 (.ofNat k)]) (.agg [.int .u16 1, .int .u8 0]) false = some (.bool false) by kernel_rfl) ?_
  refine i_f ?_
  refine bindS_mk (fa_mk (by kernel_rfl)) ?_
  refine bindV_mk (ld_mk hroot (by kernel_rfl) (w := .int .u16 (.ofNat 0)) rfl) ?_
  refine bindS_mk (show aBin Pg .eql 22 (.int .u16 (.ofNat 0)) (.int .u16 0) true = some (.bool true) by kernel_rfl) ?_
  refine g_tf ?_
  refine Meet.of (cast_p (G3_11111001101002_eq _ _ _ _ _ _) ?_)
  refine bindV_mk p_t ?_
  refine Meet.of (cast_p (J3_1111100111_eq _ _ _ _ _) ?_)
  refine i_t ?_
  refine bindS_mk (show aBin Pg .eql 29 (.int .i64 1) (.int .i64 1) true = some (.bool true) by kernel_rfl) ?_
  refine g_tt ?_
  refine bindS_mk (show aBin Pg .eql 3 (.int .i64 1) (.int .i64 1) true = some (.bool true) by kernel_rfl) ?_
  refine Meet.of (cast_p (G3_1111100111001002_eq _ _ _ _) ?_)
  refine bindV_mk p_t ?_
  refine g_tt ?_
  refine call_pure (awakeP _) ?_
  refine Meet.of (cast_p (G3_1111100111001004_eq _ _ _ _) ?_)
  refine bindV_mk p_t ?_
  refine Meet.of (cast_p (J3_111110011101_eq _ _ _) ?_)
  rfl
theorem lawB (k m : Nat)  : ACalls Pg 3 [(.agg [.int .u16 1, .int .u8 0])] AH0 fun e _ => e = .ret (.bool true) := by
  refine head3 k m _ (by kernel_rfl) _ ?_
  refine call_at (Cfmok8 hdOk k m _).call ?_
  refine call_at (Cfmok9 hdOk k m _).call ?_
  refine call_at (Cfmok10 hdOk k m _).call ?_
  have hroot : (Cfm10 k m (.agg [.int .u16 1, .int .u8 0])).H'.ah.m 0 = some (.cells true (.one 24) (.agg [.int .u16 1, .int .u8 0])) := by kernel_rfl
  refine bindV_mk (ld_mk hroot (by kernel_rfl) rfl) ?_
  refine bindS_mk (show aBuild Pg 24 [(0, .int .u16 1)] = some (.agg [.int .u16 1, .int .u8 0]) by kernel_rfl) ?_
  refine bindS_mk (show aBin Pg .eql 24 (.agg [.int .u16 1, .int .u8 0]) (.agg [.int .u16 1, .int .u8 0]) false = some (.bool true) by kernel_rfl) ?_
  refine i_t ?_
  refine bindS_mk (show aBin Pg .eql 29 (.int .i64 0) (.int .i64 0) true = some (.bool true) by kernel_rfl) ?_
  refine g_tt ?_
  refine bindS_mk (show aBin Pg .eql 3 (.int .i64 0) (.int .i64 0) true = some (.bool true) by kernel_rfl) ?_
  refine Meet.of (cast_p (G3_11111001001002_eq _ _ _ _) ?_)
  refine bindV_mk p_t ?_
  refine g_tt ?_
  refine call_pure (awakeP _) ?_
  refine Meet.of (cast_p (G3_11111001001004_eq _ _ _ _) ?_)
  refine bindV_mk p_t ?_
  refine Meet.of (cast_p (J3_1111100101_eq _ _ _) ?_)
  rfl
theorem lawC (k m : Nat) (hg : gd 1 (.succ k) = true) : ACalls Pg 3 [(.agg [.int .u16 1, .int .u8 (.ofNat (.succ k))])] AH0 fun e _ => e = .ret (.bool true) := by
  refine head3 k m _ (by kernel_rfl) _ ?_
  refine call_at (Cfmok11 hdOk k m _ hg).call ?_
  refine call_at (Cfmok12 hdOk k m _).call ?_
  refine call_at (Cfmok13 hdOk k m _).call ?_
  have hroot : (Cfm13 k m (.agg [.int .u16 1, .int .u8 (.ofNat (.succ k))])).H'.ah.m 0 = some (.cells true (.one 24) (.agg [.int .u16 1, .int .u8 (.ofNat (.succ k))])) := by kernel_rfl
  refine bindV_mk (ld_mk hroot (by kernel_rfl) rfl) ?_
  refine bindS_mk (show aBuild Pg 24 [(0, .int .u16 1)] = some (.agg [.int .u16 1, .int .u8 0]) by kernel_rfl) ?_
  refine bindS_mk (show aBin Pg .eql 24 (.agg [.int .u16 1, .int .u8 (.ofNat (.succ k))]) (.agg [.int .u16 1, .int .u8 0]) false = some (.bool false) by kernel_rfl) ?_
  refine i_f ?_
  refine bindS_mk (fa_mk (by kernel_rfl)) ?_
  refine bindV_mk (ld_mk hroot (by kernel_rfl) (w := .int .u16 1) rfl) ?_
  refine bindS_mk (show aBin Pg .eql 22 (.int .u16 1) (.int .u16 0) true = some (.bool false) by kernel_rfl) ?_
  refine g_ff ?_
  refine bindS_mk (fa_mk (by kernel_rfl)) ?_
  refine bindV_mk (ld_mk hroot (by kernel_rfl) (w := .int .u16 1) rfl) ?_
  refine bindS_mk (show aBin Pg .gtr 22 (.int .u16 1) (.int .u16 2) true = some (.bool false) by kernel_rfl) ?_
  refine Meet.of (cast_p (G3_11111001101002_eq _ _ _ _ _ _) ?_)
  refine bindV_mk p_f ?_
  refine Meet.of (cast_p (J3_1111100111_eq _ _ _ _ _) ?_)
  refine i_f ?_
  refine Meet.of (cast_p (J3_111111_eq _ _ _ _) ?_)
  refine bindS_mk (show aBin Pg .eql 29 (.int .i64 2) (.int .i64 2) true = some (.bool true) by kernel_rfl) ?_
  refine g_tt ?_
  refine bindS_mk (show aBin Pg .eql 3 (.int .i64 1) (.int .i64 1) true = some (.bool true) by kernel_rfl) ?_
  refine Meet.of (cast_p (G3_11111101002_eq _ _ _ _) ?_)
  refine bindV_mk p_t ?_
  refine g_tt ?_
  refine call_pure (awakeP _) ?_
  refine Meet.of (cast_p (G3_11111101004_eq _ _ _ _) ?_)
  refine bindV_mk p_t ?_
  refine Meet.of (cast_p (J3_1111111_eq _ _ _) ?_)
  rfl
theorem lawD (k m : Nat) (hg : gd 0 k = true) : ACalls Pg 3 [(.agg [.int .u16 2, .int .u8 (.ofNat k)])] AH0 fun e _ => e = .ret (.bool true) := by
  refine head3 k m _ (by kernel_rfl) _ ?_
  refine call_at (Cfmok14 hdOk k m _ hg).call ?_
  refine call_at (Cfmok15 hdOk k m _).call ?_
  refine call_at (Cfmok16 hdOk k m _).call ?_
  have hroot : (Cfm16 k m (.agg [.int .u16 2, .int .u8 (.ofNat k)])).H'.ah.m 0 = some (.cells true (.one 24) (.agg [.int .u16 2, .int .u8 (.ofNat k)])) := by kernel_rfl
  refine bindV_mk (ld_mk hroot (by kernel_rfl) rfl) ?_
  refine bindS_mk (show aBuild Pg 24 [(0, .int .u16 1)] = some (.agg [.int .u16 1, .int .u8 0]) by kernel_rfl) ?_
  refine bindS_mk (show aBin Pg .eql 24 (.agg [.int .u16 2, .int .u8 (.ofNat k)]) (.agg [.int .u16 1, .int .u8 0]) false = some (.bool false) by kernel_rfl) ?_
  refine i_f ?_
  refine bindS_mk (fa_mk (by kernel_rfl)) ?_
  refine bindV_mk (ld_mk hroot (by kernel_rfl) (w := .int .u16 2) rfl) ?_
  refine bindS_mk (show aBin Pg .eql 22 (.int .u16 2) (.int .u16 0) true = some (.bool false) by kernel_rfl) ?_
  refine g_ff ?_
  refine bindS_mk (fa_mk (by kernel_rfl)) ?_
  refine bindV_mk (ld_mk hroot (by kernel_rfl) (w := .int .u16 2) rfl) ?_
  refine bindS_mk (show aBin Pg .gtr 22 (.int .u16 2) (.int .u16 2) true = some (.bool false) by kernel_rfl) ?_
  refine Meet.of (cast_p (G3_11111001101002_eq _ _ _ _ _ _) ?_)
  refine bindV_mk p_f ?_
  refine Meet.of (cast_p (J3_1111100111_eq _ _ _ _ _) ?_)
  refine i_f ?_
  refine Meet.of (cast_p (J3_111111_eq _ _ _ _) ?_)
  refine bindS_mk (show aBin Pg .eql 29 (.int .i64 2) (.int .i64 2) true = some (.bool true) by kernel_rfl) ?_
  refine g_tt ?_
  refine bindS_mk (show aBin Pg .eql 3 (.int .i64 1) (.int .i64 1) true = some (.bool true) by kernel_rfl) ?_
  refine Meet.of (cast_p (G3_11111101002_eq _ _ _ _) ?_)
  refine bindV_mk p_t ?_
  refine g_tt ?_
  refine call_pure (awakeP _) ?_
  refine Meet.of (cast_p (G3_11111101004_eq _ _ _ _) ?_)
  refine bindV_mk p_t ?_
  refine Meet.of (cast_p (J3_1111111_eq _ _ _) ?_)
  rfl
theorem lawE (k m : Nat) (hg : gd2 2 (.succ (.succ m)) = true) : ACalls Pg 3 [(.agg [.int .u16 (.ofNat (.succ (.succ (.succ m)))), .int .u8 (.ofNat k)])] AH0 fun e _ => e = .ret (.bool true) := by
  refine head3 k (.succ (.succ m)) _ (by kernel_rfl) _ ?_
  refine call_pure (freeE k (.succ (.succ m)) _ hg) ?_
  refine call_at (Cfmok5 hdOk k (.succ (.succ m)) _).call ?_
  refine call_at (Cfmok6 hdOk k (.succ (.succ m)) _).call ?_
  have hroot : (Cfm6 k (.succ (.succ m)) (.agg [.int .u16 (.ofNat (.succ (.succ (.succ m)))), .int .u8 (.ofNat k)])).H'.ah.m 0 = some (.cells true (.one 24) (.agg [.int .u16 (.ofNat (.succ (.succ (.succ m)))), .int .u8 (.ofNat k)])) := by kernel_rfl
  refine bindV_mk (ld_mk hroot (by kernel_rfl) rfl) ?_
  refine bindS_mk (show aBuild Pg 24 [(0, .int .u16 1)] = some (.agg [.int .u16 1, .int .u8 0]) by kernel_rfl) ?_
  refine bindS_mk (show aBin Pg .eql 24 (.agg [.int .u16 (.ofNat (.succ (.succ (.succ m)))), .int .u8 (.ofNat k)]) (.agg [.int .u16 1, .int .u8 0]) false = some (.bool false) by kernel_rfl) ?_
  refine i_f ?_
  refine bindS_mk (fa_mk (by kernel_rfl)) ?_
  refine bindV_mk (ld_mk hroot (by kernel_rfl) (w := .int .u16 (.ofNat (.succ (.succ (.succ m))))) rfl) ?_
  refine bindS_mk (show aBin Pg .eql 22 (.int .u16 (.ofNat (.succ (.succ (.succ m))))) (.int .u16 0) true = some (.bool false) by kernel_rfl) ?_
  refine g_ff ?_
  refine bindS_mk (fa_mk (by kernel_rfl)) ?_
  refine bindV_mk (ld_mk hroot (by kernel_rfl) (w := .int .u16 (.ofNat (.succ (.succ (.succ m))))) rfl) ?_
  refine bindS_mk (b_gtr_t (by simp; omega)) ?_
  refine Meet.of (cast_p (G3_11111001101002_eq _ _ _ _ _ _) ?_)
  refine bindV_mk p_f ?_
  refine Meet.of (cast_p (J3_1111100111_eq _ _ _ _ _) ?_)
  refine i_t ?_
  refine bindS_mk (show aBin Pg .eql 29 (.int .i64 1) (.int .i64 1) true = some (.bool true) by kernel_rfl) ?_
  refine g_tt ?_
  refine bindS_mk (show aBin Pg .eql 3 (.int .i64 1) (.int .i64 1) true = some (.bool true) by kernel_rfl) ?_
  refine Meet.of (cast_p (G3_1111100111001002_eq _ _ _ _) ?_)
  refine bindV_mk p_t ?_
  refine g_tt ?_
  refine call_pure (awakeP _) ?_
  refine Meet.of (cast_p (G3_1111100111001004_eq _ _ _ _) ?_)
  refine bindV_mk p_t ?_
  refine Meet.of (cast_p (J3_111110011101_eq _ _ _) ?_)
  rfl
end Go.Proofs.YtcglbpjpbjaecaaGreat.Sh
namespace Go.Proofs.YtcglbpjpbjaecaaGreat.Sh
open Go Go.Ab Go.RowKit
set_option maxRecDepth 100000
noncomputable abbrev Pg : Program := Tryz.prog
theorem okP : Ok Pg := Ru.okP
theorem flat24 : flatTy Pg 10 24 = true := by kernel_rfl
theorem agg24 {v : V} (h : hasShape Pg v 24 = true) : ∃ l, v = .agg l := by
  obtain ⟨l, rfl, _⟩ := inv_struct (ts := [22, 5]) (by kernel_rfl) h
  exact ⟨l, rfl⟩
theorem freeLaw (r : V) (h : hasShape Pg r 24 = true) {M : Nat} (hg : good M r = true) : ACalls Pg 3 [r] AH0 fun e _ => e = .ret (.bool true) := by
  obtain ⟨l, rfl, q1⟩ := inv_struct (ts := [22, 5]) (by kernel_rfl) h
  obtain ⟨x0, l, rfl, h0, q2⟩ := inv_cons q1
  obtain ⟨x1, l, rfl, h1, q3⟩ := inv_cons q2
  obtain rfl := inv_nil q3
  obtain ⟨p, rfl⟩ := inv_int (k := .u16) (by kernel_rfl) h0
  obtain ⟨s, rfl⟩ := inv_int (k := .u8) (by kernel_rfl) h1
  simp only [good, goods, Bool.and_true, Bool.and_eq_true] at hg
  obtain ⟨hp0, hp1⟩ := wf_u16 hg.1
  obtain ⟨hs0, hs1⟩ := wf_u8 hg.2
  have key : ∀ p s : Nat, p < 65536 → s < 256 → ACalls Pg 3 [.agg [.int .u16 (Int.ofNat p), .int .u8 (Int.ofNat s)]] AH0 fun e _ => e = .ret (.bool true) := by
    intro p s hp hs
    by_cases h0 : p = 0
    · subst h0; exact lawA s 0
    by_cases h1 : p = 1
    · subst h1
      by_cases h2 : s = 0
      · subst h2; exact lawB 0 0
      · obtain ⟨k, rfl⟩ : ∃ k, s = Nat.succ k := ⟨s - 1, by omega⟩
        exact lawC k 0 (by unfold gd; simp; omega)
    by_cases h3 : p = 2
    · subst h3; exact lawD s 0 (by unfold gd; simp; omega)
    obtain ⟨m, rfl⟩ : ∃ m, p = Nat.succ (Nat.succ (Nat.succ m)) := ⟨p - 3, by omega⟩
    exact lawE s m (by unfold gd2; simp; omega)
  have e1 : p = Int.ofNat p.toNat := by simp; omega
  have e2 : s = Int.ofNat s.toNat := by simp; omega
  rw [e1, e2]
  exact key _ _ (by omega) (by omega)
end Go.Proofs.YtcglbpjpbjaecaaGreat.Sh
