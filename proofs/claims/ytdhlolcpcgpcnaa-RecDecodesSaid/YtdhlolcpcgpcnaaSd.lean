import Derived.Test.YtdhlolcpcgpcnaaSc
import Derived.Test.YtdhlolcpcgpcnaaAbF
set_option linter.unusedVariables false
set_option linter.unusedSimpArgs false
namespace Go.Proofs.Ytdhlolcpcgpcnaa.Sh
open Go Go.Ab Go.RowKit
set_option linter.unusedSimpArgs false
set_option linter.unusedVariables false
set_option maxRecDepth 10000
theorem eqB {a b c : Bool} : aBin Pg .eql 4 (.bool a) (.bool b) c = some (.bool (a == b)) := by
  have e : aBin Pg .eql 4 (.bool a) (.bool b) c = (some (a == b)).map V.bool := by kernel_rfl
  rw [e]; rfl
def wakeRc : Rc := { Rc.z 6 with ts := 258 }
theorem wakeBuild : aBuild Pg 51 [(0, (V.int .u8 6)), (3, (V.int .u32 258))] = some wakeRc.v := by kernel_rfl
theorem wakeOk : wakeRc.ok := by
  refine ⟨List.length_replicate .., ?_, by decide, by decide, by decide, by decide, by decide, by decide, by decide, by decide, by decide, by decide, by decide, by decide⟩
  intro x hx
  have : x = 0 := List.eq_of_mem_replicate hx
  omega
theorem wakeMay : wakeRc.may = true := by decide +kernel
theorem wakeEnc : wakeRc.enc = [6, 2, 1, 0, 0] := by decide +kernel
theorem awakeR (h : AH) : ACalls Pg 32 [] h (pureE (.bool true) h) := by
  have enc : ∀ h, ACalls Pg 29 [wakeRc.v] h (pureE (.tup [.str [6, 2, 1, 0, 0], .int .i64 0]) h) := fun h => by
    have := encP wakeRc wakeOk h
    unfold encRes at this
    rw [if_pos wakeMay, wakeEnc] at this
    exact this
  refine pure_lift rfl rfl (C32 _ AH0 ?_) h
  refine bindS_mk wakeBuild ?_
  refine call_mk (enc _) ?_
  refine bindS_mk (show aExtract _ _ = some _ from rfl) ?_
  refine bindS_mk (show aExtract _ _ = some _ from rfl) ?_
  refine bindS_mk (b_eql_t (by omega)) ?_
  refine g_tt ?_
  refine bindS_mk (t_eql_t rfl) ?_
  refine Meet.of (cast_p (G32_1101002_eq _ _ _ _) ?_)
  refine bindV_mk p_t ?_
  refine Meet.of (cast_p (J32_111_eq _ _ _) ?_)
  rfl
theorem encP1 (r : Rc) (o : r.ok) (m : r.may = true) (h : AH) : ACalls Pg 29 [r.v] h (pureE (.tup [.str r.enc, .int .i64 0]) h) := by
  have := encP r o h
  unfold encRes at this
  rw [if_pos m] at this
  exact this
theorem encP0 (r : Rc) (o : r.ok) (m : r.may = false) (h : AH) : ACalls Pg 29 [r.v] h (pureE (.tup [.str [], .int .i64 1]) h) := by
  have := encP r o h
  unfold encRes at this
  rw [if_neg (by rw [m]; decide)] at this
  exact this
theorem encR1 (r : Rc) (o : r.ok) (m : r.may = true) (h : AH) : ACalls Pg 30 [r.v] h (pureE (.tup [.str r.enc, .bool true]) h) := by
  have := encRP r o h
  unfold encResR at this
  rw [if_pos m] at this
  exact this
theorem encR0 (r : Rc) (o : r.ok) (m : r.may = false) (h : AH) : ACalls Pg 30 [r.v] h (pureE (.tup [.str [], .bool false]) h) := by
  have := encRP r o h
  unfold encResR at this
  rw [if_neg (by rw [m]; decide)] at this
  exact this
theorem encodesLaw (r : Rc) (o : r.ok) : ACalls Pg 10 [r.v] AH0 fun e _ => e = .ret (.bool true) := by
  have hi := o.im
  refine C10 _ r.v AH0 ?_
  cases m : r.may with
  | true =>
    refine bindV_mk (new_mk (shR _ hi)) ?_
    refine bindV_mk (ld_mk (by with_unfolding_all exact rfl) (by kernel_rfl) (by with_unfolding_all exact rfl)) ?_
    refine call_mk (encP1 r o m _) ?_
    refine bindS_mk (show aExtract _ _ = some _ from rfl) ?_
    refine bindS_mk (show aExtract _ _ = some _ from rfl) ?_
    refine bindV_mk (ld_mk (by with_unfolding_all exact rfl) (by kernel_rfl) (by with_unfolding_all exact rfl)) ?_
    refine call_mk (encR1 r o m _) ?_
    refine bindS_mk (show aExtract _ _ = some _ from rfl) ?_
    refine bindS_mk (show aExtract _ _ = some _ from rfl) ?_
    refine bindS_mk (t_eql_t rfl) ?_
    refine g_tt ?_
    refine bindS_mk (b_eql_t (by omega)) ?_
    refine bindS_mk eqB ?_
    refine Meet.of (cast_p (G10_11101002_eq _ _ _ _ _ _ _) ?_)
    refine bindV_mk p_t ?_
    refine g_tt ?_
    refine Meet.of (cast_p (G10_11101004_eq _ _ _ _ _ _ _) ?_)
    refine g_tf ?_
    refine Meet.of (cast_p (G10_11101005_eq _ _ _ _ _ _ _) ?_)
    refine g_tt ?_
    refine bindV_mk p_t ?_
    refine Meet.of (cast_p (G10_11101006_eq _ _ _ _ _ _) ?_)
    refine bindV_mk p_t ?_
    refine g_tt ?_
    refine bindV_mk (ld_mk (by with_unfolding_all exact rfl) (by kernel_rfl) (by with_unfolding_all exact rfl)) ?_
    refine call_mk (mayP r hi _) ?_
    rw [m]
    refine bindS_mk eqB ?_
    refine Meet.of (cast_p (G10_11101008_eq _ _ _ _) ?_)
    refine bindV_mk p_t ?_
    refine g_tt ?_
    refine call_mk (awakeR _) ?_
    refine Meet.of (cast_p (G10_11101010_eq _ _ _ _) ?_)
    refine bindV_mk p_t ?_
    refine Meet.of (cast_p (J10_1111_eq _ _ _) ?_)
    rfl
  | false =>
    refine bindV_mk (new_mk (shR _ hi)) ?_
    refine bindV_mk (ld_mk (by with_unfolding_all exact rfl) (by kernel_rfl) (by with_unfolding_all exact rfl)) ?_
    refine call_mk (encP0 r o m _) ?_
    refine bindS_mk (show aExtract _ _ = some _ from rfl) ?_
    refine bindS_mk (show aExtract _ _ = some _ from rfl) ?_
    refine bindV_mk (ld_mk (by with_unfolding_all exact rfl) (by kernel_rfl) (by with_unfolding_all exact rfl)) ?_
    refine call_mk (encR0 r o m _) ?_
    refine bindS_mk (show aExtract _ _ = some _ from rfl) ?_
    refine bindS_mk (show aExtract _ _ = some _ from rfl) ?_
    refine bindS_mk (t_eql_t rfl) ?_
    refine g_tt ?_
    refine bindS_mk (b_eql_f (by omega)) ?_
    refine bindS_mk eqB ?_
    refine Meet.of (cast_p (G10_11101002_eq _ _ _ _ _ _ _) ?_)
    refine bindV_mk p_t ?_
    refine g_tt ?_
    refine Meet.of (cast_p (G10_11101004_eq _ _ _ _ _ _ _) ?_)
    refine g_ff ?_
    refine bindS_mk (b_eql_t (by omega)) ?_
    refine Meet.of (cast_p (G10_11101005_eq _ _ _ _ _ _ _) ?_)
    refine g_tt ?_
    refine bindV_mk p_f ?_
    refine Meet.of (cast_p (G10_11101006_eq _ _ _ _ _ _) ?_)
    refine bindV_mk p_t ?_
    refine g_tt ?_
    refine bindV_mk (ld_mk (by with_unfolding_all exact rfl) (by kernel_rfl) (by with_unfolding_all exact rfl)) ?_
    refine call_mk (mayP r hi _) ?_
    rw [m]
    refine bindS_mk eqB ?_
    refine Meet.of (cast_p (G10_11101008_eq _ _ _ _) ?_)
    refine bindV_mk p_t ?_
    refine g_tt ?_
    refine call_mk (awakeR _) ?_
    refine Meet.of (cast_p (G10_11101010_eq _ _ _ _) ?_)
    refine bindV_mk p_t ?_
    refine Meet.of (cast_p (J10_1111_eq _ _ _) ?_)
    rfl
end Go.Proofs.Ytdhlolcpcgpcnaa.Sh
namespace Go.Proofs.Ytdhlolcpcgpcnaa.Sh
open Go Go.Ab Go.RowKit
set_option linter.unusedSimpArgs false
set_option linter.unusedVariables false
theorem c1_nat {x : Int} (h : 0 ≤ x ∧ x < 256) : (c1 x).toNat = x.toNat := by
  unfold c1
  exact UInt8.toNat_ofNat_of_lt' (by show x.toNat < 256; omega)
theorem c1_inj {x y : Int} (hx : 0 ≤ x ∧ x < 256) (hy : 0 ≤ y ∧ y < 256) (h : c1 x = c1 y) : x = y := by
  have := congrArg UInt8.toNat h
  rw [c1_nat hx, c1_nat hy] at this
  omega
theorem lay_inj : ∀ (n : Nat) (x y : Int), 0 ≤ x → 0 ≤ y → x < 256 ^ n → y < 256 ^ n → lay n x = lay n y → x = y
  | 0, x, y, h1, h2, h3, h4, _ => by simp at h3 h4; omega
  | n + 1, x, y, h1, h2, h3, h4, h => by
    simp only [lay, List.cons.injEq] at h
    have e1 : x % 256 = y % 256 := c1_inj (by omega) (by omega) h.1
    rw [Int.pow_succ] at h3 h4
    have e2 := lay_inj n (x / 256) (y / 256) (by omega) (by omega) (by omega) (by omega) h.2
    omega
theorem lay2_inj {x y : Int} (hx : 0 ≤ x ∧ x < 65536) (hy : 0 ≤ y ∧ y < 65536) (h : lay 2 x = lay 2 y) : x = y := lay_inj 2 x y hx.1 hy.1 hx.2 hy.2 h
theorem lay4_inj {x y : Int} (hx : 0 ≤ x ∧ x < 4294967296) (hy : 0 ≤ y ∧ y < 4294967296) (h : lay 4 x = lay 4 y) : x = y := lay_inj 4 x y hx.1 hy.1 hx.2 hy.2 h
theorem imB_inj : ∀ (a b : List Int), (∀ x ∈ a, 0 ≤ x ∧ x < 256) → (∀ x ∈ b, 0 ≤ x ∧ x < 256) → imB a = imB b → a = b
  | [], [], _, _, _ => rfl
  | [], _ :: _, _, _, h => by simp [imB] at h
  | _ :: _, [], _, _, h => by simp [imB] at h
  | x :: a, y :: b, ha, hb, h => by
    simp only [imB, List.map_cons, List.cons.injEq] at h
    rw [c1_inj (ha x (by simp)) (hb y (by simp)) h.1, imB_inj a b (fun z hz => ha z (by simp [hz])) (fun z hz => hb z (by simp [hz])) h.2]
theorem trim_zero (im : List Int) : ∀ n i, trimTo im n ≤ i → i < n → im.getD i 0 = 0
  | 0, i, _, h => absurd h (by omega)
  | n + 1, i, h1, h2 => by
    simp only [trimTo] at h1
    split at h1
    · rename_i h0
      by_cases hi : i = n
      · rw [hi]; exact h0
      · exact trim_zero im n i h1 (by omega)
    · omega
theorem trim_last (im : List Int) : ∀ n k, trimTo im n = k + 1 → im.getD k 0 ≠ 0
  | 0, k, h => by simp [trimTo] at h
  | n + 1, k, h => by
    simp only [trimTo] at h
    split at h
    · exact trim_last im n k h
    · rename_i h0
      have : n = k := by omega
      rw [← this]; exact h0
theorem im_eq (a b : List Int) (la : a.length = 224) (lb : b.length = 224) (n : Nat) (ha : trimTo a 224 = n) (hb : trimTo b 224 = n) (h : a.take n = b.take n) : a = b := by
  apply List.ext_getElem?
  intro i
  by_cases hi : i < n
  · have := congrArg (fun l => l[i]?) h
    simpa [List.getElem?_take, hi] using this
  · by_cases h2 : i < 224
    · have e1 := trim_zero a 224 i (by omega) h2
      have e2 := trim_zero b 224 i (by omega) h2
      rw [List.getElem?_eq_getElem (by omega), List.getElem?_eq_getElem (by omega)]
      rw [List.getD_eq_getElem?_getD, List.getElem?_eq_getElem (by omega), Option.getD_some] at e1 e2
      rw [e1, e2]
    · rw [List.getElem?_eq_none (by omega), List.getElem?_eq_none (by omega)]
theorem enc_head (r : Rc) : ∃ t, r.enc = c1 r.k :: t := by
  unfold Rc.enc
  repeat' split
  all_goals exact ⟨_, rfl⟩
theorem may_bare {r : Rc} (m : r.may = true) : r.bare = r ∧ 1 ≤ r.k ∧ r.k ≤ 6 ∧ r.dl.length ≤ 66 ∧ r.od.length ≤ 66 := by
  unfold Rc.may at m
  simp only [Bool.and_eq_true, decide_eq_true_eq] at m
  exact ⟨m.1.1.2, m.1.1.1.1, m.1.1.1.2, m.1.2, m.2⟩
theorem enc_inj (a b : Rc) (oa : a.ok) (ob : b.ok) (ma : a.may = true) (mb : b.may = true) (h : a.enc = b.enc) : a = b := by
  obtain ⟨ba, a1, a6, ad, aod⟩ := may_bare ma
  obtain ⟨bb, b1, b6, bd, bod⟩ := may_bare mb
  have hk : a.k = b.k := by
    obtain ⟨t, ht⟩ := enc_head a
    obtain ⟨u, hu⟩ := enc_head b
    rw [ht, hu] at h
    exact c1_inj oa.k ob.k (List.cons.inj h).1
  rw [← ba, ← bb]
  unfold Rc.enc at h
  unfold Rc.bare
  rw [← hk] at h ⊢
  by_cases k1 : a.k = 1
  · simp only [k1, if_true] at h ⊢
    obtain ⟨_, h⟩ := List.cons.inj h
    obtain ⟨hu, h⟩ := List.cons.inj h
    obtain ⟨hno, h⟩ := List.append_inj h (by rw [lay_len, lay_len])
    obtain ⟨hn, him⟩ := List.cons.inj h
    have ta := trimTo_le a.im 224
    have tb := trimTo_le b.im 224
    have hn' : trimTo a.im 224 = trimTo b.im 224 := by
      have := c1_inj (by omega) (by omega) hn
      omega
    have himt := imB_inj _ _ (fun x hx => oa.imb x (List.mem_of_mem_take hx)) (fun x hx => ob.imb x (List.mem_of_mem_take hx)) him
    have e := im_eq a.im b.im oa.im ob.im _ rfl hn'.symm (by rw [himt, hn'])
    have eu : a.undo = b.undo := by
      cases ha : a.undo <;> cases hb : b.undo <;> simp_all
    rw [eu, lay2_inj oa.no ob.no hno, e]
  by_cases k2 : a.k = 2
  · simp only [k2, if_true, Int.reduceEq, if_false] at h ⊢
    obtain ⟨_, h⟩ := List.cons.inj h
    obtain ⟨h1, h⟩ := List.append_inj h (by rw [lay_len, lay_len])
    obtain ⟨h2, h⟩ := List.append_inj h (by rw [lay_len, lay_len])
    obtain ⟨h3, h⟩ := List.append_inj h (by rw [lay_len, lay_len])
    obtain ⟨h4, h⟩ := List.cons.inj h
    obtain ⟨h5, h⟩ := List.cons.inj h
    rw [lay2_inj oa.no ob.no h1, lay4_inj oa.ts ob.ts h2, lay2_inj oa.pp ob.pp h3, c1_inj oa.ps ob.ps h4, h]
  by_cases k3 : a.k = 3
  · simp only [k3, if_true, Int.reduceEq, if_false] at h ⊢
    obtain ⟨_, h⟩ := List.cons.inj h
    obtain ⟨h1, h⟩ := List.append_inj h (by rw [lay_len, lay_len])
    obtain ⟨h2, h⟩ := List.cons.inj h
    obtain ⟨h3, h⟩ := List.append_inj h (by rw [lay_len, lay_len])
    obtain ⟨h4, h⟩ := List.append_inj h (by rw [lay_len, lay_len])
    obtain ⟨h5, h⟩ := List.append_inj h (by rw [lay_len, lay_len])
    obtain ⟨h6, h⟩ := List.cons.inj h
    obtain ⟨h7, h⟩ := List.cons.inj h
    rw [lay2_inj oa.no ob.no h1, c1_inj oa.sl ob.sl h2, lay2_inj oa.op ob.op h3, lay4_inj oa.ots ob.ots h4, lay2_inj oa.onp ob.onp h5, c1_inj oa.ons ob.ons h6, h]
  by_cases k6 : a.k = 6
  · simp only [k6, if_true, Int.reduceEq, if_false] at h ⊢
    obtain ⟨_, h⟩ := List.cons.inj h
    rw [lay4_inj oa.ts ob.ts h]
  have k45 : a.k = 4 ∨ a.k = 5 := by omega
  simp only [k1, k2, k3, k6, if_false] at h
  obtain ⟨_, h⟩ := List.cons.inj h
  obtain ⟨h1, h⟩ := List.append_inj h (by rw [lay_len, lay_len])
  obtain ⟨h2, h⟩ := List.cons.inj h
  have e1 := lay2_inj oa.no ob.no h1
  have e2 := c1_inj oa.sl ob.sl h2
  rcases k45 with k4 | k5
  · simp only [k4, if_true, Int.reduceEq, if_false, e1, e2]
  · simp only [k5, if_true, Int.reduceEq, if_false, e1, e2]
end Go.Proofs.Ytdhlolcpcgpcnaa.Sh
namespace Go.Proofs.Ytdhlolcpcgpcnaa.Sh
open Go Go.Ab Go.RowKit
set_option linter.unusedSimpArgs false
set_option linter.unusedVariables false
set_option maxRecDepth 10000
theorem beq_enc (a b : Rc) (oa : a.ok) (ob : b.ok) (ma : a.may = true) (mb : b.may = true) : ((a.enc == b.enc) == decide (a = b)) = true := by
  by_cases h : a = b
  · subst h; simp
  · have : ¬ a.enc = b.enc := fun e => h (enc_inj a b oa ob ma mb e)
    simp [h, this]
theorem unlikeLaw (a b : Rc) (oa : a.ok) (ob : b.ok) : ACalls Pg 11 [a.v, b.v] AH0 fun e _ => e = .ret (.bool true) := by
  refine C11 _ a.v b.v AH0 ?_
  have wake : ∀ x y u v h, J11_11101 (fun e _ => e = .ret (.bool true)) x y u v (.bool true) h := by
    intro x y u v h
    rw [J11_11101_eq]
    refine i_t ?_
    refine call_mk (awakeR _) ?_
    rfl
  refine bindV_mk (new_mk (shR _ oa.im)) ?_
  refine bindV_mk (new_mk (shR _ ob.im)) ?_
  refine bindV_mk (ld_mk (by with_unfolding_all exact rfl) (by kernel_rfl) (by with_unfolding_all exact rfl)) ?_
  cases ma : a.may with
  | false =>
    refine call_mk (encP0 a oa ma _) ?_
    refine bindS_mk (show aExtract _ _ = some _ from rfl) ?_
    refine bindS_mk (show aExtract _ _ = some _ from rfl) ?_
    refine bindV_mk (ld_mk (by with_unfolding_all exact rfl) (by kernel_rfl) (by with_unfolding_all exact rfl)) ?_
    cases mb : b.may with
    | false =>
      refine call_mk (encP0 b ob mb _) ?_
      refine bindS_mk (show aExtract _ _ = some _ from rfl) ?_
      refine bindS_mk (show aExtract _ _ = some _ from rfl) ?_
      refine bindS_mk (b_neq_t (by omega)) ?_
      refine g_tf ?_
      refine Meet.of (cast_p (G11_111001002_eq _ _ _ _ _ _ _ _) ?_)
      refine bindV_mk p_t ?_
      exact Meet.of (wake _ _ _ _ _)
    | true =>
      refine call_mk (encP1 b ob mb _) ?_
      refine bindS_mk (show aExtract _ _ = some _ from rfl) ?_
      refine bindS_mk (show aExtract _ _ = some _ from rfl) ?_
      refine bindS_mk (b_neq_t (by omega)) ?_
      refine g_tf ?_
      refine Meet.of (cast_p (G11_111001002_eq _ _ _ _ _ _ _ _) ?_)
      refine bindV_mk p_t ?_
      exact Meet.of (wake _ _ _ _ _)
  | true =>
    refine call_mk (encP1 a oa ma _) ?_
    refine bindS_mk (show aExtract _ _ = some _ from rfl) ?_
    refine bindS_mk (show aExtract _ _ = some _ from rfl) ?_
    refine bindV_mk (ld_mk (by with_unfolding_all exact rfl) (by kernel_rfl) (by with_unfolding_all exact rfl)) ?_
    cases mb : b.may with
    | false =>
      refine call_mk (encP0 b ob mb _) ?_
      refine bindS_mk (show aExtract _ _ = some _ from rfl) ?_
      refine bindS_mk (show aExtract _ _ = some _ from rfl) ?_
      refine bindS_mk (b_neq_f (by omega)) ?_
      refine g_ff ?_
      refine bindS_mk (b_neq_t (by omega)) ?_
      refine Meet.of (cast_p (G11_111001002_eq _ _ _ _ _ _ _ _) ?_)
      refine bindV_mk p_f ?_
      exact Meet.of (wake _ _ _ _ _)
    | true =>
      refine call_mk (encP1 b ob mb _) ?_
      refine bindS_mk (show aExtract _ _ = some _ from rfl) ?_
      refine bindS_mk (show aExtract _ _ = some _ from rfl) ?_
      refine bindS_mk (b_neq_f (by omega)) ?_
      refine g_ff ?_
      refine bindS_mk (b_neq_f (by omega)) ?_
      refine Meet.of (cast_p (G11_111001002_eq _ _ _ _ _ _ _ _) ?_)
      refine bindV_mk p_f ?_
      refine Meet.of (cast_p (J11_11101_eq _ _ _ _ _ _ _) ?_)
      refine i_f ?_
      refine Meet.of (cast_p (J11_1111_eq _ _ _ _ _ _) ?_)
      refine bindS_mk (t_eql) ?_
      refine bindV_mk (ld_mk (by with_unfolding_all exact rfl) (by kernel_rfl) (by with_unfolding_all exact rfl)) ?_
      refine bindV_mk (ld_mk (by with_unfolding_all exact rfl) (by kernel_rfl) (by with_unfolding_all exact rfl)) ?_
      refine bindS_mk (eq51 _ _ oa.im ob.im _) ?_
      refine bindS_mk eqB ?_
      rw [beq_enc a b oa ob ma mb]
      refine g_tt ?_
      refine call_mk (awakeR _) ?_
      refine Meet.of (cast_p (G11_111101002_eq _ _ _ _) ?_)
      refine bindV_mk p_t ?_
      refine Meet.of (cast_p (J11_11111_eq _ _ _) ?_)
      rfl
end Go.Proofs.Ytdhlolcpcgpcnaa.Sh
namespace Go.Proofs.Ytdhlolcpcgpcnaa.Sh
open Go Go.Ab Go.RowKit
set_option linter.unusedSimpArgs false
set_option linter.unusedVariables false
theorem flat51 : flatTy Pg 10 51 = true := by kernel_rfl
theorem rc_of {v : V} {M : Nat} (hM : M < 140737488355328) (hs : hasShape Pg v 51 = true) (hg : good M v = true) : ∃ r : Rc, v = r.v ∧ r.ok := by
  have k5 : kindT Pg 5 = some .u8 := by kernel_rfl
  have k40 : kindT Pg 40 = some .u16 := by kernel_rfl
  have k45 : kindT Pg 45 = some .u32 := by kernel_rfl
  have b4 : boolT Pg 4 = true := by kernel_rfl
  have s9 : (match ul Pg 9 with | some .string => true | _ => false) = true := by kernel_rfl
  obtain ⟨l, rfl, q1⟩ := inv_struct (ts := [5, 42, 44, 45, 47, 9, 5, 49]) (by kernel_rfl) hs
  obtain ⟨x0, l, rfl, h0, q2⟩ := inv_cons q1
  obtain ⟨x1, l, rfl, h1, q3⟩ := inv_cons q2
  obtain ⟨x2, l, rfl, h2, q4⟩ := inv_cons q3
  obtain ⟨x3, l, rfl, h3, q5⟩ := inv_cons q4
  obtain ⟨x4, l, rfl, h4, q6⟩ := inv_cons q5
  obtain ⟨x5, l, rfl, h5, q7⟩ := inv_cons q6
  obtain ⟨x6, l, rfl, h6, q8⟩ := inv_cons q7
  obtain ⟨x7, l, rfl, h7, q9⟩ := inv_cons q8
  obtain rfl := inv_nil q9
  obtain ⟨k, rfl⟩ := inv_int k5 h0
  obtain ⟨l, rfl, q10⟩ := inv_struct (ts := [4, 40]) (by kernel_rfl) h1
  obtain ⟨y0, l, rfl, g0, q11⟩ := inv_cons q10
  obtain ⟨y1, l, rfl, g1, q12⟩ := inv_cons q11
  obtain rfl := inv_nil q12
  obtain ⟨undo, rfl⟩ := inv_bool b4 g0
  obtain ⟨no, rfl⟩ := inv_int k40 g1
  obtain ⟨ims, rfl, hlen, hims⟩ := inv_arr (n := 224) (e := 5) (by kernel_rfl) h2
  obtain ⟨ts, rfl⟩ := inv_int k45 h3
  obtain ⟨l, rfl, q13⟩ := inv_struct (ts := [40, 5]) (by kernel_rfl) h4
  obtain ⟨y0, l, rfl, g0, q14⟩ := inv_cons q13
  obtain ⟨y1, l, rfl, g1, q15⟩ := inv_cons q14
  obtain rfl := inv_nil q15
  obtain ⟨pp, rfl⟩ := inv_int k40 g0
  obtain ⟨ps, rfl⟩ := inv_int k5 g1
  obtain ⟨dl, rfl⟩ := inv_str s9 h5
  obtain ⟨sl, rfl⟩ := inv_int k5 h6
  obtain ⟨l, rfl, q16⟩ := inv_struct (ts := [4, 40, 45, 47, 9]) (by kernel_rfl) h7
  obtain ⟨y0, l, rfl, g0, q17⟩ := inv_cons q16
  obtain ⟨y1, l, rfl, g1, q18⟩ := inv_cons q17
  obtain ⟨y2, l, rfl, g2, q19⟩ := inv_cons q18
  obtain ⟨y3, l, rfl, g3, q20⟩ := inv_cons q19
  obtain ⟨y4, l, rfl, g4, q21⟩ := inv_cons q20
  obtain rfl := inv_nil q21
  obtain ⟨live, rfl⟩ := inv_bool b4 g0
  obtain ⟨op, rfl⟩ := inv_int k40 g1
  obtain ⟨ots, rfl⟩ := inv_int k45 g2
  obtain ⟨l, rfl, q22⟩ := inv_struct (ts := [40, 5]) (by kernel_rfl) g3
  obtain ⟨y0, l, rfl, g5, q23⟩ := inv_cons q22
  obtain ⟨y1, l, rfl, g6, q24⟩ := inv_cons q23
  obtain rfl := inv_nil q24
  obtain ⟨onp, rfl⟩ := inv_int k40 g5
  obtain ⟨ons, rfl⟩ := inv_int k5 g6
  obtain ⟨od, rfl⟩ := inv_str s9 g4
  simp only [good, goods, Bool.and_eq_true, Bool.and_true, decide_eq_true_eq, true_and, and_true] at hg
  obtain ⟨gk, gno, gim, gts, ⟨gpp, gps⟩, gdl, gsl, gop, gots, ⟨gonp, gons⟩, god⟩ := hg
  obtain ⟨ns, rfl, hns⟩ := inv_ints k5 hims gim
  refine ⟨⟨k, undo, no, ns, ts, pp, ps, dl, sl, live, op, ots, onp, ons, od⟩, rfl, ?_⟩
  exact ⟨by simpa using hlen, fun x hx => wf_u8 (hns x hx), wf_u8 gk, wf_u16 gno, wf_u32 gts, wf_u16 gpp, wf_u8 gps, by show dl.length < _; omega, wf_u8 gsl, wf_u16 gop, wf_u32 gots, wf_u16 gonp, wf_u8 gons, by show od.length < _; omega⟩
end Go.Proofs.Ytdhlolcpcgpcnaa.Sh
