import Derived.Test.YtdhlolcpcgpcnaaSg
set_option linter.unusedVariables false
set_option linter.unusedSimpArgs false
namespace Go.Proofs.Ytdhlolcpcgpcnaa.Sh
open Go Go.Ab Go.RowKit Go.Gr
set_option linter.unusedSimpArgs false
set_option linter.unusedVariables false
set_option maxRecDepth 10000
theorem slAll (h : AH) (n : Nat) (r : Rc) (hi : r.im.length = 224) (hm : h.m n = some (.cells true (.one 51) r.v)) : aSlice Pg h 44 (.ptr (some ⟨n, .one 51, [2]⟩)) none none = some (.slc (some (⟨n, .one 51, [2]⟩, 0)) 224) := by
  have e0 : aSlice Pg h 44 (.ptr (some ⟨n, .one 51, [2]⟩)) none none = match h.m n with
    | some (.cells _ ty v) => (match layB Pg ty [2], getV v [2], bnd none 0, bnd none 224 with
        | some (_, u), some (.agg _), some l, some k => if ty = .one 51 ∧ l ≤ k ∧ k ≤ 224 ∧ (ul Pg 5).isSome ∧ isArr Pg u 224 5 then some (.slc (some (⟨n, .one 51, [2]⟩, l)) (k - l)) else none
        | _, _, _, _ => none)
    | _ => none := by kernel_rfl
  rw [e0, hm]
  have e1 : layB Pg (.one 51) [2] = some (3, 44) := ly51_2
  have e2 : getV r.v [2] = some (.agg (r.im.map (V.int .u8))) := rfl
  have e3 : bnd none 0 = some 0 := rfl
  have e4 : bnd none 224 = some 224 := rfl
  have e5 : isArr Pg 44 224 5 = true := by kernel_rfl
  have e6 : (ul Pg 5).isSome = true := by kernel_rfl
  simp only [e1, e2, e3, e4, e5, e6, Nat.le_refl, Nat.zero_le, and_self, if_true, Nat.sub_zero]
theorem cpIm (h : AH) (r : Rc) (hi : r.im = im0) (t : List UInt8) (ht : t.length ≤ 224) (hm : h.m 3 = some (.cells true (.one 51) r.v)) :
    aBuiltin Pg h .copy [67, 9] [.slc (some (⟨3, .one 51, [2]⟩, 0)) 224, .str t] = some (.int .i64 ((t.length : Nat) : Int), h.put 3 (.cells true (.one 51) ({ r with im := imZ t } : Rc).v)) := by
  have e0 : aBuiltin Pg h .copy [67, 9] [.slc (some (⟨3, .one 51, [2]⟩, 0)) 224, .str t] = aCopy Pg h 5 (.slc (some (⟨3, .one 51, [2]⟩, 0)) 224) (.str t) := by kernel_rfl
  have e1 : aElems Pg h 5 (.str t) = some (bytesV t) := by kernel_rfl
  have e2 : Ab.rowAt Pg (.one 51) [2] = some (3, 5) := by kernel_rfl
  have e3 : getV r.v [2] = some (.agg (r.im.map (V.int .u8))) := rfl
  have e4 : ∀ l : List V, setV r.v [2] (.agg l) = some (.agg [.int .u8 r.k, vPg r.undo r.no, .agg l, .int .u32 r.ts, vRef r.pp r.ps, .str r.dl, .int .u8 r.sl, vOld r.live r.op r.ots r.onp r.ons r.od]) := fun l => rfl
  have hl : (bytesV t).length = t.length := by simp [bytesV]
  have hmin : min (bytesV t).length 224 = t.length := by rw [hl]; omega
  have h224 : (r.im.map (V.int .u8)).length = 224 := by rw [hi]; simp [im0]
  rw [e0]
  unfold aCopy
  rw [e1]
  simp only [hm, e2, e3, h224, e4, Nat.zero_add, Nat.le_refl, and_self, if_true, hmin, List.take_zero, List.nil_append]
  have e5 : (bytesV t).take t.length ++ (r.im.map (V.int .u8)).drop t.length = (imZ t).map (V.int .u8) := by
    rw [List.take_of_length_le (by rw [hl]; exact Nat.le_refl _), hi, imZ, List.map_append]
    congr 1
    · simp only [bytesV, List.map_map]; rfl
    · simp only [im0, List.map_replicate, List.drop_replicate]
  rw [e5]
  rfl
theorem imZ_len (t : List UInt8) (ht : t.length ≤ 224) : (imZ t).length = 224 := by simp [imZ]; omega
theorem bad1 {h : AH} {s : List UInt8} {r : Rc} (st : St4 h s r) (q : AEnd → Prop) (t : V) (c : q (.ret (decV none))) : J33_11110101011101 (fun e _ => q e) (dsD 0 1) (pR 0) (pE 1) p2 p3 t (.bool true) h := by
  rw [J33_11110101011101_eq]
  refine i_t ?_
  refine bindS_mk build51z ?_
  refine bindV_mk (st0 _ _ st.m0 (Rc.z 0) (List.length_replicate ..)) ?_
  refine bindV_mk (st1 _ 0 2 (by rw [put_m, if_neg (by decide)]; exact st.m1)) ?_
  exact zeroEnd st q c
theorem good1 {h : AH} {s t : List UInt8} {r : Rc} (st : St4 h s r) (hi : r.im = im0) (ht : t.length ≤ 224) (q : AEnd → Prop) (c : q (.ret (decV (fin { r with im := imZ t } s)))) : J33_11110101011101 (fun e _ => q e) (dsD 0 1) (pR 0) (pE 1) p2 p3 (.str t) (.bool false) h := by
  rw [J33_11110101011101_eq]
  refine i_f ?_
  refine Meet.of (cast_p (J33_1111010101111_eq _ _ _ _ _ _ _ _) ?_)
  refine bindS_mk (fa_mk (by kernel_rfl)) ?_
  refine bindS_mk (slAll _ _ r (by rw [hi]; exact im00) st.m3) ?_
  refine bindV_mk (cpIm _ r hi t ht st.m3) ?_
  exact Meet.of (fin33 (st.store { r with im := imZ t }) (imZ_len t ht) q c)
theorem tail1 {h : AH} {s t : List UInt8} {r : Rc} (st : St4 h s r) (hi : r.im = im0) (q : AEnd → Prop) (htl : t.length < 140737488355328) (u : Nat) (c : q (.ret (decV (if badIm u t = true then none else fin { r with im := imZ t } s)))) (K : Prop)
    (hK : (u ≤ 1 → t.length ≤ 224 → G33_111101010111001002 (fun e _ => q e) (dsD 0 1) (pR 0) (pE 1) p2 p3 (.str t) (.bool false) (.bool false) h) → (u ≤ 1 → ¬ t.length ≤ 224 → G33_111101010111001002 (fun e _ => q e) (dsD 0 1) (pR 0) (pE 1) p2 p3 (.str t) (.bool false) (.bool true) h) →
      (1 < u → G33_111101010111001002 (fun e _ => q e) (dsD 0 1) (pR 0) (pE 1) p2 p3 (.str t) (.bool true) hole h) → K) : K := by
  refine hK (fun hu h2 => ?_) (fun hu h2 => ?_) (fun hu => ?_)
  · rw [G33_111101010111001002_eq]
    refine bindV_mk p_f ?_
    refine g_ff ?_
    refine bindV_mk (len_str (by kernel_rfl)) ?_
    by_cases h0 : t.length = 0
    · have hb : badIm u t = false := by
        unfold badIm
        rw [decide_eq_false (show ¬ 1 < u by omega), decide_eq_false (show ¬ 224 < t.length by omega), decide_eq_false (show ¬ 0 < t.length by omega)]; rfl
      rw [hb] at c
      refine bindS_mk (b_gtr_f (by omega)) ?_
      refine Meet.of (cast_p (G33_111101010111001004_eq _ _ _ _ _ _ _ _ _ _) ?_)
      refine g_ft ?_
      refine Meet.of (cast_p (G33_111101010111001005_eq _ _ _ _ _ _ _ _ _ _ _) ?_)
      refine g_ff ?_
      refine bindV_mk p_f ?_
      refine Meet.of (cast_p (G33_111101010111001006_eq _ _ _ _ _ _ _ _ _ _) ?_)
      refine bindV_mk p_f ?_
      exact Meet.of (good1 st hi h2 q c)
    · refine bindS_mk (b_gtr_t (by omega)) ?_
      refine Meet.of (cast_p (G33_111101010111001004_eq _ _ _ _ _ _ _ _ _ _) ?_)
      refine g_tt ?_
      refine bindV_mk (len_str (by kernel_rfl)) ?_
      refine bindS_mk (b_sub64 (by omega) (by omega)) ?_
      have e : (t.length : Int) - 1 = ((t.length - 1 : Nat) : Int) := by omega
      rw [e]
      refine bindS_mk (ix_str str9 (by omega)) ?_
      by_cases hz : t.getD (t.length - 1) 0 = 0
      · have hb : badIm u t = true := by
          unfold badIm
          rw [decide_eq_true (show 0 < t.length by omega), hz]; simp
        rw [hb] at c
        refine bindS_mk (b_eql_t (by rw [hz]; rfl)) ?_
        refine Meet.of (cast_p (G33_111101010111001005_eq _ _ _ _ _ _ _ _ _ _ _) ?_)
        refine g_ff ?_
        refine bindV_mk p_t ?_
        refine Meet.of (cast_p (G33_111101010111001006_eq _ _ _ _ _ _ _ _ _ _) ?_)
        refine bindV_mk p_f ?_
        exact Meet.of (bad1 st q _ c)
      · have hb : badIm u t = false := by
          unfold badIm
          have hz2 : (t.getD (t.length - 1) 0 == 0) = false := by simpa using hz
          rw [hz2, decide_eq_false (show ¬ 1 < u by omega), decide_eq_false (show ¬ 224 < t.length by omega)]; simp
        rw [hb] at c
        have hne : ¬ ((t.getD (t.length - 1) 0).toNat : Int) = 0 := by
          intro h0
          refine hz (UInt8.toNat_inj.1 ?_)
          have h1 : (t.getD (t.length - 1) 0).toNat = 0 := by omega
          rw [h1]; rfl
        refine bindS_mk (b_eql_f hne) ?_
        refine Meet.of (cast_p (G33_111101010111001005_eq _ _ _ _ _ _ _ _ _ _ _) ?_)
        refine g_ff ?_
        refine bindV_mk p_t ?_
        refine Meet.of (cast_p (G33_111101010111001006_eq _ _ _ _ _ _ _ _ _ _) ?_)
        refine bindV_mk p_f ?_
        exact Meet.of (good1 st hi h2 q c)
  · have hb : badIm u t = true := by unfold badIm; rw [decide_eq_true (show 224 < t.length by omega)]; simp
    rw [hb] at c
    rw [G33_111101010111001002_eq]
    refine bindV_mk p_f ?_
    refine g_tf ?_
    refine Meet.of (cast_p (G33_111101010111001004_eq _ _ _ _ _ _ _ _ _ _) ?_)
    refine g_hole ?_
    refine Meet.of (cast_p (G33_111101010111001005_eq _ _ _ _ _ _ _ _ _ _ _) ?_)
    refine g_tf ?_
    refine Meet.of (cast_p (G33_111101010111001006_eq _ _ _ _ _ _ _ _ _ _) ?_)
    refine bindV_mk p_t ?_
    exact Meet.of (bad1 st q _ c)
  · have hb : badIm u t = true := by unfold badIm; rw [decide_eq_true hu]; simp
    rw [hb] at c
    rw [G33_111101010111001002_eq]
    refine bindV_mk p_t ?_
    refine g_tf ?_
    refine Meet.of (cast_p (G33_111101010111001004_eq _ _ _ _ _ _ _ _ _ _) ?_)
    refine g_hole ?_
    refine Meet.of (cast_p (G33_111101010111001005_eq _ _ _ _ _ _ _ _ _ _ _) ?_)
    refine g_tf ?_
    refine Meet.of (cast_p (G33_111101010111001006_eq _ _ _ _ _ _ _ _ _ _) ?_)
    refine bindV_mk p_t ?_
    exact Meet.of (bad1 st q _ c)
end Go.Proofs.Ytdhlolcpcgpcnaa.Sh
namespace Go.Proofs.Ytdhlolcpcgpcnaa.Sh
open Go Go.Ab Go.RowKit Go.Gr
set_option linter.unusedSimpArgs false
set_option linter.unusedVariables false
set_option maxRecDepth 10000
theorem tt_len {s t u : List UInt8} (h : tt s = some (t, u)) : t.length < 256 := by
  unfold tt tk at h
  have hv := val1_lt s
  by_cases h1 : 1 ≤ s.length
  · rw [if_pos h1, Option.bind_some] at h
    simp only at h
    split at h
    · cases h; simp only [List.length_take]; omega
    · cases h
  · rw [if_neg h1] at h; cases h
theorem zero52 : zeroV Pg 52 = some (.int .i64 0) := by kernel_rfl
theorem build77 (s : List UInt8) : aBuild Pg 77 [(0, .str s)] = some (.agg [.str s]) := by kernel_rfl
theorem sh77 (s : List UInt8) : hasShape Pg (.agg [.str s]) 77 = true := by kernel_rfl
def sel (k : Nat) (s : List UInt8) : Option Rc :=
  if k = 1 then parse1 k s else if k = 2 then parse2 k s else if k = 3 ∨ k = 4 ∨ k = 5 then parse345 k s else if k = 6 then parse6 k s else fin (Rc.z k) s
theorem parse_sel (s : List UInt8) : parse s = (tk 1 s).bind fun k => sel k.1 k.2 := rfl
abbrev memA (s : List UInt8) : AH := ((AH0.make (.cells true (.one 51) (rz 0))).make (.cells true (.one 52) (.int .i64 0))).make (.cells true (.one 77) (.agg [.str s]))
abbrev memB (s u : List UInt8) (k : Nat) : AH := (((memA s).put 2 (rdO u)).make (.cells true (.one 51) (rz 0))).put 3 (.cells true (.one 51) (rz k))
theorem st_init (s u : List UInt8) (k : Nat) (hu : u.length < 140737488355328) : St4 (memB s u k) u (Rc.z k) := ⟨Nat.le_refl 4, rfl, rfl, rfl, rfl, hu⟩
theorem decC (s : List UInt8) (hs : s.length < 140737488355328) (q : AEnd → Prop) (c : q (.ret (decV (parse s)))) : ACalls Pg 33 [.str s] AH0 fun e _ => q e := by
  refine C33 _ _ _ ?_
  refine bindV_mk (al_mk zero51 (shRz 0)) ?_
  refine bindV_mk (al_mk zero52 (sh52 0)) ?_
  refine bindS_mk (build77 s) ?_
  refine bindV_mk (new_mk (sh77 s)) ?_
  rw [parse_sel] at c
  by_cases h1 : 1 ≤ s.length
  · have e : (tk 1 s).bind (fun k => sel k.1 k.2) = sel (valB s 0 1) (s.drop 1) := by unfold tk; rw [if_pos h1]; rfl
    rw [e] at c
    refine callW_mk (numP 2 s 1 (by decide) h1 hs (memA s) rfl) ?_
    refine bindS_mk (cv_int (d := 5) .u8 (by kernel_rfl)) ?_
    rw [wv1]
    refine bindS_mk (build51 _) ?_
    refine bindV_mk (al_mk zero51 (shRz 0)) ?_
    refine bindV_mk (st_mk (v := rz 0) (v' := rz (valB s 0 1 : Nat)) rfl (by kernel_rfl) rfl (shRz _) rfl) ?_
    have hu : (s.drop 1).length < 140737488355328 := by simp; omega
    have st := st_init s (s.drop 1) (valB s 0 1) hu
    generalize hk : valB s 0 1 = k at c st
    generalize hu' : s.drop 1 = u at c st hu
    clear hk hu' e
    have goal : ∀ H : AH, St4 H u (Rc.z k) → (
  bindV (still (aFieldAddr Pg 51 p3 0) H) fun v19 h20 =>
  bindV (aLoadV Pg h20 5 v19) fun v21 h22 =>
  bindV (still (aBin Pg .eql 5 v21 (V.int .u8 1) true) h22) fun v23 h24 =>
  vcIf v23 (
  ACalls Pg 41 [p2, (V.int .i64 1)] h24 (aEnd (fun v25 h26 =>
  bindV (still (aBin Pg .eql 22 v25 (V.int .u64 1) true) h26) fun v27 h28 =>
  ACalls Pg 41 [p2, (V.int .i64 2)] h28 (aEnd (fun v29 h30 =>
  bindV (still (aConv Pg h30 22 40 v29) h30) fun v31 h32 =>
  bindV (still (aBuild Pg 42 [(0, v27), (1, v31)]) h32) fun v33 h34 =>
  bindV (still (aFieldAddr Pg 51 p3 1) h34) fun v35 h36 =>
  bindV (aStoreV Pg h36 42 v35 v33) fun _ h38 =>
  ACalls Pg 42 [p2] h38 (aEnd (fun v39 h40 =>
  bindV (still (aBin Pg .gtr 22 v25 (V.int .u64 1) true) h40) fun v41 h42 =>
  vcG v41 false (
  bindV (aBuiltin Pg h42 .len [9] [v39]) fun v101 h102 =>
  bindV (still (aBin Pg .gtr 3 v101 (V.int .i64 224) true) h102) fun v103 h104 =>
  Meet (G33_111101010111001002 (fun e _ => q e) ((40, [pR 0, pE 1]) :: []) (pR 0) (pE 1) p2 p3 v39 v41 v103 h104)) (Meet (G33_111101010111001002 (fun e _ => q e) ((40, [pR 0, pE 1]) :: []) (pR 0) (pE 1) p2 p3 v39 v41 hole h42))) fun v h => aLeaves Pg R33 (fun e _ => q e) [pR 0, pE 1] ((40, [pR 0, pE 1]) :: []) (some v) h)) fun v h => aLeaves Pg R33 (fun e _ => q e) [pR 0, pE 1] ((40, [pR 0, pE 1]) :: []) (some v) h)) fun v h => aLeaves Pg R33 (fun e _ => q e) [pR 0, pE 1] ((40, [pR 0, pE 1]) :: []) (some v) h)) (
  bindV (still (aBin Pg .eql 5 v21 (V.int .u8 2) true) h24) fun v105 h106 =>
  vcIf v105 (
  ACalls Pg 41 [p2, (V.int .i64 2)] h106 (aEnd (fun v107 h108 =>
  bindV (still (aConv Pg h108 22 40 v107) h108) fun v109 h110 =>
  ACalls Pg 41 [p2, (V.int .i64 4)] h110 (aEnd (fun v111 h112 =>
  bindV (still (aConv Pg h112 22 45 v111) h112) fun v113 h114 =>
  bindV (still (aFieldAddr Pg 51 p3 1) h114) fun v115 h116 =>
  bindV (still (aFieldAddr Pg 42 v115 1) h116) fun v117 h118 =>
  bindV (aStoreV Pg h118 40 v117 v109) fun _ h120 =>
  bindV (still (aFieldAddr Pg 51 p3 3) h120) fun v121 h122 =>
  bindV (aStoreV Pg h122 45 v121 v113) fun _ h124 =>
  ACalls Pg 43 [p2] h124 (aEnd (fun v125 h126 =>
  ACalls Pg 42 [p2] h126 (aEnd (fun v127 h128 =>
  bindV (still (aFieldAddr Pg 51 p3 4) h128) fun v129 h130 =>
  bindV (aStoreV Pg h130 47 v129 v125) fun _ h132 =>
  bindV (still (aFieldAddr Pg 51 p3 5) h132) fun v133 h134 =>
  bindV (aStoreV Pg h134 9 v133 v127) fun _ h136 =>
  Meet (J33_11111 (fun e _ => q e) ((40, [pR 0, pE 1]) :: []) (pR 0) (pE 1) p2 p3 h136)) fun v h => aLeaves Pg R33 (fun e _ => q e) [pR 0, pE 1] ((40, [pR 0, pE 1]) :: []) (some v) h)) fun v h => aLeaves Pg R33 (fun e _ => q e) [pR 0, pE 1] ((40, [pR 0, pE 1]) :: []) (some v) h)) fun v h => aLeaves Pg R33 (fun e _ => q e) [pR 0, pE 1] ((40, [pR 0, pE 1]) :: []) (some v) h)) fun v h => aLeaves Pg R33 (fun e _ => q e) [pR 0, pE 1] ((40, [pR 0, pE 1]) :: []) (some v) h)) (
  bindV (still (aBin Pg .eql 5 v21 (V.int .u8 3) true) h106) fun v137 h138 =>
  vcIf v137 (
  Meet (J33_111101011111 (fun e _ => q e) ((40, [pR 0, pE 1]) :: []) (pR 0) (pE 1) p2 p3 v21 v137 h138)) (
  bindV (still (aBin Pg .eql 5 v21 (V.int .u8 4) true) h138) fun v203 h204 =>
  vcIf v203 (
  Meet (J33_111101011111 (fun e _ => q e) ((40, [pR 0, pE 1]) :: []) (pR 0) (pE 1) p2 p3 v21 v203 h204)) (
  bindV (still (aBin Pg .eql 5 v21 (V.int .u8 5) true) h204) fun v205 h206 =>
  Meet (J33_111101011111 (fun e _ => q e) ((40, [pR 0, pE 1]) :: []) (pR 0) (pE 1) p2 p3 v21 v205 h206)))))) := by
      intro H st
      refine bindS_mk (fa_mk (by kernel_rfl)) ?_
      refine bindV_mk (ld_mk st.m3 (by kernel_rfl) (by with_unfolding_all exact rfl)) ?_
      by_cases k1 : k = 1
      · replace c : q (.ret (decV (parse1 k u))) := by have := c; unfold sel at this; rw [if_pos k1] at this; exact this
        unfold parse1 at c
        refine bindS_mk (b_eql_t (by show ((k : Nat) : Int) = 1; omega)) ?_
        refine i_t ?_
        refine num_step 1 (by decide) st c (fun ha st c => ?_)
        refine bindS_mk (b_eql) ?_
        refine num_step 2 (by decide) st c (fun hb st c => ?_)
        refine bindS_mk (cv_int (d := 40) .u16 (by kernel_rfl)) ?_
        rw [wv2]
        refine bindS_mk (build42' _ _) ?_
        refine bindS_mk (fa_mk (by kernel_rfl)) ?_
        refine bindV_mk (st_mk st.m3 (by kernel_rfl) (by with_unfolding_all exact rfl) (sh42 _ _) (v' := ({ Rc.z k with undo := (((valB u 0 1 : Nat) : Int) == 1), no := ((valB (u.drop 1) 0 2 : Nat) : Int) } : Rc).v) (by with_unfolding_all exact rfl)) ?_
        replace st := st.store ({ Rc.z k with undo := (((valB u 0 1 : Nat) : Int) == 1), no := ((valB (u.drop 1) 0 2 : Nat) : Int) } : Rc)
        refine txt_step st c (fun t u' ht st c => ?_)
        refine tail1 (t := t) st rfl q (by have := tt_len ht; omega) (valB u 0 1) c _ (fun hA hB hC => ?_)
        by_cases hu1 : 1 < valB u 0 1
        · refine bindS_mk (b_gtr_t (by omega)) ?_
          exact g_tf (Meet.of (hC hu1))
        · refine bindS_mk (b_gtr_f (by omega)) ?_
          refine g_ff ?_
          refine bindV_mk (len_str (by kernel_rfl)) ?_
          by_cases hl : t.length ≤ 224
          · refine bindS_mk (b_gtr_f (by omega)) ?_
            exact Meet.of (hA (by omega) hl)
          · refine bindS_mk (b_gtr_t (by omega)) ?_
            exact Meet.of (hB (by omega) hl)
      refine bindS_mk (b_eql_f (by show ¬ ((k : Nat) : Int) = 1; omega)) ?_
      refine i_f ?_
      by_cases k2 : k = 2
      · replace c : q (.ret (decV (parse2 k u))) := by have := c; unfold sel at this; rw [if_neg k1, if_pos k2] at this; exact this
        unfold parse2 at c
        refine bindS_mk (b_eql_t (by show ((k : Nat) : Int) = 2; omega)) ?_
        refine i_t ?_
        refine num_step 2 (by decide) st c (fun ha st c => ?_)
        refine bindS_mk (cv_int (d := 40) .u16 (by kernel_rfl)) ?_
        rw [wv2]
        refine num_step 4 (by decide) st c (fun hb st c => ?_)
        refine bindS_mk (cv_int (d := 45) .u32 (by kernel_rfl)) ?_
        rw [wv4]
        refine bindS_mk (fa_mk (by kernel_rfl)) ?_
        refine bindS_mk (fa_mk (by kernel_rfl)) ?_
        refine bindV_mk (st_mk st.m3 (by kernel_rfl) (by with_unfolding_all exact rfl) (sh40 _) (v' := ({ Rc.z k with no := ((valB u 0 2 : Nat) : Int) } : Rc).v) (by with_unfolding_all exact rfl)) ?_
        replace st := st.store ({ Rc.z k with no := ((valB u 0 2 : Nat) : Int) } : Rc)
        refine bindS_mk (fa_mk (by kernel_rfl)) ?_
        refine bindV_mk (st_mk st.m3 (by kernel_rfl) (by with_unfolding_all exact rfl) (sh45 _) (v' := ({ Rc.z k with no := ((valB u 0 2 : Nat) : Int), ts := ((valB (u.drop 2) 0 4 : Nat) : Int) } : Rc).v) (by with_unfolding_all exact rfl)) ?_
        replace st := st.store ({ Rc.z k with no := ((valB u 0 2 : Nat) : Int), ts := ((valB (u.drop 2) 0 4 : Nat) : Int) } : Rc)
        refine ref_step st c (fun h3 h2 st c => ?_)
        refine txt_step st c (fun t u9 ht st c => ?_)
        refine bindS_mk (fa_mk (by kernel_rfl)) ?_
        refine bindV_mk (st_mk st.m3 (by kernel_rfl) (by with_unfolding_all exact rfl) (shRef _ _) (v' := ({ Rc.z k with no := ((valB u 0 2 : Nat) : Int), ts := ((valB (u.drop 2) 0 4 : Nat) : Int), pp := ((valB ((u.drop 2).drop 4) 0 2 : Nat) : Int), ps := ((valB (((u.drop 2).drop 4).drop 2) 0 1 : Nat) : Int) } : Rc).v) (by with_unfolding_all exact rfl)) ?_
        replace st := st.store ({ Rc.z k with no := ((valB u 0 2 : Nat) : Int), ts := ((valB (u.drop 2) 0 4 : Nat) : Int), pp := ((valB ((u.drop 2).drop 4) 0 2 : Nat) : Int), ps := ((valB (((u.drop 2).drop 4).drop 2) 0 1 : Nat) : Int) } : Rc)
        refine bindS_mk (fa_mk (by kernel_rfl)) ?_
        refine bindV_mk (st_mk st.m3 (by kernel_rfl) (by with_unfolding_all exact rfl) (shS _) (v' := ({ Rc.z k with no := ((valB u 0 2 : Nat) : Int), ts := ((valB (u.drop 2) 0 4 : Nat) : Int), pp := ((valB ((u.drop 2).drop 4) 0 2 : Nat) : Int), ps := ((valB (((u.drop 2).drop 4).drop 2) 0 1 : Nat) : Int), dl := t } : Rc).v) (by with_unfolding_all exact rfl)) ?_
        replace st := st.store ({ Rc.z k with no := ((valB u 0 2 : Nat) : Int), ts := ((valB (u.drop 2) 0 4 : Nat) : Int), pp := ((valB ((u.drop 2).drop 4) 0 2 : Nat) : Int), ps := ((valB (((u.drop 2).drop 4).drop 2) 0 1 : Nat) : Int), dl := t } : Rc)
        exact Meet.of (fin33 st im00 q c)
      refine bindS_mk (b_eql_f (by show ¬ ((k : Nat) : Int) = 2; omega)) ?_
      refine i_f ?_
      by_cases k3 : k = 3
      · have c1 : q (.ret (decV (parse345 k u))) := by have := c; unfold sel at this; rw [if_neg k1, if_neg k2, if_pos (.inl k3)] at this; exact this
        subst k3
        refine bindS_mk (b_eql_t rfl) ?_
        exact i_t (Meet.of (w3 st c1))
      refine bindS_mk (b_eql_f (by show ¬ ((k : Nat) : Int) = 3; omega)) ?_
      refine i_f ?_
      by_cases k4 : k = 4
      · have c1 : q (.ret (decV (parse345 k u))) := by have := c; unfold sel at this; rw [if_neg k1, if_neg k2, if_pos (.inr (.inl k4))] at this; exact this
        refine bindS_mk (b_eql_t (by show ((k : Nat) : Int) = 4; omega)) ?_
        exact i_t (Meet.of (w45 k k3 st c1))
      refine bindS_mk (b_eql_f (by show ¬ ((k : Nat) : Int) = 4; omega)) ?_
      refine i_f ?_
      by_cases k5 : k = 5
      · have c1 : q (.ret (decV (parse345 k u))) := by have := c; unfold sel at this; rw [if_neg k1, if_neg k2, if_pos (.inr (.inr k5))] at this; exact this
        refine bindS_mk (b_eql_t (by show ((k : Nat) : Int) = 5; omega)) ?_
        exact Meet.of (w45 k k3 st c1)
      have c1 : q (.ret (decV (if k = 6 then parse6 k u else fin (Rc.z k) u))) := by
        have := c; unfold sel at this; rw [if_neg k1, if_neg k2, if_neg (by omega)] at this; exact this
      refine bindS_mk (b_eql_f (by show ¬ ((k : Nat) : Int) = 5; omega)) ?_
      exact Meet.of (w6 k st c1)
    exact goal _ st
  · have e : (tk 1 s).bind (fun k => sel k.1 k.2) = none := by unfold tk; rw [if_neg h1]; rfl
    rw [e] at c
    refine callP_mk (num0 2 s 1 (by decide) (by omega) (memA s) rfl) ?_
    exact leaveP 0 1 (memA s) (rz 0) 0 (by decide) (by show 0 < 3; decide) (by show 1 < 3; decide) rfl rfl q c
end Go.Proofs.Ytdhlolcpcgpcnaa.Sh
