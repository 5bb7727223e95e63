import Derived.Test.YtdhlolcpcgpcnaaSf
set_option linter.unusedVariables false
set_option linter.unusedSimpArgs false
namespace Go.Proofs.Ytdhlolcpcgpcnaa.Sh
open Go Go.Ab Go.RowKit Go.Gr
set_option linter.unusedSimpArgs false
set_option linter.unusedVariables false
set_option maxRecDepth 10000
def regId : Code → Nat
  | .region id _ _ => id
  | _ => 0
noncomputable def o40 (i : Nat) : Oper := (regOps (subC ((Try.f40.body).getD .skip) [0])).toList.getD i default
theorem body40 : Try.f40.body = some (.seq (.region (regId (subC ((Try.f40.body).getD .skip) [0])) #[o40 0, o40 1] false) B40) := by kernel_rfl
theorem zero73 : zeroV Pg 73 = some (.agg []) := by kernel_rfl
theorem sh73 : hasShape Pg (.agg []) 73 = true := by kernel_rfl
theorem as73 : aAssert Pg 73 tooShort = some (.tup [.agg [], .bool true]) := by kernel_rfl
theorem as0 : aAssert Pg 73 .nilIfc = some (.tup [.agg [], .bool false]) := by kernel_rfl
theorem ne20 : aBin Pg .neq 20 .nilIfc .nilIfc true = some (.bool false) := by kernel_rfl
abbrev pR (n : Nat) : V := .ptr (some ⟨n, .one 51, []⟩)
abbrev pE (n : Nat) : V := .ptr (some ⟨n, .one 52, []⟩)
theorem adc40 (a0 a1 : V) (m : Option V) (h : AH) (R : Option V → AH → Prop) (c : vc Pg N40 B40 K40 (recQ m R) [(2, recV m), (5, recV m), (0, a0), (1, a1)] h) : ADC Pg 40 [a0, a1] m h R :=
  have e : Env.put N40 (o40 1).dst (Env.get (Env.put N40 (some 5) (recV m) (initEnv 0 [a0, a1])) 5) (Env.put N40 (some 5) (recV m) (initEnv 0 [a0, a1])) = [(2, recV m), (5, recV m), (0, a0), (1, a1)] := by kernel_rfl
  adc_recover (d := 5) okP Try.func40 body40 (by kernel_rfl) (by kernel_rfl) (by kernel_rfl) (by kernel_rfl) K40 N40 (by kernel_rfl) (by rw [e]; exact c)
/-- What was there stays. -/
def Keeps (h h' : AH) : Prop := ∀ n, n < h.next → h'.m n = h.m n
theorem df40n (a0 a1 : V) (h : AH) : ADC Pg 40 [a0, a1] none h fun m' h' => m' = none ∧ Keeps h h' := by
  refine adc40 a0 a1 none h _ ?_
  rw [S40]
  refine bindS_mk as0 ?_
  refine bindS_mk (show aExtract _ _ = some _ from rfl) ?_
  refine bindS_mk (show aExtract _ _ = some _ from rfl) ?_
  refine bindV_mk (al_mk zero73 sh73) ?_
  refine bindV_mk (st_mk (v := .agg []) (by rw [make_m, if_pos rfl]) (by kernel_rfl) (by with_unfolding_all exact rfl) sh73 (by with_unfolding_all exact rfl)) ?_
  refine i_f ?_
  refine bindS_mk ne20 ?_
  refine i_f ?_
  refine ⟨rfl, fun n hn => ?_⟩
  rw [put_m, if_neg (by omega), make_m, if_neg (by omega)]
theorem sh52 (x : Int) : hasShape Pg (.int .i64 x) 52 = true := by kernel_rfl
theorem build51z : aBuild Pg 51 [] = some (rz 0) := by kernel_rfl
theorem df40p (n0 n1 : Nat) (h : AH) (v0 : V) (x1 : Int) (h01 : n0 ≠ n1) (hl0 : n0 < h.next) (hl1 : n1 < h.next) (hm0 : h.m n0 = some (.cells true (.one 51) v0)) (hm1 : h.m n1 = some (.cells true (.one 52) (.int .i64 x1))) :
    ADC Pg 40 [pR n0, pE n1] (some tooShort) h fun m' h' => m' = none ∧ h'.m n0 = some (.cells true (.one 51) (rz 0)) ∧ h'.m n1 = some (.cells true (.one 52) (.int .i64 2)) := by
  refine adc40 _ _ _ h _ ?_
  rw [S40]
  refine bindS_mk as73 ?_
  refine bindS_mk (show aExtract _ _ = some _ from rfl) ?_
  refine bindS_mk (show aExtract _ _ = some _ from rfl) ?_
  refine bindV_mk (al_mk zero73 sh73) ?_
  refine bindV_mk (st_mk (v := .agg []) (by rw [make_m, if_pos rfl]) (by kernel_rfl) (by with_unfolding_all exact rfl) sh73 (by with_unfolding_all exact rfl)) ?_
  refine i_t ?_
  refine bindS_mk build51z ?_
  refine bindV_mk (st_mk (v := v0) (by rw [put_m, if_neg (by omega), make_m, if_neg (by omega)]; exact hm0) (by kernel_rfl) (by with_unfolding_all exact rfl) (shRz 0) (by with_unfolding_all exact rfl)) ?_
  refine bindV_mk (st_mk (v := .int .i64 x1) (by rw [put_m, if_neg (by omega), put_m, if_neg (by omega), make_m, if_neg (by omega)]; exact hm1) (by kernel_rfl) (by with_unfolding_all exact rfl) (sh52 2) (by with_unfolding_all exact rfl)) ?_
  refine ⟨rfl, ?_, ?_⟩
  · rw [put_m, if_neg h01, put_m, if_pos rfl]
  · rw [put_m, if_pos rfl]
/-- What Decode gives. -/
def decV : Option Rc → V
  | some r => .tup [r.v, .int .i64 0]
  | none => .tup [(Rc.z 0).v, .int .i64 2]
theorem resV33 (n0 n1 : Nat) (h : AH) (r : Rc) (x : Int) (hm0 : h.m n0 = some (.cells true (.one 51) r.v)) (hm1 : h.m n1 = some (.cells true (.one 52) (.int .i64 x))) : aResV Pg h R33 [pR n0, pE n1] = some [r.v, .int .i64 x] := by
  have e1 := ld_mk (P := Pg) (t := 51) (p := []) hm0 (by kernel_rfl) (w := r.v) rfl
  have e2 := ld_mk (P := Pg) (t := 52) (p := []) hm1 (by kernel_rfl) (w := .int .i64 x) rfl
  simp only [aLoadV] at e1 e2
  simp only [R33, aResV, (still_some e1).1, (still_some e2).1]
abbrev dsD (n0 n1 : Nat) : List AD := [(40, [pR n0, pE n1])]
/-- Decode ends with what lies in its results. -/
theorem leaveN (n0 n1 : Nat) (h : AH) (r : Rc) (x : Int) (hl0 : n0 < h.next) (hl1 : n1 < h.next) (hm0 : h.m n0 = some (.cells true (.one 51) r.v)) (hm1 : h.m n1 = some (.cells true (.one 52) (.int .i64 x))) (q : AEnd → Prop) (c : q (.ret (.tup [r.v, .int .i64 x]))) :
    aLeaves Pg R33 (fun e _ => q e) [pR n0, pE n1] (dsD n0 n1) none h := by
  refine (df40n (pR n0) (pE n1) h).mono ?_
  rintro m h' ⟨rfl, k⟩
  simp only [aLeaves]
  refine bindR_mk (resV33 n0 n1 h' r x (by rw [k n0 hl0]; exact hm0) (by rw [k n1 hl1]; exact hm1)) ?_
  exact c
theorem leaveP (n0 n1 : Nat) (h : AH) (v0 : V) (x1 : Int) (h01 : n0 ≠ n1) (hl0 : n0 < h.next) (hl1 : n1 < h.next) (hm0 : h.m n0 = some (.cells true (.one 51) v0)) (hm1 : h.m n1 = some (.cells true (.one 52) (.int .i64 x1))) (q : AEnd → Prop) (c : q (.ret (decV none))) :
    aLeaves Pg R33 (fun e _ => q e) [pR n0, pE n1] (dsD n0 n1) (some tooShort) h := by
  refine (df40p n0 n1 h v0 x1 h01 hl0 hl1 hm0 hm1).mono ?_
  rintro m h' ⟨rfl, k0, k1⟩
  simp only [aLeaves]
  refine bindR_mk (resV33 n0 n1 h' (Rc.z 0) 2 k0 k1) ?_
  exact c
end Go.Proofs.Ytdhlolcpcgpcnaa.Sh
namespace Go.Proofs.Ytdhlolcpcgpcnaa.Sh
open Go Go.Ab Go.RowKit Go.Gr
set_option linter.unusedSimpArgs false
set_option linter.unusedVariables false
set_option maxRecDepth 10000
def fin (r : Rc) (u : List UInt8) : Option Rc := if u = [] ∧ r.may = true then some r else none
def imZ (t : List UInt8) : List Int := (t.map fun b => (b.toNat : Int)) ++ List.replicate (224 - t.length) 0
/-- A reference, and the rest. -/
def tr (s : List UInt8) : Option ((Nat × Nat) × List UInt8) := if 3 ≤ s.length then some ((valB s 0 2, valB (s.drop 2) 0 1), s.drop 3) else none
def badIm (u : Nat) (t : List UInt8) : Bool := decide (1 < u) || (decide (224 < t.length) || (decide (0 < t.length) && (t.getD (t.length - 1) 0 == 0)))
def parse1 (k : Nat) (s : List UInt8) : Option Rc :=
  (tk 1 s).bind fun u => (tk 2 u.2).bind fun no => (tt no.2).bind fun t =>
    if badIm u.1 t.1 = true then none else fin { Rc.z k with undo := ((u.1 : Int) == 1), no := (no.1 : Int), im := imZ t.1 } t.2
def parse2 (k : Nat) (s : List UInt8) : Option Rc :=
  (tk 2 s).bind fun no => (tk 4 no.2).bind fun ts => (tr ts.2).bind fun p => (tt p.2).bind fun t =>
    fin { Rc.z k with no := (no.1 : Int), ts := (ts.1 : Int), pp := (p.1.1 : Int), ps := (p.1.2 : Int), dl := t.1 } t.2
def parse345 (k : Nat) (s : List UInt8) : Option Rc :=
  (tk 2 s).bind fun no => (tk 1 no.2).bind fun sl =>
    if k = 3 then (tk 2 sl.2).bind fun op => (tk 4 op.2).bind fun ots => (tr ots.2).bind fun p => (tt p.2).bind fun t =>
      fin { Rc.z k with undo := true, no := (no.1 : Int), sl := (sl.1 : Int), live := true, op := (op.1 : Int), ots := (ots.1 : Int), onp := (p.1.1 : Int), ons := (p.1.2 : Int), od := t.1 } t.2
    else fin { Rc.z k with undo := true, no := (no.1 : Int), sl := (sl.1 : Int) } sl.2
def parse6 (k : Nat) (s : List UInt8) : Option Rc := (tk 4 s).bind fun ts => fin { Rc.z k with ts := (ts.1 : Int) } ts.2
/-- The record that bytes are. -/
def parse (s : List UInt8) : Option Rc :=
  (tk 1 s).bind fun k =>
    if k.1 = 1 then parse1 k.1 k.2 else if k.1 = 2 then parse2 k.1 k.2 else if k.1 = 3 ∨ k.1 = 4 ∨ k.1 = 5 then parse345 k.1 k.2 else if k.1 = 6 then parse6 k.1 k.2 else fin (Rc.z k.1) k.2
structure St4 (h : AH) (s : List UInt8) (r : Rc) : Prop where
  next : 4 ≤ h.next
  m0 : h.m 0 = some (.cells true (.one 51) (rz 0))
  m1 : h.m 1 = some (.cells true (.one 52) (.int .i64 0))
  m2 : h.m 2 = some (rdO s)
  m3 : h.m 3 = some (.cells true (.one 51) r.v)
  hs : s.length < 140737488355328
theorem St4.put2 {h : AH} {s : List UInt8} {r : Rc} (st : St4 h s r) (u : List UInt8) (hu : u.length < 140737488355328) : St4 (h.put 2 (rdO u)) u r :=
  ⟨st.next, by rw [put_m, if_neg (by decide)]; exact st.m0, by rw [put_m, if_neg (by decide)]; exact st.m1, by rw [put_m, if_pos rfl], by rw [put_m, if_neg (by decide)]; exact st.m3, hu⟩
theorem St4.store {h : AH} {s : List UInt8} {r : Rc} (st : St4 h s r) (r' : Rc) : St4 (h.put 3 (.cells true (.one 51) r'.v)) s r' :=
  ⟨st.next, by rw [put_m, if_neg (by decide)]; exact st.m0, by rw [put_m, if_neg (by decide)]; exact st.m1, by rw [put_m, if_neg (by decide)]; exact st.m2, by rw [put_m, if_pos rfl], st.hs⟩
theorem St4.ref {h : AH} {s : List UInt8} {r : Rc} (st : St4 h s r) (u : List UInt8) (hu : u.length < 140737488355328) (p q : Int) : St4 (refH h 2 u p q) u r := by
  have hn := st.next
  unfold refH
  refine ⟨by simp only [put_next, make_next]; omega, ?_, ?_, ?_, ?_, hu⟩
  · rw [put_m, if_neg (by omega), put_m, if_neg (by decide), make_m, if_neg (by omega)]; exact st.m0
  · rw [put_m, if_neg (by omega), put_m, if_neg (by decide), make_m, if_neg (by omega)]; exact st.m1
  · rw [put_m, if_neg (by omega), put_m, if_pos rfl]
  · rw [put_m, if_neg (by omega), put_m, if_neg (by decide), make_m, if_neg (by omega)]; exact st.m3
abbrev p3 : V := .ptr (some ⟨3, .one 51, []⟩)
abbrev p2 : V := .ptr (some ⟨2, .one 77, []⟩)
theorem St4.leaveP {h : AH} {s : List UInt8} {r : Rc} (st : St4 h s r) (q : AEnd → Prop) (c : q (.ret (decV none))) : aLeaves Pg R33 (fun e _ => q e) [pR 0, pE 1] (dsD 0 1) (some tooShort) h :=
  Sh.leaveP 0 1 h _ _ (by decide) (by have := st.next; omega) (by have := st.next; omega) st.m0 st.m1 q c
theorem num_step {h : AH} {s : List UInt8} {r : Rc} {q : AEnd → Prop} {K : V → AH → Prop} {F : Nat × List UInt8 → Option Rc} (k : Nat) (hk : k ≤ 8) (st : St4 h s r) (c : q (.ret (decV ((tk k s).bind F))))
    (next : k ≤ s.length → St4 (h.put 2 (rdO (s.drop k))) (s.drop k) r → q (.ret (decV (F (valB s 0 k, s.drop k)))) → K (.int .u64 ((valB s 0 k : Nat) : Int)) (h.put 2 (rdO (s.drop k)))) :
    ACalls Pg 41 [p2, .int .i64 (k : Int)] h (aEnd K fun v h => aLeaves Pg R33 (fun e _ => q e) [pR 0, pE 1] (dsD 0 1) (some v) h) := by
  by_cases hl : k ≤ s.length
  · have e : (tk k s).bind F = F (valB s 0 k, s.drop k) := by unfold tk; rw [if_pos hl]; rfl
    rw [e] at c
    exact callW_mk (numP 2 s k hk hl st.hs h st.m2) (next hl (st.put2 _ (by have := st.hs; simp; omega)) c)
  · have e : (tk k s).bind F = none := by unfold tk; rw [if_neg hl]; rfl
    rw [e] at c
    exact callP_mk (num0 2 s k hk (by omega) h st.m2) (st.leaveP q c)
theorem tt_le {s t u : List UInt8} (h : tt s = some (t, u)) : u.length ≤ s.length := by
  unfold tt tk at h
  by_cases h1 : 1 ≤ s.length
  · rw [if_pos h1, Option.bind_some] at h
    simp only at h
    split at h
    · cases h; simp
    · cases h
  · rw [if_neg h1] at h; cases h
theorem txt_step {h : AH} {s : List UInt8} {r : Rc} {q : AEnd → Prop} {K : V → AH → Prop} {F : List UInt8 × List UInt8 → Option Rc} (st : St4 h s r) (c : q (.ret (decV ((tt s).bind F))))
    (next : ∀ t u, tt s = some (t, u) → St4 (h.put 2 (rdO u)) u r → q (.ret (decV (F (t, u)))) → K (.str t) (h.put 2 (rdO u))) :
    ACalls Pg 42 [p2] h (aEnd K fun v h => aLeaves Pg R33 (fun e _ => q e) [pR 0, pE 1] (dsD 0 1) (some v) h) := by
  cases ht : tt s with
  | none =>
    rw [ht] at c
    obtain ⟨u, hu⟩ := text0 2 s ht st.hs h st.m2
    refine callP_mk hu ?_
    exact Sh.leaveP 0 1 _ _ _ (by decide) (by have := st.next; simp only [put_next]; omega) (by have := st.next; simp only [put_next]; omega) (by rw [put_m, if_neg (by decide)]; exact st.m0) (by rw [put_m, if_neg (by decide)]; exact st.m1) q c
  | some p =>
    obtain ⟨t, u⟩ := p
    rw [ht] at c
    exact callW_mk (textP 2 s t u ht st.hs h st.m2) (next t u ht (st.put2 u (by have := st.hs; have := tt_le ht; omega)) c)
theorem ref_step {h : AH} {s : List UInt8} {r : Rc} {q : AEnd → Prop} {K : V → AH → Prop} {F : (Nat × Nat) × List UInt8 → Option Rc} (st : St4 h s r) (c : q (.ret (decV ((tr s).bind F))))
    (next : 3 ≤ s.length → ∀ h', St4 h' (s.drop 3) r → q (.ret (decV (F ((valB s 0 2, valB (s.drop 2) 0 1), s.drop 3)))) → K (vRef ((valB s 0 2 : Nat) : Int) ((valB (s.drop 2) 0 1 : Nat) : Int)) h') :
    ACalls Pg 43 [p2] h (aEnd K fun v h => aLeaves Pg R33 (fun e _ => q e) [pR 0, pE 1] (dsD 0 1) (some v) h) := by
  have hn := st.next
  by_cases hl : 3 ≤ s.length
  · have e : (tr s).bind F = F ((valB s 0 2, valB (s.drop 2) 0 1), s.drop 3) := by unfold tr; rw [if_pos hl]; rfl
    rw [e] at c
    exact callW_mk (refRP 2 s hl st.hs h (by omega) st.m2) (next hl _ (st.ref _ (by have := st.hs; simp; omega) _ _) c)
  · have e : (tr s).bind F = none := by unfold tr; rw [if_neg hl]; rfl
    rw [e] at c
    obtain ⟨u, hu⟩ := refR0 2 s (by omega) h (by omega) st.m2
    refine callP_mk hu ?_
    refine Sh.leaveP 0 1 _ (rz 0) 0 (by decide) (by simp only [put_next, make_next]; omega) (by simp only [put_next, make_next]; omega) ?_ ?_ q c
    · rw [put_m, if_neg (by decide), make_m, if_neg (by omega)]; exact st.m0
    · rw [put_m, if_neg (by decide), make_m, if_neg (by omega)]; exact st.m1
theorem zeroEnd {h : AH} {s : List UInt8} {r : Rc} (st : St4 h s r) (q : AEnd → Prop) (c : q (.ret (decV none))) :
    aLeaves Pg R33 (fun e _ => q e) [pR 0, pE 1] (dsD 0 1) none ((h.put 0 (.cells true (.one 51) (rz 0))).put 1 (.cells true (.one 52) (.int .i64 2))) := by
  have hn := st.next
  exact leaveN 0 1 _ (Rc.z 0) 2 (by simp only [put_next]; omega) (by simp only [put_next]; omega) (by rw [put_m, if_neg (by decide), put_m, if_pos rfl]; rfl) (by rw [put_m, if_pos rfl]) q c
theorem st0 (h : AH) (v : V) (hm : h.m 0 = some (.cells true (.one 51) v)) (r : Rc) (hr : r.im.length = 224) : aStoreV Pg h 51 (pR 0) r.v = some (hole, h.put 0 (.cells true (.one 51) r.v)) :=
  st_mk hm (by kernel_rfl) rfl (shR r hr) rfl
theorem st1 (h : AH) (x y : Int) (hm : h.m 1 = some (.cells true (.one 52) (.int .i64 x))) : aStoreV Pg h 52 (pE 1) (.int .i64 y) = some (hole, h.put 1 (.cells true (.one 52) (.int .i64 y))) :=
  st_mk hm (by kernel_rfl) rfl (sh52 y) rfl
theorem neqS (a b : List UInt8) (h : a = b) {t : TypeId} {c : Bool} : aBin Pg .neq t (.str a) (.str b) c = some (.bool false) := by rw [t_neq, h]; simp
theorem neqSt (a b : List UInt8) (h : ¬ a = b) {t : TypeId} {c : Bool} : aBin Pg .neq t (.str a) (.str b) c = some (.bool true) := by rw [t_neq]; simp [h]
theorem fin33 {h : AH} {s : List UInt8} {r : Rc} (st : St4 h s r) (hi : r.im.length = 224) (q : AEnd → Prop) (c : q (.ret (decV (fin r s)))) : J33_11111 (fun e _ => q e) (dsD 0 1) (pR 0) (pE 1) p2 p3 h := by
  have hn := st.next
  have bad : fin r s = none → J33_1111101 (fun e _ => q e) (dsD 0 1) (pR 0) (pE 1) p3 (.bool true) h := by
    intro hf
    rw [hf] at c
    rw [J33_1111101_eq]
    refine i_t ?_
    refine bindS_mk build51z ?_
    refine bindV_mk (st0 _ _ st.m0 (Rc.z 0) (List.length_replicate ..)) ?_
    refine bindV_mk (st1 _ 0 2 (by rw [put_m, if_neg (by decide)]; exact st.m1)) ?_
    exact zeroEnd st q c
  rw [J33_11111_eq]
  refine bindV_mk (nil_mk _ _) ?_
  refine bindS_mk (fa_mk (by kernel_rfl)) ?_
  refine bindV_mk (ld_mk st.m2 (by kernel_rfl) (by with_unfolding_all exact rfl)) ?_
  by_cases hs0 : s = []
  · refine bindS_mk (neqS s [] hs0) ?_
    refine g_ff ?_
    refine bindV_mk (ld_mk st.m3 (by kernel_rfl) (by with_unfolding_all exact rfl)) ?_
    refine call_mk (mayP r hi _) ?_
    cases m : r.may with
    | false =>
      refine bindS_mk u_not ?_
      refine Meet.of (cast_p (G33_11111001002_eq _ _ _ _ _ _ _ _) ?_)
      refine bindV_mk p_f ?_
      exact Meet.of (bad (by unfold fin; rw [if_neg (by rw [m]; simp)]))
    | true =>
      refine bindS_mk u_not ?_
      refine Meet.of (cast_p (G33_11111001002_eq _ _ _ _ _ _ _ _) ?_)
      refine bindV_mk p_f ?_
      refine Meet.of (cast_p (J33_1111101_eq _ _ _ _ _ _ _) ?_)
      refine i_f ?_
      refine Meet.of (cast_p (J33_111111_eq _ _ _ _ _ _) ?_)
      refine bindV_mk (ld_mk st.m3 (by kernel_rfl) (by with_unfolding_all exact rfl)) ?_
      have hf : fin r s = some r := by unfold fin; rw [if_pos ⟨hs0, m⟩]
      rw [hf] at c
      refine bindV_mk (st0 _ _ st.m0 r hi) ?_
      refine bindV_mk (st1 _ 0 0 (by rw [put_m, if_neg (by decide)]; exact st.m1)) ?_
      exact leaveN 0 1 _ r 0 (by simp only [put_next]; omega) (by simp only [put_next]; omega) (by rw [put_m, if_neg (by decide), put_m, if_pos rfl]) (by rw [put_m, if_pos rfl]) q c
  · refine bindS_mk (neqSt s [] hs0) ?_
    refine g_tf ?_
    refine Meet.of (cast_p (G33_11111001002_eq _ _ _ _ _ _ _ _) ?_)
    refine bindV_mk p_t ?_
    exact Meet.of (bad (by unfold fin; rw [if_neg (fun h => hs0 h.1)]))
end Go.Proofs.Ytdhlolcpcgpcnaa.Sh
namespace Go.Proofs.Ytdhlolcpcgpcnaa.Sh
open Go Go.Ab Go.RowKit Go.Gr
set_option linter.unusedSimpArgs false
set_option linter.unusedVariables false
set_option maxRecDepth 10000
theorem wv1 (s : List UInt8) : IntKind.u8.wrap ((valB s 0 1 : Nat) : Int) = ((valB s 0 1 : Nat) : Int) := by have := valB_lt s 1 0; rw [wrap_u8]; omega
theorem wv2 (s : List UInt8) : IntKind.u16.wrap ((valB s 0 2 : Nat) : Int) = ((valB s 0 2 : Nat) : Int) := by have := valB_lt s 2 0; rw [wrap_u16]; omega
theorem wv4 (s : List UInt8) : IntKind.u32.wrap ((valB s 0 4 : Nat) : Int) = ((valB s 0 4 : Nat) : Int) := by have := valB_lt s 4 0; rw [wrap_u32]; omega
theorem build42' (b : Bool) (n : Int) : aBuild Pg 42 [(0, .bool b), (1, .int .u16 n)] = some (vPg b n) := by kernel_rfl
theorem build49' (p t : Int) : aBuild Pg 49 [(0, .bool true), (1, .int .u16 p), (2, .int .u32 t)] = some (vOld true p t 0 0 []) := by kernel_rfl
theorem sh42 (b : Bool) (n : Int) : hasShape Pg (vPg b n) 42 = true := by kernel_rfl
theorem sh49 (a : Bool) (b c d e : Int) (f : List UInt8) : hasShape Pg (vOld a b c d e f) 49 = true := by kernel_rfl
theorem sh5 (n : Int) : hasShape Pg (.int .u8 n) 5 = true := by kernel_rfl
theorem sh40 (n : Int) : hasShape Pg (.int .u16 n) 40 = true := by kernel_rfl
theorem sh45 (n : Int) : hasShape Pg (.int .u32 n) 45 = true := by kernel_rfl
theorem im00 : im0.length = 224 := List.length_replicate ..
theorem w3 {h : AH} {s : List UInt8} {q : AEnd → Prop} (st : St4 h s (Rc.z 3)) (c : q (.ret (decV (parse345 3 s)))) : J33_111101011111 (fun e _ => q e) (dsD 0 1) (pR 0) (pE 1) p2 p3 (.int .u8 3) (.bool true) h := by
  unfold parse345 at c
  simp only [if_true] at c
  rw [J33_111101011111_eq]
  refine i_t ?_
  refine num_step 2 (by decide) st c (fun ha st c => ?_)
  refine bindS_mk (cv_int (d := 40) .u16 (by kernel_rfl)) ?_
  rw [wv2]
  refine bindS_mk (build42' _ _) ?_
  refine bindS_mk (fa_mk (by kernel_rfl)) ?_
  refine bindV_mk (st_mk st.m3 (by kernel_rfl) (by with_unfolding_all exact rfl) (sh42 _ _) (v' := ({ Rc.z 3 with undo := true, no := ((valB s 0 2 : Nat) : Int) } : Rc).v) (by with_unfolding_all exact rfl)) ?_
  replace st := st.store ({ Rc.z 3 with undo := true, no := ((valB s 0 2 : Nat) : Int) } : Rc)
  refine num_step 1 (by decide) st c (fun hb st c => ?_)
  refine bindS_mk (cv_int (d := 5) .u8 (by kernel_rfl)) ?_
  rw [wv1]
  refine bindS_mk (fa_mk (by kernel_rfl)) ?_
  refine bindV_mk (st_mk st.m3 (by kernel_rfl) (by with_unfolding_all exact rfl) (sh5 _) (v' := ({ Rc.z 3 with undo := true, no := ((valB s 0 2 : Nat) : Int), sl := ((valB (s.drop 2) 0 1 : Nat) : Int) } : Rc).v) (by with_unfolding_all exact rfl)) ?_
  replace st := st.store ({ Rc.z 3 with undo := true, no := ((valB s 0 2 : Nat) : Int), sl := ((valB (s.drop 2) 0 1 : Nat) : Int) } : Rc)
  refine bindS_mk (fa_mk (by kernel_rfl)) ?_
  refine bindV_mk (ld_mk st.m3 (by kernel_rfl) (by with_unfolding_all exact rfl)) ?_
  refine bindS_mk (b_eql_t rfl) ?_
  refine i_t ?_
  refine num_step 2 (by decide) st c (fun hc st c => ?_)
  refine bindS_mk (cv_int (d := 40) .u16 (by kernel_rfl)) ?_
  rw [wv2]
  refine num_step 4 (by decide) st c (fun hd st c => ?_)
  refine bindS_mk (cv_int (d := 45) .u32 (by kernel_rfl)) ?_
  rw [wv4]
  refine bindS_mk (build49' _ _) ?_
  refine bindS_mk (fa_mk (by kernel_rfl)) ?_
  refine bindV_mk (st_mk st.m3 (by kernel_rfl) (by with_unfolding_all exact rfl) (sh49 _ _ _ _ _ _) (v' := ({ Rc.z 3 with undo := true, no := ((valB s 0 2 : Nat) : Int), sl := ((valB (s.drop 2) 0 1 : Nat) : Int), live := true, op := ((valB ((s.drop 2).drop 1) 0 2 : Nat) : Int), ots := ((valB (((s.drop 2).drop 1).drop 2) 0 4 : Nat) : Int) } : Rc).v) (by with_unfolding_all exact rfl)) ?_
  replace st := st.store ({ Rc.z 3 with undo := true, no := ((valB s 0 2 : Nat) : Int), sl := ((valB (s.drop 2) 0 1 : Nat) : Int), live := true, op := ((valB ((s.drop 2).drop 1) 0 2 : Nat) : Int), ots := ((valB (((s.drop 2).drop 1).drop 2) 0 4 : Nat) : Int) } : Rc)
  refine ref_step st c (fun h3 h2 st c => ?_)
  refine txt_step st c (fun t u9 ht st c => ?_)
  refine bindS_mk (fa_mk (by kernel_rfl)) ?_
  refine bindS_mk (fa_mk (by kernel_rfl)) ?_
  refine bindV_mk (st_mk st.m3 (by kernel_rfl) (by with_unfolding_all exact rfl) (shRef _ _) (v' := ({ Rc.z 3 with undo := true, no := ((valB s 0 2 : Nat) : Int), sl := ((valB (s.drop 2) 0 1 : Nat) : Int), live := true, op := ((valB ((s.drop 2).drop 1) 0 2 : Nat) : Int), ots := ((valB (((s.drop 2).drop 1).drop 2) 0 4 : Nat) : Int), onp := ((valB ((((s.drop 2).drop 1).drop 2).drop 4) 0 2 : Nat) : Int), ons := ((valB (((((s.drop 2).drop 1).drop 2).drop 4).drop 2) 0 1 : Nat) : Int) } : Rc).v) (by with_unfolding_all exact rfl)) ?_
  replace st := st.store ({ Rc.z 3 with undo := true, no := ((valB s 0 2 : Nat) : Int), sl := ((valB (s.drop 2) 0 1 : Nat) : Int), live := true, op := ((valB ((s.drop 2).drop 1) 0 2 : Nat) : Int), ots := ((valB (((s.drop 2).drop 1).drop 2) 0 4 : Nat) : Int), onp := ((valB ((((s.drop 2).drop 1).drop 2).drop 4) 0 2 : Nat) : Int), ons := ((valB (((((s.drop 2).drop 1).drop 2).drop 4).drop 2) 0 1 : Nat) : Int) } : Rc)
  refine bindS_mk (fa_mk (by kernel_rfl)) ?_
  refine bindS_mk (fa_mk (by kernel_rfl)) ?_
  refine bindV_mk (st_mk st.m3 (by kernel_rfl) (by with_unfolding_all exact rfl) (shS _) (v' := ({ Rc.z 3 with undo := true, no := ((valB s 0 2 : Nat) : Int), sl := ((valB (s.drop 2) 0 1 : Nat) : Int), live := true, op := ((valB ((s.drop 2).drop 1) 0 2 : Nat) : Int), ots := ((valB (((s.drop 2).drop 1).drop 2) 0 4 : Nat) : Int), onp := ((valB ((((s.drop 2).drop 1).drop 2).drop 4) 0 2 : Nat) : Int), ons := ((valB (((((s.drop 2).drop 1).drop 2).drop 4).drop 2) 0 1 : Nat) : Int), od := t } : Rc).v) (by with_unfolding_all exact rfl)) ?_
  replace st := st.store ({ Rc.z 3 with undo := true, no := ((valB s 0 2 : Nat) : Int), sl := ((valB (s.drop 2) 0 1 : Nat) : Int), live := true, op := ((valB ((s.drop 2).drop 1) 0 2 : Nat) : Int), ots := ((valB (((s.drop 2).drop 1).drop 2) 0 4 : Nat) : Int), onp := ((valB ((((s.drop 2).drop 1).drop 2).drop 4) 0 2 : Nat) : Int), ons := ((valB (((((s.drop 2).drop 1).drop 2).drop 4).drop 2) 0 1 : Nat) : Int), od := t } : Rc)
  exact Meet.of (fin33 st im00 q c)
theorem w45 {h : AH} {s : List UInt8} {q : AEnd → Prop} (k : Nat) (k3 : ¬ k = 3) (st : St4 h s (Rc.z k)) (c : q (.ret (decV (parse345 k s)))) : J33_111101011111 (fun e _ => q e) (dsD 0 1) (pR 0) (pE 1) p2 p3 (.int .u8 (k : Int)) (.bool true) h := by
  unfold parse345 at c
  simp only [k3, if_false] at c
  rw [J33_111101011111_eq]
  refine i_t ?_
  refine num_step 2 (by decide) st c (fun ha st c => ?_)
  refine bindS_mk (cv_int (d := 40) .u16 (by kernel_rfl)) ?_
  rw [wv2]
  refine bindS_mk (build42' _ _) ?_
  refine bindS_mk (fa_mk (by kernel_rfl)) ?_
  refine bindV_mk (st_mk st.m3 (by kernel_rfl) (by with_unfolding_all exact rfl) (sh42 _ _) (v' := ({ Rc.z k with undo := true, no := ((valB s 0 2 : Nat) : Int) } : Rc).v) (by with_unfolding_all exact rfl)) ?_
  replace st := st.store ({ Rc.z k with undo := true, no := ((valB s 0 2 : Nat) : Int) } : Rc)
  refine num_step 1 (by decide) st c (fun hb st c => ?_)
  refine bindS_mk (cv_int (d := 5) .u8 (by kernel_rfl)) ?_
  rw [wv1]
  refine bindS_mk (fa_mk (by kernel_rfl)) ?_
  refine bindV_mk (st_mk st.m3 (by kernel_rfl) (by with_unfolding_all exact rfl) (sh5 _) (v' := ({ Rc.z k with undo := true, no := ((valB s 0 2 : Nat) : Int), sl := ((valB (s.drop 2) 0 1 : Nat) : Int) } : Rc).v) (by with_unfolding_all exact rfl)) ?_
  replace st := st.store ({ Rc.z k with undo := true, no := ((valB s 0 2 : Nat) : Int), sl := ((valB (s.drop 2) 0 1 : Nat) : Int) } : Rc)
  refine bindS_mk (fa_mk (by kernel_rfl)) ?_
  refine bindV_mk (ld_mk st.m3 (by kernel_rfl) (by with_unfolding_all exact rfl)) ?_
  refine bindS_mk (b_eql_f (by show ¬ ((k : Nat) : Int) = 3; omega)) ?_
  refine i_f ?_
  exact Meet.of (fin33 st im00 q c)
theorem w6 {h : AH} {s : List UInt8} {q : AEnd → Prop} (k : Nat) (st : St4 h s (Rc.z k)) (c : q (.ret (decV (if k = 6 then parse6 k s else fin (Rc.z k) s)))) : J33_111101011111 (fun e _ => q e) (dsD 0 1) (pR 0) (pE 1) p2 p3 (.int .u8 (k : Int)) (.bool false) h := by
  rw [J33_111101011111_eq]
  refine i_f ?_
  by_cases k6 : k = 6
  · refine bindS_mk (b_eql_t (by show ((k : Nat) : Int) = 6; omega)) ?_
    rw [if_pos k6] at c
    unfold parse6 at c
    refine i_t ?_
    refine num_step 4 (by decide) st c (fun ha st c => ?_)
    refine bindS_mk (cv_int (d := 45) .u32 (by kernel_rfl)) ?_
    rw [wv4]
    refine bindS_mk (fa_mk (by kernel_rfl)) ?_
    refine bindV_mk (st_mk st.m3 (by kernel_rfl) (by with_unfolding_all exact rfl) (sh45 _) (v' := ({ Rc.z k with ts := ((valB s 0 4 : Nat) : Int) } : Rc).v) (by with_unfolding_all exact rfl)) ?_
    replace st := st.store ({ Rc.z k with ts := ((valB s 0 4 : Nat) : Int) } : Rc)
    exact Meet.of (fin33 st im00 q c)
  · refine bindS_mk (b_eql_f (by show ¬ ((k : Nat) : Int) = 6; omega)) ?_
    rw [if_neg k6] at c
    refine i_f ?_
    exact Meet.of (fin33 st im00 q c)
end Go.Proofs.Ytdhlolcpcgpcnaa.Sh
