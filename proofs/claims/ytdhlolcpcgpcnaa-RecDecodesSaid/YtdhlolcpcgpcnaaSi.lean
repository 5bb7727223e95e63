import Derived.Test.YtdhlolcpcgpcnaaSh
set_option linter.unusedVariables false
set_option linter.unusedSimpArgs false
namespace Go.Proofs.Ytdhlolcpcgpcnaa.Sh
open Go Go.Ab Go.RowKit Go.Gr
set_option linter.unusedSimpArgs false
set_option linter.unusedVariables false
theorem valB_cons (b : UInt8) (t : List UInt8) : ∀ n i, valB (b :: t) (i + 1) n = valB t i n
  | 0, _ => rfl
  | n + 1, i => by simp only [valB, valB_cons b t n (i + 1), List.getD_cons_succ]
theorem lay_valB : ∀ (n : Nat) (s : List UInt8), n ≤ s.length → lay n ((valB s 0 n : Nat) : Int) = s.take n
  | 0, s, _ => rfl
  | n + 1, [], h => by simp at h
  | n + 1, b :: t, h => by
    have ih := lay_valB n t (by simpa using h)
    have hb := b.toNat_lt
    simp only [valB, List.getD_cons_zero, Nat.zero_add, lay, List.take_succ_cons]
    rw [valB_cons b t n 0]
    have e1 : (((b.toNat + 256 * valB t 0 n : Nat) : Int) % 256).toNat = b.toNat := by omega
    have e2 : ((b.toNat + 256 * valB t 0 n : Nat) : Int) / 256 = ((valB t 0 n : Nat) : Int) := by omega
    rw [e1, e2, ih, UInt8.ofNat_toNat]
theorem tk_some {n v : Nat} {s u : List UInt8} (h : tk n s = some (v, u)) : s = lay n (v : Int) ++ u ∧ v < 256 ^ n := by
  unfold tk at h
  split at h
  · rename_i hl
    cases h
    rw [lay_valB n s hl, List.take_append_drop]
    exact ⟨rfl, valB_lt s n 0⟩
  · cases h
theorem tk_lay (n : Nat) (x : Int) (u : List UInt8) (h0 : 0 ≤ x) (h1 : x < 256 ^ n) : tk n (lay n x ++ u) = some (x.toNat, u) := by
  have hl : n ≤ (lay n x ++ u).length := by rw [List.length_append, lay_len]; omega
  have e := lay_valB n _ hl
  rw [List.take_left' (lay_len n x)] at e
  have hv := valB_lt (lay n x ++ u) n 0
  have e2 : ((valB (lay n x ++ u) 0 n : Nat) : Int) = x := lay_inj n _ _ (by omega) h0 (by
    have : ((valB (lay n x ++ u) 0 n : Nat) : Int) < ((256 ^ n : Nat) : Int) := by omega
    simpa using this) h1 e
  unfold tk
  rw [if_pos hl, List.drop_left' (lay_len n x)]
  congr 2
  omega
theorem lay1 {x : Int} (h : 0 ≤ x ∧ x < 256) : lay 1 x = [c1 x] := by
  unfold lay lay c1
  congr 2
  omega
theorem tk1 (x : Int) (u : List UInt8) (h : 0 ≤ x ∧ x < 256) : tk 1 (c1 x :: u) = some (x.toNat, u) := by
  have := tk_lay 1 x u h.1 h.2
  rw [lay1 h] at this
  exact this
theorem tk1_some {v : Nat} {s u : List UInt8} (h : tk 1 s = some (v, u)) : s = c1 (v : Int) :: u ∧ v < 256 := by
  obtain ⟨h1, h2⟩ := tk_some h
  have h3 : v < 256 := h2
  rw [lay1 (by omega)] at h1
  exact ⟨h1, h3⟩
theorem tt_some {s t u : List UInt8} (h : tt s = some (t, u)) : s = c1 (t.length : Int) :: (t ++ u) ∧ t.length < 256 := by
  unfold tt at h
  obtain ⟨⟨v, w⟩, h1, h2⟩ := Option.bind_eq_some_iff.1 h
  obtain ⟨rfl, hv⟩ := tk1_some h1
  simp only at h2
  split at h2
  · rename_i hl
    cases h2
    have e : (w.take v).length = v := by simp; omega
    rw [e, List.take_append_drop]
    exact ⟨rfl, hv⟩
  · cases h2
theorem tt_mk (t u : List UInt8) (h : t.length < 256) : tt (c1 (t.length : Int) :: (t ++ u)) = some (t, u) := by
  unfold tt
  rw [tk1 _ _ (by omega), Option.bind_some]
  simp only [Int.toNat_natCast]
  rw [if_pos (by simp), List.take_left' rfl, List.drop_left' rfl]
theorem tr_some {s u : List UInt8} {a b : Nat} (h : tr s = some ((a, b), u)) : s = lay 2 (a : Int) ++ c1 (b : Int) :: u ∧ a < 65536 ∧ b < 256 := by
  unfold tr at h
  split at h
  · rename_i hl
    cases h
    have h2 := valB_lt s 2 0
    have h3 := valB_lt (s.drop 2) 1 0
    have e2 := lay_valB 2 s (by omega)
    have e3 := lay_valB 1 (s.drop 2) (by simp; omega)
    rw [lay1 (by omega)] at e3
    refine ⟨?_, by omega, by omega⟩
    have e4 : c1 ((valB (s.drop 2) 0 1 : Nat) : Int) :: s.drop 3 = s.drop 2 := by
      have : [c1 ((valB (s.drop 2) 0 1 : Nat) : Int)] ++ (s.drop 2).drop 1 = s.drop 2 := by rw [e3, List.take_append_drop]
      rw [List.drop_drop] at this
      exact this
    rw [e4, e2, List.take_append_drop]
  · cases h
theorem tr_mk (a b : Int) (u : List UInt8) (ha : 0 ≤ a ∧ a < 65536) (hb : 0 ≤ b ∧ b < 256) : tr (lay 2 a ++ c1 b :: u) = some ((a.toNat, b.toNat), u) := by
  have h1 := tk_lay 2 a (c1 b :: u) ha.1 ha.2
  have h2 := tk1 b u hb
  unfold tk at h1 h2
  unfold tr
  have hl : (lay 2 a ++ c1 b :: u).length = 3 + u.length := by rw [List.length_append, lay_len, List.length_cons]; omega
  rw [if_pos (by omega)] at h1
  rw [if_pos (by simp)] at h2
  rw [if_pos (by omega)]
  simp only [Option.some.injEq, Prod.mk.injEq] at h1 h2
  have e3 : (lay 2 a ++ c1 b :: u).drop 3 = u := by
    have : (lay 2 a ++ c1 b :: u).drop 3 = ((lay 2 a ++ c1 b :: u).drop 2).drop 1 := by rw [List.drop_drop]
    rw [this, h1.2]; rfl
  rw [h1.1, h1.2, h2.1, e3]
theorem fin_some {r x : Rc} {u : List UInt8} (h : fin r u = some x) : x = r ∧ u = [] ∧ r.may = true := by
  unfold fin at h
  split at h
  · rename_i hc; cases h; exact ⟨rfl, hc⟩
  · cases h
theorem fin_mk (r : Rc) (m : r.may = true) : fin r [] = some r := by unfold fin; rw [if_pos ⟨rfl, m⟩]
theorem getD_map (l : List UInt8) (i : Nat) (h : i < l.length) : (l.map fun b => (b.toNat : Int)).getD i 0 = ((l.getD i 0).toNat : Int) := by
  simp [List.getD_eq_getElem?_getD, List.getElem?_map, List.getElem?_eq_getElem h]
/-- The length of an image's bytes without the noughts at its end. -/
theorem trim_eq (im : List Int) (n : Nat) : ∀ m, n ≤ m → (∀ i, n ≤ i → i < m → im.getD i 0 = 0) → (n = 0 ∨ im.getD (n - 1) 0 ≠ 0) → trimTo im m = n
  | 0, h, _, _ => by simp only [trimTo]; omega
  | m + 1, h, h1, h2 => by
    simp only [trimTo]
    by_cases hn : n = m + 1
    · have : ¬ im.getD m 0 = 0 := by
        rcases h2 with h2 | h2
        · omega
        · rw [hn] at h2; simpa using h2
      rw [if_neg this]; omega
    · rw [if_pos (h1 m (by omega) (by omega))]
      exact trim_eq im n m (by omega) (fun i a b => h1 i a (by omega)) h2
theorem imZ_getD (t : List UInt8) (i : Nat) (h : i < t.length) : (imZ t).getD i 0 = ((t.getD i 0).toNat : Int) := by
  unfold imZ
  rw [List.getD_eq_getElem?_getD, List.getElem?_append_left (by simpa using h), ← List.getD_eq_getElem?_getD, getD_map t i h]
theorem imZ_zero (t : List UInt8) (i : Nat) (h : t.length ≤ i) : (imZ t).getD i 0 = 0 := by
  unfold imZ
  rw [List.getD_eq_getElem?_getD, List.getElem?_append_right (by simpa using h), List.getElem?_replicate]
  split <;> rfl
theorem badIm_not {u : Nat} {t : List UInt8} (h : ¬ badIm u t = true) : u ≤ 1 ∧ t.length ≤ 224 ∧ (0 < t.length → t.getD (t.length - 1) 0 ≠ 0) := by
  unfold badIm at h
  simp only [Bool.or_eq_true, Bool.and_eq_true, decide_eq_true_eq, beq_iff_eq] at h
  refine ⟨?_, ?_, fun h1 h2 => h (.inr (.inr ⟨h1, h2⟩))⟩
  · rcases Nat.lt_or_ge 1 u with h1 | h1
    · exact absurd (.inl h1) h
    · exact h1
  · rcases Nat.lt_or_ge 224 t.length with h1 | h1
    · exact absurd (.inr (.inl h1)) h
    · exact h1
theorem trim_imZ {t : List UInt8} (h1 : t.length ≤ 224) (h2 : 0 < t.length → t.getD (t.length - 1) 0 ≠ 0) : trimTo (imZ t) 224 = t.length := by
  refine trim_eq (imZ t) t.length 224 h1 (fun i a _ => imZ_zero t i a) ?_
  rcases Nat.eq_zero_or_pos t.length with h | h
  · exact .inl h
  · right
    rw [imZ_getD t _ (by omega)]
    intro h0
    refine h2 h (UInt8.toNat_inj.1 ?_)
    have : (t.getD (t.length - 1) 0).toNat = 0 := by omega
    rw [this]; rfl
theorem imB_imZ (t : List UInt8) : imB ((imZ t).take t.length) = t := by
  unfold imZ imB
  rw [List.take_left' (by simp), List.map_map]
  have : (c1 ∘ fun (b : UInt8) => (b.toNat : Int)) = id := by
    funext b
    simp [c1]
  rw [this, List.map_id]
theorem imZ_imB (im : List Int) (hi : im.length = 224) (hb : ∀ x ∈ im, 0 ≤ x ∧ x < 256) : imZ (imB (im.take (trimTo im 224))) = im := by
  have hn := trimTo_le im 224
  have hl : (imB (im.take (trimTo im 224))).length = trimTo im 224 := by simp [imB, hi]; omega
  apply List.ext_getElem?
  intro i
  by_cases h : i < trimTo im 224
  · unfold imZ
    rw [List.getElem?_append_left (by rw [List.length_map, hl]; exact h), List.getElem?_map, imB, List.getElem?_map, List.getElem?_take, if_pos h, List.getElem?_eq_getElem (by omega)]
    simp only [Option.map_some, Option.some.injEq]
    rw [c1_nat (hb _ (List.getElem_mem _))]
    have := hb _ (List.getElem_mem (show i < im.length by omega))
    omega
  · by_cases h2 : i < 224
    · have e := trim_zero im 224 i (by omega) h2
      rw [List.getD_eq_getElem?_getD, List.getElem?_eq_getElem (by omega), Option.getD_some] at e
      unfold imZ
      rw [List.getElem?_append_right (by rw [List.length_map, hl]; omega), List.getElem?_replicate, if_pos (by rw [List.length_map, hl]; omega), List.getElem?_eq_getElem (by omega), e]
    · rw [List.getElem?_eq_none (by rw [imZ_len _ (by rw [hl]; omega)]; omega), List.getElem?_eq_none (by omega)]
end Go.Proofs.Ytdhlolcpcgpcnaa.Sh
namespace Go.Proofs.Ytdhlolcpcgpcnaa.Sh
open Go Go.Ab Go.RowKit Go.Gr
set_option linter.unusedSimpArgs false
set_option linter.unusedVariables false
theorem z8 : 0 ≤ (0 : Int) ∧ (0 : Int) < 256 := by decide
theorem z16 : 0 ≤ (0 : Int) ∧ (0 : Int) < 65536 := by decide
theorem z32 : 0 ≤ (0 : Int) ∧ (0 : Int) < 4294967296 := by decide
theorem zL : ([] : List UInt8).length < 140737488355328 := by decide
theorem n8 {x : Nat} (h : x < 256) : 0 ≤ (x : Int) ∧ (x : Int) < 256 := by omega
theorem n16 {x : Nat} (h : x < 256 ^ 2) : 0 ≤ (x : Int) ∧ (x : Int) < 65536 := by omega
theorem n32 {x : Nat} (h : x < 256 ^ 4) : 0 ≤ (x : Int) ∧ (x : Int) < 4294967296 := by omega
theorem im0b : ∀ x ∈ im0, 0 ≤ x ∧ x < 256 := by
  intro x hx
  have : x = 0 := List.eq_of_mem_replicate hx
  omega
theorem imZb (t : List UInt8) : ∀ x ∈ imZ t, 0 ≤ x ∧ x < 256 := by
  intro x hx
  unfold imZ at hx
  rcases List.mem_append.1 hx with h | h
  · obtain ⟨b, _, rfl⟩ := List.mem_map.1 h
    have := b.toNat_lt
    omega
  · have : x = 0 := List.eq_of_mem_replicate h
    omega
theorem parse_sound (s : List UInt8) (r : Rc) (h : parse s = some r) : r.ok ∧ r.may = true ∧ r.enc = s := by
  rw [parse_sel] at h
  obtain ⟨⟨k, u⟩, h1, h2⟩ := Option.bind_eq_some_iff.1 h
  obtain ⟨rfl, hk⟩ := tk1_some h1
  clear h h1
  unfold sel at h2
  simp only at h2
  split at h2
  · rename_i k1
    subst k1
    unfold parse1 at h2
    obtain ⟨⟨b, u1⟩, a1, h3⟩ := Option.bind_eq_some_iff.1 h2
    obtain ⟨⟨no, u2⟩, a2, h4⟩ := Option.bind_eq_some_iff.1 h3
    obtain ⟨⟨t, u3⟩, a3, h5⟩ := Option.bind_eq_some_iff.1 h4
    obtain ⟨rfl, hb⟩ := tk1_some a1
    obtain ⟨rfl, hno⟩ := tk_some a2
    obtain ⟨rfl, ht⟩ := tt_some a3
    simp only at h5
    split at h5
    · cases h5
    · rename_i hbad
      obtain ⟨c1', c2, c3⟩ := badIm_not hbad
      obtain ⟨rfl, rfl, m⟩ := fin_some h5
      have e1 := trim_imZ c2 c3
      refine ⟨⟨imZ_len t c2, imZb t, n8 hk, n16 hno, z32, z16, z8, zL, z8, z16, z32, z16, z8, zL⟩, m, ?_⟩
      have e2 : (if (((b : Nat) : Int) == 1) = true then (1 : UInt8) else 0) = c1 (b : Int) := by
        have hb2 : b = 0 ∨ b = 1 := by omega
        rcases hb2 with rfl | rfl <;> rfl
      show c1 1 :: (if (((b : Nat) : Int) == 1) = true then (1 : UInt8) else 0) :: (lay 2 (no : Int) ++ c1 ((trimTo (imZ t) 224 : Nat) : Int) :: imB ((imZ t).take (trimTo (imZ t) 224))) = _
      rw [e1, e2, imB_imZ]
      simp
  split at h2
  · rename_i _ k2
    subst k2
    unfold parse2 at h2
    obtain ⟨⟨no, u1⟩, a1, h3⟩ := Option.bind_eq_some_iff.1 h2
    obtain ⟨⟨ts, u2⟩, a2, h4⟩ := Option.bind_eq_some_iff.1 h3
    obtain ⟨⟨⟨p, q⟩, u3⟩, a3, h5⟩ := Option.bind_eq_some_iff.1 h4
    obtain ⟨⟨t, u4⟩, a4, h6⟩ := Option.bind_eq_some_iff.1 h5
    obtain ⟨rfl, hno⟩ := tk_some a1
    obtain ⟨rfl, hts⟩ := tk_some a2
    obtain ⟨rfl, hp, hq⟩ := tr_some a3
    obtain ⟨rfl, ht⟩ := tt_some a4
    obtain ⟨rfl, rfl, m⟩ := fin_some h6
    refine ⟨⟨List.length_replicate .., im0b, n8 hk, n16 hno, n32 hts, n16 hp, n8 hq, by show t.length < _; omega, z8, z16, z32, z16, z8, zL⟩, m, ?_⟩
    show c1 2 :: (lay 2 (no : Int) ++ (lay 4 (ts : Int) ++ (lay 2 (p : Int) ++ c1 (q : Int) :: c1 (t.length : Int) :: t))) = _
    simp
  split at h2
  · rename_i _ _ k345
    unfold parse345 at h2
    obtain ⟨⟨no, u1⟩, a1, h3⟩ := Option.bind_eq_some_iff.1 h2
    obtain ⟨⟨sl, u2⟩, a2, h4⟩ := Option.bind_eq_some_iff.1 h3
    obtain ⟨rfl, hno⟩ := tk_some a1
    obtain ⟨rfl, hsl⟩ := tk1_some a2
    simp only at h4
    split at h4
    · rename_i k3
      subst k3
      obtain ⟨⟨op, u3⟩, a3, h5⟩ := Option.bind_eq_some_iff.1 h4
      obtain ⟨⟨ots, u4⟩, a4, h6⟩ := Option.bind_eq_some_iff.1 h5
      obtain ⟨⟨⟨p, q⟩, u5⟩, a5, h7⟩ := Option.bind_eq_some_iff.1 h6
      obtain ⟨⟨t, u6⟩, a6, h8⟩ := Option.bind_eq_some_iff.1 h7
      obtain ⟨rfl, hop⟩ := tk_some a3
      obtain ⟨rfl, hots⟩ := tk_some a4
      obtain ⟨rfl, hp, hq⟩ := tr_some a5
      obtain ⟨rfl, ht⟩ := tt_some a6
      obtain ⟨rfl, rfl, m⟩ := fin_some h8
      refine ⟨⟨List.length_replicate .., im0b, n8 hk, n16 hno, z32, z16, z8, zL, n8 hsl, n16 hop, n32 hots, n16 hp, n8 hq, by show t.length < _; omega⟩, m, ?_⟩
      show c1 3 :: (lay 2 (no : Int) ++ c1 (sl : Int) :: (lay 2 (op : Int) ++ (lay 4 (ots : Int) ++ (lay 2 (p : Int) ++ c1 (q : Int) :: c1 (t.length : Int) :: t)))) = _
      simp
    · rename_i k3
      obtain ⟨rfl, rfl, m⟩ := fin_some h4
      refine ⟨⟨List.length_replicate .., im0b, n8 hk, n16 hno, z32, z16, z8, zL, n8 hsl, z16, z32, z16, z8, zL⟩, m, ?_⟩
      have h1 : ¬ ((k : Nat) : Int) = 1 := by omega
      have h2 : ¬ ((k : Nat) : Int) = 2 := by omega
      have h3 : ¬ ((k : Nat) : Int) = 3 := by omega
      have h6 : ¬ ((k : Nat) : Int) = 6 := by omega
      unfold Rc.enc
      simp only [Rc.z, h1, h2, h3, h6, if_false]
  split at h2
  · rename_i _ _ _ k6
    subst k6
    unfold parse6 at h2
    obtain ⟨⟨ts, u1⟩, a1, h3⟩ := Option.bind_eq_some_iff.1 h2
    obtain ⟨rfl, hts⟩ := tk_some a1
    obtain ⟨rfl, rfl, m⟩ := fin_some h3
    refine ⟨⟨List.length_replicate .., im0b, n8 hk, z16, n32 hts, z16, z8, zL, z8, z16, z32, z16, z8, zL⟩, m, ?_⟩
    show c1 6 :: lay 4 (ts : Int) = _
    simp
  · rename_i k1 k2 k345 k6
    obtain ⟨rfl, rfl, m⟩ := fin_some h2
    have := (may_bare m).2
    have h1 : 1 ≤ (k : Int) := this.1
    have h2 : (k : Int) ≤ 6 := this.2.1
    omega
theorem toNat_ne {x : Int} {n : Nat} (h : 0 ≤ x) : ((x.toNat : Nat) : Int) = x := Int.toNat_of_nonneg h
theorem parse_complete (r : Rc) (o : r.ok) (m : r.may = true) : parse r.enc = some r := by
  obtain ⟨hb, k1, k6, hd, hod⟩ := may_bare m
  have e0 := parse_sel r.enc
  have kk := toNat_ne (n := 0) o.k.1
  by_cases q1 : r.k = 1
  · have enc : r.enc = c1 r.k :: (if r.undo then 1 else 0) :: (lay 2 r.no ++ c1 (trimTo r.im 224) :: imB (r.im.take (trimTo r.im 224))) := by unfold Rc.enc; rw [if_pos q1]
    have hn := trimTo_le r.im 224
    have hl : (imB (r.im.take (trimTo r.im 224))).length = trimTo r.im 224 := by simp [imB, o.im]; omega
    have eu : (if r.undo then (1 : UInt8) else 0) = c1 (if r.undo then 1 else 0) := by cases r.undo <;> rfl
    have h2 : tk 1 ((if r.undo then (1 : UInt8) else 0) :: (lay 2 r.no ++ c1 (trimTo r.im 224) :: imB (r.im.take (trimTo r.im 224)))) = some ((if r.undo then 1 else 0 : Int).toNat, lay 2 r.no ++ c1 (trimTo r.im 224) :: imB (r.im.take (trimTo r.im 224))) := by
      rw [eu]; exact tk1 _ _ (by cases r.undo <;> decide)
    have h3 := tk_lay 2 r.no (c1 (trimTo r.im 224) :: imB (r.im.take (trimTo r.im 224))) o.no.1 o.no.2
    have h4 := tt_mk (imB (r.im.take (trimTo r.im 224))) [] (by omega)
    rw [hl, List.append_nil] at h4
    rw [e0, enc, tk1 _ _ o.k, Option.bind_some]
    simp only
    unfold sel
    rw [if_pos (by omega)]
    unfold parse1
    rw [h2, Option.bind_some]
    simp only
    rw [h3, Option.bind_some]
    simp only
    rw [h4, Option.bind_some]
    simp only
    have hbad : ¬ badIm (if r.undo then 1 else 0 : Int).toNat (imB (r.im.take (trimTo r.im 224))) = true := by
      unfold badIm
      simp only [Bool.or_eq_true, Bool.and_eq_true, decide_eq_true_eq, beq_iff_eq, hl]
      rintro (h | h | ⟨h, h'⟩)
      · cases hu : r.undo <;> rw [hu] at h <;> revert h <;> decide
      · omega
      · have hlast := trim_last r.im 224 (trimTo r.im 224 - 1) (by omega)
        refine hlast ?_
        have hi : trimTo r.im 224 - 1 < r.im.length := by rw [o.im]; omega
        rw [imB, List.getD_eq_getElem?_getD, List.getElem?_map, List.getElem?_take, if_pos (by omega), List.getElem?_eq_getElem hi] at h'
        simp only [Option.map_some, Option.getD_some] at h'
        have e1 := congrArg UInt8.toNat h'
        have hx := o.imb _ (List.getElem_mem hi)
        rw [c1_nat hx] at e1
        rw [List.getD_eq_getElem?_getD, List.getElem?_eq_getElem hi, Option.getD_some]
        have : (0 : UInt8).toNat = 0 := rfl
        omega
    rw [if_neg hbad, imZ_imB r.im o.im o.imb]
    have eq : ({ Rc.z ((r.k.toNat : Nat) : Int) with undo := (((if r.undo then 1 else 0 : Int).toNat : Int) == 1), no := ((r.no.toNat : Nat) : Int), im := r.im } : Rc) = r := by
      have hbb := hb
      unfold Rc.bare at hbb
      rw [if_pos q1] at hbb
      refine Eq.trans ?_ hbb
      have e1 : ((((if r.undo then 1 else 0 : Int).toNat : Nat) : Int) == 1) = r.undo := by cases r.undo <;> rfl
      rw [kk, e1, toNat_ne (n := 0) o.no.1]
    rw [eq]
    exact fin_mk r m
  by_cases q2 : r.k = 2
  · have enc : r.enc = c1 r.k :: (lay 2 r.no ++ (lay 4 r.ts ++ (lay 2 r.pp ++ c1 r.ps :: c1 r.dl.length :: r.dl))) := by unfold Rc.enc; rw [if_neg q1, if_pos q2]
    have h4 := tt_mk r.dl [] (by omega)
    rw [List.append_nil] at h4
    rw [e0, enc, tk1 _ _ o.k, Option.bind_some]
    simp only
    unfold sel
    rw [if_neg (by omega), if_pos (by omega)]
    unfold parse2
    rw [tk_lay 2 _ _ o.no.1 o.no.2, Option.bind_some]
    simp only
    rw [tk_lay 4 _ _ o.ts.1 o.ts.2, Option.bind_some]
    simp only
    rw [tr_mk _ _ _ o.pp o.ps, Option.bind_some]
    simp only
    rw [h4, Option.bind_some]
    simp only
    have eq : ({ Rc.z ((r.k.toNat : Nat) : Int) with no := ((r.no.toNat : Nat) : Int), ts := ((r.ts.toNat : Nat) : Int), pp := ((r.pp.toNat : Nat) : Int), ps := ((r.ps.toNat : Nat) : Int), dl := r.dl } : Rc) = r := by
      have hbb := hb
      unfold Rc.bare at hbb
      rw [if_neg q1, if_pos q2] at hbb
      refine Eq.trans ?_ hbb
      rw [kk, toNat_ne (n := 0) o.no.1, toNat_ne (n := 0) o.ts.1, toNat_ne (n := 0) o.pp.1, toNat_ne (n := 0) o.ps.1]
    rw [eq]
    exact fin_mk r m
  by_cases q3 : r.k = 3
  · have enc : r.enc = c1 r.k :: (lay 2 r.no ++ c1 r.sl :: (lay 2 r.op ++ (lay 4 r.ots ++ (lay 2 r.onp ++ c1 r.ons :: c1 r.od.length :: r.od)))) := by unfold Rc.enc; rw [if_neg q1, if_neg q2, if_pos q3]
    have h4 := tt_mk r.od [] (by omega)
    rw [List.append_nil] at h4
    rw [e0, enc, tk1 _ _ o.k, Option.bind_some]
    simp only
    unfold sel
    rw [if_neg (by omega), if_neg (by omega), if_pos (.inl (by omega))]
    unfold parse345
    rw [tk_lay 2 _ _ o.no.1 o.no.2, Option.bind_some]
    simp only
    rw [tk1 _ _ o.sl, Option.bind_some]
    simp only
    rw [if_pos (by omega)]
    rw [tk_lay 2 _ _ o.op.1 o.op.2, Option.bind_some]
    simp only
    rw [tk_lay 4 _ _ o.ots.1 o.ots.2, Option.bind_some]
    simp only
    rw [tr_mk _ _ _ o.onp o.ons, Option.bind_some]
    simp only
    rw [h4, Option.bind_some]
    simp only
    have eq : ({ Rc.z ((r.k.toNat : Nat) : Int) with undo := true, no := ((r.no.toNat : Nat) : Int), sl := ((r.sl.toNat : Nat) : Int), live := true, op := ((r.op.toNat : Nat) : Int), ots := ((r.ots.toNat : Nat) : Int), onp := ((r.onp.toNat : Nat) : Int), ons := ((r.ons.toNat : Nat) : Int), od := r.od } : Rc) = r := by
      have hbb := hb
      unfold Rc.bare at hbb
      rw [if_neg q1, if_neg q2, if_pos q3] at hbb
      refine Eq.trans ?_ hbb
      rw [kk, toNat_ne (n := 0) o.no.1, toNat_ne (n := 0) o.sl.1, toNat_ne (n := 0) o.op.1, toNat_ne (n := 0) o.ots.1, toNat_ne (n := 0) o.onp.1, toNat_ne (n := 0) o.ons.1]
    rw [eq]
    exact fin_mk r m
  by_cases q6 : r.k = 6
  · have enc : r.enc = c1 r.k :: lay 4 r.ts := by unfold Rc.enc; rw [if_neg q1, if_neg q2, if_neg q3, if_pos q6]
    have h4 := tk_lay 4 r.ts [] o.ts.1 o.ts.2
    rw [List.append_nil] at h4
    rw [e0, enc, tk1 _ _ o.k, Option.bind_some]
    simp only
    unfold sel
    rw [if_neg (by omega), if_neg (by omega), if_neg (by omega), if_pos (by omega)]
    unfold parse6
    rw [h4, Option.bind_some]
    simp only
    have eq : ({ Rc.z ((r.k.toNat : Nat) : Int) with ts := ((r.ts.toNat : Nat) : Int) } : Rc) = r := by
      have hbb := hb
      unfold Rc.bare at hbb
      rw [if_neg q1, if_neg q2, if_neg q3, if_neg (by omega), if_neg (by omega), if_pos q6] at hbb
      refine Eq.trans ?_ hbb
      rw [kk, toNat_ne (n := 0) o.ts.1]
    rw [eq]
    exact fin_mk r m
  have q45 : r.k = 4 ∨ r.k = 5 := by omega
  have enc : r.enc = c1 r.k :: (lay 2 r.no ++ [c1 r.sl]) := by unfold Rc.enc; rw [if_neg q1, if_neg q2, if_neg q3, if_neg q6]
  rw [e0, enc, tk1 _ _ o.k, Option.bind_some]
  simp only
  unfold sel
  rw [if_neg (by omega), if_neg (by omega), if_pos (.inr (by omega))]
  unfold parse345
  rw [tk_lay 2 _ _ o.no.1 o.no.2, Option.bind_some]
  simp only
  rw [tk1 _ _ o.sl, Option.bind_some]
  simp only
  rw [if_neg (by omega)]
  have eq : ({ Rc.z ((r.k.toNat : Nat) : Int) with undo := true, no := ((r.no.toNat : Nat) : Int), sl := ((r.sl.toNat : Nat) : Int) } : Rc) = r := by
    have hbb := hb
    unfold Rc.bare at hbb
    rw [if_neg q1, if_neg q2, if_neg q3] at hbb
    have hcc : ({ Rc.z r.k with undo := true, no := r.no, sl := r.sl } : Rc) = r := by
      rcases q45 with q | q
      · rw [if_pos q] at hbb; exact hbb
      · rw [if_neg (by omega), if_pos q] at hbb; exact hbb
    refine Eq.trans ?_ hcc
    rw [kk, toNat_ne (n := 0) o.no.1, toNat_ne (n := 0) o.sl.1]
  rw [eq]
  exact fin_mk r m
end Go.Proofs.Ytdhlolcpcgpcnaa.Sh
namespace Go.Proofs.Ytdhlolcpcgpcnaa.Sh
open Go Go.Ab Go.RowKit Go.Gr
set_option linter.unusedSimpArgs false
set_option linter.unusedVariables false
theorem flat_dec : ∀ o : Option Rc, flatB (decV o) = true := by
  have hr : ∀ r : Rc, flatB r.v = true := by
    intro r
    have hi : ∀ l : List Int, flatBs (l.map (V.int .u8)) = true := by
      intro l
      induction l with
      | nil => rfl
      | cons a l ih =>
        have : flatBs ((a :: l).map (V.int .u8)) = (flatB (.int .u8 a) && flatBs (l.map (V.int .u8))) := rfl
        rw [this, ih]; rfl
    have := hi r.im
    simp only [Rc.v, vRec, vIm, vOld, vRef, vPg, flatB, flatBs, this, Bool.and_true, Bool.true_and]
  intro o
  cases o with
  | none => simp only [decV, flatB, flatBs, hr, Bool.and_true]
  | some r => simp only [decV, flatB, flatBs, hr, Bool.and_true]
theorem decP (s : List UInt8) (hs : s.length < 140737488355328) (h : AH) : ACalls Pg 33 [.str s] h (pureE (decV (parse s)) h) :=
  pure_lift rfl (flat_dec _) (decC s hs _ rfl) h
theorem enc_len (r : Rc) (o : r.ok) (m : r.may = true) : 1 ≤ r.enc.length ∧ r.enc.length ≤ 400 := by
  obtain ⟨_, _, _, h1, h2⟩ := may_bare m
  have ht := trimTo_le r.im 224
  have hi : (imB (r.im.take (trimTo r.im 224))).length ≤ 224 := by simp [imB]; omega
  unfold Rc.enc
  repeat' split
  all_goals simp only [List.length_cons, List.length_append, lay_len, List.length_nil]
  all_goals omega
theorem enc_0 (r : Rc) : r.enc.getD 0 0 = c1 r.k := by
  obtain ⟨t, e⟩ := enc_head r
  rw [e]; rfl
/-- How long a record is, seen from its bytes. -/
def lenOf (s : List UInt8) : Nat :=
  if (s.getD 0 0).toNat = 1 then 5 + (s.getD 4 0).toNat
  else if (s.getD 0 0).toNat = 2 then 11 + (s.getD 10 0).toNat
  else if (s.getD 0 0).toNat = 3 then 14 + (s.getD 13 0).toNat
  else if (s.getD 0 0).toNat = 6 then 5
  else 4
theorem lenOf_enc (r : Rc) (o : r.ok) (m : r.may = true) (u : List UInt8) : lenOf (r.enc ++ u) = r.enc.length := by
  obtain ⟨_, k1, k2, h1, h2⟩ := may_bare m
  have ht := trimTo_le r.im 224
  have hk : (c1 r.k).toNat = r.k.toNat := c1_nat o.k
  have l2 : ∀ x, lay 2 x = [UInt8.ofNat (x % 256).toNat, UInt8.ofNat (x / 256 % 256).toNat] := fun _ => rfl
  have l4 : ∀ x, ∃ a b c d, lay 4 x = [a, b, c, d] := fun x => ⟨_, _, _, _, rfl⟩
  have hn : ∀ n : Nat, n < 256 → (c1 (n : Int)).toNat = n := fun n hn => by rw [c1_nat (by omega)]; simp
  have il : (imB (r.im.take (trimTo r.im 224))).length = trimTo r.im 224 := by have := o.im; simp [imB, this]; omega
  unfold lenOf Rc.enc
  obtain ⟨ta, tb, tc, td, e4⟩ := l4 r.ts
  obtain ⟨oa, ob, oc, od, e4o⟩ := l4 r.ots
  rw [e4, e4o]
  simp only [l2]
  by_cases c1' : r.k = 1
  · rw [if_pos c1']
    simp only [List.cons_append, List.nil_append, List.getD_cons_zero, List.getD_cons_succ, List.length_cons, il, hk, c1']
    rw [if_pos (show (c1 1).toNat = 1 from rfl), hn _ (by omega)]
    omega
  rw [if_neg c1']
  by_cases c2 : r.k = 2
  · rw [if_pos c2]
    simp only [List.cons_append, List.nil_append, List.getD_cons_zero, List.getD_cons_succ, List.length_cons, hk, c2]
    rw [if_neg (by decide), if_pos (show (c1 2).toNat = 2 from rfl), hn _ (by omega)]
    omega
  rw [if_neg c2]
  by_cases c3 : r.k = 3
  · rw [if_pos c3]
    simp only [List.cons_append, List.nil_append, List.getD_cons_zero, List.getD_cons_succ, List.length_cons, hk, c3]
    rw [if_neg (by decide), if_neg (by decide), if_pos (show (c1 3).toNat = 3 from rfl), hn _ (by omega)]
    omega
  rw [if_neg c3]
  by_cases c6 : r.k = 6
  · rw [if_pos c6]
    simp only [List.cons_append, List.nil_append, List.getD_cons_zero, List.getD_cons_succ, List.length_cons, hk, c6]
    rw [if_neg (by decide), if_neg (by decide), if_neg (by decide), if_pos (show (c1 6).toNat = 6 from rfl)]
    rfl
  rw [if_neg c6]
  simp only [List.cons_append, List.nil_append, List.getD_cons_zero, List.getD_cons_succ, List.length_cons, hk]
  rw [if_neg (by omega), if_neg (by omega), if_neg (by omega), if_neg (by omega)]
  rfl
/-- No record's bytes are ahead of another's. -/
theorem enc_free (a b : Rc) (oa : a.ok) (ob : b.ok) (ma : a.may = true) (mb : b.may = true) (u : List UInt8) (h : b.enc = a.enc ++ u) : u = [] := by
  have h1 := lenOf_enc a oa ma u
  have h2 := lenOf_enc b ob mb []
  rw [List.append_nil, h, h1, List.length_append] at h2
  exact List.length_eq_zero_iff.1 (by omega)
theorem parse_more (r : Rc) (o : r.ok) (m : r.may = true) (u : List UInt8) : parse (r.enc ++ u) = if u = [] then some r else none := by
  split
  · rename_i e; subst e; rw [List.append_nil]; exact parse_complete r o m
  · rename_i hu
    match e : parse (r.enc ++ u) with
    | none => rfl
    | some r' =>
      obtain ⟨o', m', e'⟩ := parse_sound _ _ e
      exact absurd (enc_free r r' o o' m m' u e') hu
theorem parse_less (r : Rc) (o : r.ok) (m : r.may = true) (n : Nat) (hn : n < r.enc.length) : parse (r.enc.take n) = none := by
  match e : parse (r.enc.take n) with
  | none => rfl
  | some r' =>
    obtain ⟨o', m', e'⟩ := parse_sound _ _ e
    have := enc_free r' r o' o m' m (r.enc.drop n) (by rw [e', List.take_append_drop])
    have h := congrArg List.length this
    simp at h
    omega
end Go.Proofs.Ytdhlolcpcgpcnaa.Sh
