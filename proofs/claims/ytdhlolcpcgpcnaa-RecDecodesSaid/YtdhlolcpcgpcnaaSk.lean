import Derived.Test.YtdhlolcpcgpcnaaSj
set_option linter.unusedVariables false
set_option linter.unusedSimpArgs false
namespace Go.Proofs.Ytdhlolcpcgpcnaa.Sh
open Go Go.Ab Go.RowKit Go.Gr
set_option linter.unusedSimpArgs false
set_option linter.unusedVariables false
set_option maxRecDepth 10000
theorem loop19 (q : AEnd → Prop) (h : AH) (s : List UInt8) (i n : Nat) (hn : n ≤ 4) (hb : i + n ≤ s.length) (hs : s.length < 140737488355328) (c : q (.ret (.tup [.int .u64 ((valB s i n : Nat) : Int), .bool true]))) :
    ∀ (m j f acc : Nat), j + m = n → acc + 256 ^ j * valB s (i + j) m = valB s i n → m < f → L19_111010 (fun e _ => q e) f (.str s) (.int .i64 (i : Int)) (.int .i64 (n : Int)) (.int .u64 (acc : Int)) (.int .u64 ((256 ^ j : Nat) : Int)) (.int .i64 (j : Int)) h
  | m, j, 0, _, _, _, hf => absurd hf (by omega)
  | 0, j, f + 1, acc, hj, ha, _ => by
    rw [L19_111010_eq]
    refine bindS_mk (b_lss_f (by omega)) ?_
    refine i_f ?_
    refine Meet.of (cast_p (J19_1111_eq _ _ _) ?_)
    have e : acc = valB s i n := by simpa [valB] using ha
    rw [e]
    exact c
  | m + 1, j, f + 1, acc, hj, ha, hf => by
    have hbt := (s.getD (i + j) 0).toNat_lt
    have hp : 256 ^ (j + 1) ≤ 4294967296 := Nat.pow_le_pow_right (n := 256) (by omega) (show j + 1 ≤ 4 by omega)
    rw [Nat.pow_succ] at hp
    have hm : 256 ^ j * (s.getD (i + j) 0).toNat ≤ 256 ^ j * 256 := Nat.mul_le_mul_left _ (by omega)
    have hacc := valB_lt s n i
    have hpn : 256 ^ n ≤ 4294967296 := Nat.pow_le_pow_right (n := 256) (by omega) (show n ≤ 4 by omega)
    have ha2 : acc + 256 ^ j * (s.getD (i + j) 0).toNat + 256 ^ (j + 1) * valB s (i + (j + 1)) m = valB s i n := by
      rw [← ha, valB, Nat.mul_add, Nat.pow_succ, Nat.mul_assoc (256 ^ j) 256, Nat.add_assoc i j 1]
      omega
    rw [L19_111010_eq]
    refine bindS_mk (b_lss_t (by omega)) ?_
    refine i_t ?_
    refine Meet.of (cast_p (J19_11101001_eq _ _ _ _ _ _ _ _ _) ?_)
    refine bindS_mk (c_add (by omega)) ?_
    refine bindS_mk (ix_str str9 (by omega)) ?_
    refine bindS_mk (cv_int (d := 22) .u64 (by kernel_rfl)) ?_
    have e3 : IntKind.u64.wrap ((s.getD (i + j) 0).toNat : Int) = ((s.getD (i + j) 0).toNat : Int) := w64 (by omega) (by omega)
    rw [e3]
    refine bindS_mk b_mul ?_
    have e4 : IntKind.u64.wrap (((256 ^ j : Nat) : Int) * ((s.getD (i + j) 0).toNat : Int)) = ((256 ^ j * (s.getD (i + j) 0).toNat : Nat) : Int) := by
      rw [← Int.natCast_mul]; exact w64 (by omega) (by omega)
    rw [e4]
    refine bindS_mk b_add ?_
    have e5 : IntKind.u64.wrap ((acc : Int) + ((256 ^ j * (s.getD (i + j) 0).toNat : Nat) : Int)) = ((acc + 256 ^ j * (s.getD (i + j) 0).toNat : Nat) : Int) := by
      rw [← Int.natCast_add]; exact w64 (by omega) (by omega)
    rw [e5]
    refine bindS_mk b_mul ?_
    have e6 : IntKind.u64.wrap (((256 ^ j : Nat) : Int) * 256) = ((256 ^ (j + 1) : Nat) : Int) := by
      have : ((256 ^ j : Nat) : Int) * 256 = ((256 ^ (j + 1) : Nat) : Int) := by rw [Nat.pow_succ, Int.natCast_mul]; rfl
      rw [this]
      exact w64 (by omega) (by rw [Nat.pow_succ]; omega)
    rw [e6]
    refine Meet.of (cast_p (J19_111010011_eq _ _ _ _ _ _ _ _ _) ?_)
    refine bindS_mk (c_inc (by omega)) ?_
    exact Meet.of (loop19 q h s i n hn hb hs c m (j + 1) f (acc + 256 ^ j * (s.getD (i + j) 0).toNat) (by omega) ha2 (by omega))
/-- The number that so many bytes at a place are; nought where there are not so many. -/
def rdN (s : List UInt8) (i n : Nat) : Nat := if i + n ≤ s.length then valB s i n else 0
theorem rdN_lt (s : List UInt8) (i n : Nat) : rdN s i n < 256 ^ n := by
  unfold rdN
  split
  · exact valB_lt s n i
  · exact Nat.pow_pos (by decide)
theorem get19 (s : List UInt8) (i n : Nat) (hn : n ≤ 4) (hi : i < 1000) (hs : s.length < 140737488355328) (h : AH) :
    ∃ b, ACalls Pg 19 [.str s, .int .i64 (i : Int), .int .i64 (n : Int)] h (pureE (.tup [.int .u64 ((rdN s i n : Nat) : Int), .bool b]) h) := by
  by_cases hb : i + n ≤ s.length
  · refine ⟨true, pure_lift rfl rfl (C19 _ _ _ _ _ ?_) h⟩
    unfold rdN
    rw [if_pos hb]
    refine bindS_mk (b_lss_f (by omega)) ?_
    refine g_ff ?_
    refine bindS_mk (b_gtr_f (by omega)) ?_
    refine Meet.of (cast_p (G19_1001002_eq _ _ _ _ _ _ _) ?_)
    refine bindV_mk p_f ?_
    refine g_ff ?_
    refine bindS_mk (b_lss_f (by omega)) ?_
    refine Meet.of (cast_p (G19_1001004_eq _ _ _ _ _ _ _) ?_)
    refine bindV_mk p_f ?_
    refine g_ff ?_
    refine bindV_mk (len_str (by kernel_rfl)) ?_
    refine bindS_mk (b_gtr_f (by omega)) ?_
    refine Meet.of (cast_p (G19_1001006_eq _ _ _ _ _ _ _) ?_)
    refine bindV_mk p_f ?_
    refine g_ff ?_
    refine bindV_mk (len_str (by kernel_rfl)) ?_
    refine bindS_mk (b_sub64 (by omega) (by omega)) ?_
    refine bindS_mk (b_lss_f (by omega)) ?_
    refine Meet.of (cast_p (G19_1001008_eq _ _ _ _ _ _ _) ?_)
    refine bindV_mk p_f ?_
    refine Meet.of (cast_p (J19_101_eq _ _ _ _ _ _) ?_)
    refine i_f ?_
    refine Meet.of (cast_p (J19_11_eq _ _ _ _ _) ?_)
    refine ⟨n + 1, Meet.of ?_⟩
    exact loop19 (fun e => e = .ret (.tup [.int .u64 ((valB s i n : Nat) : Int), .bool true])) AH0 s i n hn hb hs rfl n 0 (n + 1) 0 (by omega) (by simp) (by omega)
  · refine ⟨false, pure_lift rfl rfl (C19 _ _ _ _ _ ?_) h⟩
    unfold rdN
    rw [if_neg hb]
    refine bindS_mk (b_lss_f (by omega)) ?_
    refine g_ff ?_
    refine bindS_mk (b_gtr_f (by omega)) ?_
    refine Meet.of (cast_p (G19_1001002_eq _ _ _ _ _ _ _) ?_)
    refine bindV_mk p_f ?_
    refine g_ff ?_
    refine bindS_mk (b_lss_f (by omega)) ?_
    refine Meet.of (cast_p (G19_1001004_eq _ _ _ _ _ _ _) ?_)
    refine bindV_mk p_f ?_
    refine g_ff ?_
    refine bindV_mk (len_str (by kernel_rfl)) ?_
    by_cases hc : s.length < i
    · refine bindS_mk (b_gtr_t (by omega)) ?_
      refine Meet.of (cast_p (G19_1001006_eq _ _ _ _ _ _ _) ?_)
      refine bindV_mk p_f ?_
      refine g_tf ?_
      refine Meet.of (cast_p (G19_1001008_eq _ _ _ _ _ _ _) ?_)
      refine bindV_mk p_t ?_
      refine Meet.of (cast_p (J19_101_eq _ _ _ _ _ _) ?_)
      refine i_t ?_
      rfl
    · refine bindS_mk (b_gtr_f (by omega)) ?_
      refine Meet.of (cast_p (G19_1001006_eq _ _ _ _ _ _ _) ?_)
      refine bindV_mk p_f ?_
      refine g_ff ?_
      refine bindV_mk (len_str (by kernel_rfl)) ?_
      refine bindS_mk (b_sub64 (by omega) (by omega)) ?_
      refine bindS_mk (b_lss_t (by omega)) ?_
      refine Meet.of (cast_p (G19_1001008_eq _ _ _ _ _ _ _) ?_)
      refine bindV_mk p_f ?_
      refine Meet.of (cast_p (J19_101_eq _ _ _ _ _ _) ?_)
      refine i_t ?_
      rfl
theorem atP (s : List UInt8) (i n : Nat) (hn : n ≤ 4) (hi : i < 1000) (hs : s.length < 140737488355328) (h : AH) :
    ACalls Pg 44 [.str s, .int .i64 (i : Int), .int .i64 (n : Int)] h (pureE (.int .u64 ((rdN s i n : Nat) : Int)) h) := by
  obtain ⟨b, g⟩ := get19 s i n hn hi hs h
  refine C44 _ _ _ _ _ ?_
  refine call_mk g ?_
  refine bindS_mk (show aExtract _ _ = some _ from rfl) ?_
  refine bindS_mk (show aExtract _ _ = some _ from rfl) ?_
  exact ⟨rfl, rfl⟩
theorem sl_from (h : AH) (s : List UInt8) (l : Nat) (hl : l ≤ s.length) : aSlice Pg h 9 (.str s) (some (.int .i64 (l : Int))) none = some (.str (s.drop l)) := sl_lo h s l hl
theorem fromP (s : List UInt8) (i : Nat) (hi : i < 1000) (hs : s.length < 140737488355328) (h : AH) :
    ACalls Pg 45 [.str s, .int .i64 (i : Int)] h (pureE (.str (s.drop i)) h) := by
  refine C45 _ _ _ _ ?_
  by_cases hc : s.length < i
  · rw [List.drop_of_length_le (by omega)]
    refine bindV_mk (len_str (by kernel_rfl)) ?_
    refine bindS_mk (b_gtr_t (by omega)) ?_
    refine i_t ?_
    exact ⟨rfl, rfl⟩
  · refine bindV_mk (len_str (by kernel_rfl)) ?_
    refine bindS_mk (b_gtr_f (by omega)) ?_
    refine i_f ?_
    refine Meet.of (cast_p (J45_11_eq _ _ _ _) ?_)
    refine bindS_mk (sl_lo _ _ _ (by omega)) ?_
    exact ⟨rfl, rfl⟩
end Go.Proofs.Ytdhlolcpcgpcnaa.Sh
namespace Go.Proofs.Ytdhlolcpcgpcnaa.Sh
open Go Go.Ab Go.RowKit Go.Gr
set_option linter.unusedSimpArgs false
set_option linter.unusedVariables false
set_option maxRecDepth 10000
theorem wr1 (s : List UInt8) (i : Nat) : IntKind.u8.wrap ((rdN s i 1 : Nat) : Int) = ((rdN s i 1 : Nat) : Int) := by have := rdN_lt s i 1; rw [wrap_u8]; omega
theorem wr2 (s : List UInt8) (i : Nat) : IntKind.u16.wrap ((rdN s i 2 : Nat) : Int) = ((rdN s i 2 : Nat) : Int) := by have := rdN_lt s i 2; rw [wrap_u16]; omega
theorem wr4 (s : List UInt8) (i : Nat) : IntKind.u32.wrap ((rdN s i 4 : Nat) : Int) = ((rdN s i 4 : Nat) : Int) := by have := rdN_lt s i 4; rw [wrap_u32]; omega
structure S2 (h : AH) (r : Rc) : Prop where
  m0 : h.m 0 = some (.cells true (.one 51) (rz 0))
  m1 : h.m 1 = some (.cells true (.one 51) r.v)
theorem S2.store {h : AH} {r : Rc} (st : S2 h r) (r' : Rc) : S2 (h.put 1 (.cells true (.one 51) r'.v)) r' :=
  ⟨by rw [put_m, if_neg (by decide)]; exact st.m0, by rw [put_m, if_pos rfl]⟩
def decR : Option Rc → V
  | some r => .tup [r.v, .bool true]
  | none => .tup [(Rc.z 0).v, .bool false]
/-- What the reference takes of what it read. -/
def keep (s : List UInt8) (r : Rc) : Option Rc := if r.may = true ∧ r.enc = s then some r else none
theorem res34 (h : AH) (r : Rc) (b : Bool) (hm : h.m 0 = some (.cells true (.one 51) r.v)) : aRes Pg [(2, pR 0), (3, .bool b)] h R34 = some [r.v, .bool b] := by
  have e1 := ld_mk (P := Pg) (t := 51) (p := []) hm (by kernel_rfl) (w := r.v) rfl
  simp only [aLoadV] at e1
  have e2 := (still_some e1).1
  have g2 : Env.get [(2, pR 0), (3, .bool b)] 2 = pR 0 := rfl
  have g3 : Env.get [(2, pR 0), (3, .bool b)] 3 = .bool b := rfl
  simp only [R34, aRes, g2, g3, e2]
theorem tail34 {h : AH} (s : List UInt8) {r : Rc} (st : S2 h r) (o : r.ok) (q : AEnd → Prop) (c : q (.ret (decR (keep s r)))) : J34_1111 (fun e _ => q e) (.str s) (pR 0) (pR 1) h := by
  have bad : keep s r = none → J34_1111101 (fun e _ => q e) (pR 0) (pR 1) (.bool true) h := by
    intro hk
    rw [hk] at c
    rw [J34_1111101_eq]
    refine i_t ?_
    refine bindS_mk build51z ?_
    refine bindV_mk (st0 _ _ st.m0 (Rc.z 0) z0im) ?_
    exact bindR_mk (res34 _ (Rc.z 0) false put_at) c
  rw [J34_1111_eq]
  refine bindV_mk (ld_mk st.m1 (by kernel_rfl) (by with_unfolding_all exact rfl)) ?_
  cases m : r.may with
  | false =>
    refine call_mk (encR0 r o m _) ?_
    refine bindS_mk (show aExtract _ _ = some _ from rfl) ?_
    refine bindS_mk (show aExtract _ _ = some _ from rfl) ?_
    refine bindS_mk u_not ?_
    refine g_tf ?_
    refine Meet.of (cast_p (G34_11111001002_eq _ _ _ _ _ _) ?_)
    refine bindV_mk p_t ?_
    exact Meet.of (bad (by unfold keep; rw [m]; simp))
  | true =>
    refine call_mk (encR1 r o m _) ?_
    refine bindS_mk (show aExtract _ _ = some _ from rfl) ?_
    refine bindS_mk (show aExtract _ _ = some _ from rfl) ?_
    refine bindS_mk u_not ?_
    refine g_ff ?_
    by_cases he : r.enc = s
    · refine bindS_mk (neqS _ _ he) ?_
      refine Meet.of (cast_p (G34_11111001002_eq _ _ _ _ _ _) ?_)
      refine bindV_mk p_f ?_
      refine Meet.of (cast_p (J34_1111101_eq _ _ _ _ _) ?_)
      refine i_f ?_
      refine Meet.of (cast_p (J34_111111_eq _ _ _ _) ?_)
      refine bindV_mk (ld_mk st.m1 (by kernel_rfl) (by with_unfolding_all exact rfl)) ?_
      refine bindV_mk (st0 _ _ st.m0 r o.im) ?_
      have hk : keep s r = some r := by unfold keep; rw [if_pos ⟨m, he⟩]
      rw [hk] at c
      exact bindR_mk (res34 _ r true put_at) c
    · refine bindS_mk (neqSt _ _ he) ?_
      refine Meet.of (cast_p (G34_11111001002_eq _ _ _ _ _ _) ?_)
      refine bindV_mk p_f ?_
      exact Meet.of (bad (by unfold keep; rw [if_neg (fun x => he x.2)]))
theorem imZ_set (t : List UInt8) (i : Nat) (hi : i < t.length) (h2 : i < 224) : (imZ (t.take i)).set i ((t.getD i 0).toNat : Int) = imZ (t.take (i + 1)) := by
  have l1 : (t.take i).length = i := by simp; omega
  have l2 : (t.take (i + 1)).length = i + 1 := by simp; omega
  have i1 : (imZ (t.take i)).length = 224 := imZ_len _ (by omega)
  have i2 : (imZ (t.take (i + 1))).length = 224 := imZ_len _ (by omega)
  apply List.ext_getElem (by rw [List.length_set, i1, i2])
  intro j hj1 hj2
  rw [List.getElem_set]
  have g : ∀ (l : List Int) (j : Nat) (h : j < l.length), l[j] = l.getD j 0 := fun l j h => by rw [List.getD_eq_getElem?_getD, List.getElem?_eq_getElem h]; rfl
  have tg : ∀ (n j : Nat), j < n → n ≤ t.length → (t.take n).getD j 0 = t.getD j 0 := fun n j h1 h2 => by
    rw [List.getD_eq_getElem?_getD, List.getElem?_take, if_pos h1, ← List.getD_eq_getElem?_getD]
  split
  · rename_i e
    subst e
    rw [g, imZ_getD _ _ (by omega), tg _ _ (by omega) (by omega)]
  · rename_i e
    rw [g, g]
    by_cases hlt : j < i
    · rw [imZ_getD _ _ (by omega), imZ_getD _ _ (by omega), tg _ _ (by omega) (by omega), tg _ _ (by omega) (by omega)]
    · rw [imZ_zero _ _ (by omega), imZ_zero _ _ (by omega)]
theorem setIm (r : Rc) (i : Nat) (x : Int) (hi : i < r.im.length) : setV r.v [2, i] (.int .u8 x) = some ({ r with im := r.im.set i x } : Rc).v := by
  have e : setV r.v [2, i] (.int .u8 x) = match (match (r.im.map (V.int .u8))[i]? with | some z => (match setV z [] (.int .u8 x) with | some y => some (V.agg ((r.im.map (V.int .u8)).set i y)) | none => none) | none => none) with
    | some y => some (.agg [.int .u8 r.k, vPg r.undo r.no, y, .int .u32 r.ts, vRef r.pp r.ps, .str r.dl, .int .u8 r.sl, vOld r.live r.op r.ots r.onp r.ons r.od])
    | none => none := rfl
  rw [e, List.getElem?_map, List.getElem?_eq_getElem hi]
  simp only [Option.map_some, setV]
  have : (r.im.map (V.int .u8)).set i (.int .u8 x) = (r.im.set i x).map (V.int .u8) := by rw [List.map_set]
  rw [this]
  rfl
theorem loop34 (s : List UInt8) (t : List UInt8) (r : Rc) (ht : t.length < 140737488355328) (q : AEnd → Prop) (c : ∀ h, S2 h { r with im := imZ (t.take 224) } → J34_1111 (fun e _ => q e) (.str s) (pR 0) (pR 1) h) :
    ∀ (m i f : Nat) (h : AH), i + m = 224 → i ≤ t.length → m < f → S2 h { r with im := imZ (t.take i) } → L34_111010101110 (fun e _ => q e) f (.str s) (pR 0) (pR 1) (.str t) (.int .i64 (i : Int)) h
  | m, i, 0, h, _, _, hf, _ => absurd hf (by omega)
  | m, i, f + 1, h, hi, hl, hf, st => by
    rw [L34_111010101110_eq]
    refine bindV_mk (len_str (by kernel_rfl)) ?_
    by_cases h1 : i < t.length
    · refine bindS_mk (b_lss_t (by omega)) ?_
      refine g_tt ?_
      by_cases h2 : i < 224
      · obtain ⟨m, rfl⟩ : ∃ m', m = m' + 1 := ⟨m - 1, by omega⟩
        refine bindS_mk (b_lss_t (by omega)) ?_
        refine Meet.of (cast_p (G34_1110101011100001002_eq _ _ _ _ _ _ _ _ _ _) ?_)
        refine bindV_mk p_t ?_
        refine Meet.of (cast_p (J34_111010101110001_eq _ _ _ _ _ _ _ _ _) ?_)
        refine i_t ?_
        refine Meet.of (cast_p (J34_11101010111001_eq _ _ _ _ _ _ _ _) ?_)
        refine bindS_mk (ix_str str9 h1) ?_
        refine bindS_mk (fa_mk (by kernel_rfl)) ?_
        refine bindS_mk ((ia44 1 (i : Int)).trans (if_pos (by rw [decide_eq_true_eq]; omega))) ?_
        rw [Int.toNat_natCast]
        have lt : (t.take i).length = i := by simp; omega
        have il : (imZ (t.take i)).length = 224 := imZ_len _ (by omega)
        have sv := setIm { r with im := imZ (t.take i) } i ((t.getD i 0).toNat : Int) (by show i < (imZ (t.take i)).length; omega)
        have gv := getIm { r with im := imZ (t.take i) } i (by show i < (imZ (t.take i)).length; omega)
        refine bindV_mk (st_mk st.m1 (ld44 i) gv (sh5 _) sv) ?_
        have e : ({ r with im := (imZ (t.take i)).set i ((t.getD i 0).toNat : Int) } : Rc) = { r with im := imZ (t.take (i + 1)) } := by rw [imZ_set t i h1 h2]
        have st' := st.store { r with im := (imZ (t.take i)).set i ((t.getD i 0).toNat : Int) }
        rw [e] at st'
        refine Meet.of (cast_p (J34_111010101110011_eq _ _ _ _ _ _ _ _) ?_)
        refine bindS_mk (c_inc (by omega)) ?_
        refine Meet.of ?_
        have := loop34 s t r ht q c m (i + 1) f _ (by omega) (by omega) (by omega) st'
        rw [← e] at this
        exact this
      · refine bindS_mk (b_lss_f (by omega)) ?_
        refine Meet.of (cast_p (G34_1110101011100001002_eq _ _ _ _ _ _ _ _ _ _) ?_)
        refine bindV_mk p_t ?_
        refine Meet.of (cast_p (J34_111010101110001_eq _ _ _ _ _ _ _ _ _) ?_)
        refine i_f ?_
        have : i = 224 := by omega
        subst this
        exact Meet.of (c h st)
    · refine bindS_mk (b_lss_f (by omega)) ?_
      refine g_ft ?_
      refine Meet.of (cast_p (G34_1110101011100001002_eq _ _ _ _ _ _ _ _ _ _) ?_)
      refine bindV_mk p_f ?_
      refine Meet.of (cast_p (J34_111010101110001_eq _ _ _ _ _ _ _ _ _) ?_)
      refine i_f ?_
      rw [List.take_of_length_le (show t.length ≤ i by omega)] at st
      rw [List.take_of_length_le (show t.length ≤ 224 by omega)] at c
      exact Meet.of (c h st)
/-- What the reference reads, before it looks whether the bytes say so. -/
def loose (s : List UInt8) (k : Nat) : Rc :=
  if k = 1 then { Rc.z k with undo := (((rdN s 1 1 : Nat) : Int) == 1), no := ((rdN s 2 2 : Nat) : Int), im := imZ ((s.drop 5).take 224) }
  else if k = 2 then { Rc.z k with no := ((rdN s 1 2 : Nat) : Int), ts := ((rdN s 3 4 : Nat) : Int), pp := ((rdN s 7 2 : Nat) : Int), ps := ((rdN s 9 1 : Nat) : Int), dl := s.drop 11 }
  else if k = 3 then { Rc.z k with undo := true, no := ((rdN s 1 2 : Nat) : Int), sl := ((rdN s 3 1 : Nat) : Int), live := true, op := ((rdN s 4 2 : Nat) : Int), ots := ((rdN s 6 4 : Nat) : Int), onp := ((rdN s 10 2 : Nat) : Int), ons := ((rdN s 12 1 : Nat) : Int), od := s.drop 14 }
  else if k = 4 ∨ k = 5 then { Rc.z k with undo := true, no := ((rdN s 1 2 : Nat) : Int), sl := ((rdN s 3 1 : Nat) : Int) }
  else if k = 6 then { Rc.z k with ts := ((rdN s 1 4 : Nat) : Int) }
  else Rc.z k
theorem loose_ok (s : List UInt8) (k : Nat) (hk : k < 256) (hs : s.length < 140737488355328) : (loose s k).ok := by
  have p1 := rdN_lt s 1 1
  have n1 : ∀ i, 0 ≤ ((rdN s i 1 : Nat) : Int) ∧ ((rdN s i 1 : Nat) : Int) < 256 := fun i => n8 (rdN_lt s i 1)
  have n2 : ∀ i, 0 ≤ ((rdN s i 2 : Nat) : Int) ∧ ((rdN s i 2 : Nat) : Int) < 65536 := fun i => n16 (rdN_lt s i 2)
  have n4 : ∀ i, 0 ≤ ((rdN s i 4 : Nat) : Int) ∧ ((rdN s i 4 : Nat) : Int) < 4294967296 := fun i => n32 (rdN_lt s i 4)
  have hd : ∀ i, (s.drop i).length < 140737488355328 := fun i => by simp; omega
  have iz : (imZ ((s.drop 5).take 224)).length = 224 := imZ_len _ (by simp; omega)
  unfold loose
  repeat' split
  · exact ⟨iz, imZb _, n8 hk, n2 _, z32, z16, z8, zL, z8, z16, z32, z16, z8, zL⟩
  · exact ⟨im00, im0b, n8 hk, n2 _, n4 _, n2 _, n1 _, hd _, z8, z16, z32, z16, z8, zL⟩
  · exact ⟨im00, im0b, n8 hk, n2 _, z32, z16, z8, zL, n1 _, n2 _, n4 _, n2 _, n1 _, hd _⟩
  · exact ⟨im00, im0b, n8 hk, n2 _, z32, z16, z8, zL, n1 _, z16, z32, z16, z8, zL⟩
  · exact ⟨im00, im0b, n8 hk, z16, n4 _, z16, z8, zL, z8, z16, z32, z16, z8, zL⟩
  · exact ⟨im00, im0b, n8 hk, z16, z32, z16, z8, zL, z8, z16, z32, z16, z8, zL⟩
end Go.Proofs.Ytdhlolcpcgpcnaa.Sh
namespace Go.Proofs.Ytdhlolcpcgpcnaa.Sh
open Go Go.Ab Go.RowKit Go.Gr
set_option linter.unusedSimpArgs false
set_option linter.unusedVariables false
set_option maxRecDepth 10000
theorem build49'' (p t a b : Int) (d : List UInt8) : aBuild Pg 49 [(0, .bool true), (1, .int .u16 p), (2, .int .u32 t), (3, vRef a b), (4, .str d)] = some (vOld true p t a b d) := by kernel_rfl
theorem w456 (s : List UInt8) (hs : s.length < 140737488355328) (k : Nat) (hk : k < 256) (n1 : ¬ k = 1) (n2 : ¬ k = 2) (n3 : ¬ k = 3) {h : AH} (st : S2 h (Rc.z k)) (q : AEnd → Prop) (c : q (.ret (decR (keep s (loose s k))))) (b : Bool)
    (hb : b = true → k = 4 ∨ k = 5) (hb2 : b = false → ¬ (k = 4 ∨ k = 5)) : J34_1110101111111 (fun e _ => q e) (.str s) (pR 0) (pR 1) (.int .u8 (k : Int)) (.bool b) h := by
  rw [J34_1110101111111_eq]
  cases b with
  | true =>
    have k45 := hb rfl
    have L : loose s k = { Rc.z k with undo := true, no := ((rdN s 1 2 : Nat) : Int), sl := ((rdN s 3 1 : Nat) : Int) } := by unfold loose; rw [if_neg n1, if_neg n2, if_neg n3, if_pos k45]
    have o := loose_ok s k hk hs
    rw [L] at o c
    refine i_t ?_
    refine call_mk (atP s 1 2 (by decide) (by decide) hs _) ?_
    refine bindS_mk (cv_int (d := 40) .u16 (by kernel_rfl)) ?_
    rw [wr2]
    refine bindS_mk (build42' _ _) ?_
    refine bindS_mk (fa_mk (by kernel_rfl)) ?_
    refine bindV_mk (st_mk st.m1 (by kernel_rfl) (by with_unfolding_all exact rfl) ((sh42 _ _)) (v' := ({ Rc.z k with undo := true, no := ((rdN s 1 2 : Nat) : Int) } : Rc).v) (by with_unfolding_all exact rfl)) ?_
    replace st := st.store ({ Rc.z k with undo := true, no := ((rdN s 1 2 : Nat) : Int) } : Rc)
    refine call_mk (atP s 3 1 (by decide) (by decide) hs _) ?_
    refine bindS_mk (cv_int (d := 5) .u8 (by kernel_rfl)) ?_
    rw [wr1]
    refine bindS_mk (fa_mk (by kernel_rfl)) ?_
    refine bindV_mk (st_mk st.m1 (by kernel_rfl) (by with_unfolding_all exact rfl) ((sh5 _)) (v' := ({ Rc.z k with undo := true, no := ((rdN s 1 2 : Nat) : Int), sl := ((rdN s 3 1 : Nat) : Int) } : Rc).v) (by with_unfolding_all exact rfl)) ?_
    replace st := st.store ({ Rc.z k with undo := true, no := ((rdN s 1 2 : Nat) : Int), sl := ((rdN s 3 1 : Nat) : Int) } : Rc)
    exact Meet.of (tail34 s st (o) q c)
  | false =>
    have k45 := hb2 rfl
    refine i_f ?_
    by_cases k6 : k = 6
    · refine bindS_mk (b_eql_t (by show ((k : Nat) : Int) = 6; omega)) ?_
      have L : loose s k = { Rc.z k with ts := ((rdN s 1 4 : Nat) : Int) } := by unfold loose; rw [if_neg n1, if_neg n2, if_neg n3, if_neg k45, if_pos k6]
      have o := loose_ok s k hk hs
      rw [L] at o c
      refine i_t ?_
      refine call_mk (atP s 1 4 (by decide) (by decide) hs _) ?_
      refine bindS_mk (cv_int (d := 45) .u32 (by kernel_rfl)) ?_
      rw [wr4]
      refine bindS_mk (fa_mk (by kernel_rfl)) ?_
      refine bindV_mk (st_mk st.m1 (by kernel_rfl) (by with_unfolding_all exact rfl) ((sh45 _)) (v' := ({ Rc.z k with ts := ((rdN s 1 4 : Nat) : Int) } : Rc).v) (by with_unfolding_all exact rfl)) ?_
      replace st := st.store ({ Rc.z k with ts := ((rdN s 1 4 : Nat) : Int) } : Rc)
      exact Meet.of (tail34 s st (o) q c)
    · refine bindS_mk (b_eql_f (by show ¬ ((k : Nat) : Int) = 6; omega)) ?_
      have L : loose s k = Rc.z k := by unfold loose; rw [if_neg n1, if_neg n2, if_neg n3, if_neg k45, if_neg k6]
      have o := loose_ok s k hk hs
      rw [L] at o c
      refine i_f ?_
      exact Meet.of (tail34 s st (o) q c)
theorem walk34 (s : List UInt8) (hs : s.length < 140737488355328) (h1 : 0 < s.length) (q : AEnd → Prop) (c : q (.ret (decR (keep s (loose s (s.getD 0 0).toNat))))) :
    J34_11 (fun e _ => q e) (.str s) (pR 0) (AH0.make (.cells true (.one 51) (rz 0))) := by
  have hk := (s.getD 0 0).toNat_lt
  rw [J34_11_eq]
  refine bindS_mk (ix_str (i := 0) str9 h1) ?_
  generalize (s.getD 0 0).toNat = k at hk c ⊢
  have hk : k < 256 := hk
  refine bindS_mk (build51 _) ?_
  refine bindV_mk (al_mk zero51 (shRz 0)) ?_
  refine bindV_mk (st_mk (v := rz 0) (v' := rz (k : Nat)) rfl (by kernel_rfl) rfl (shRz _) rfl) ?_
  have st : S2 (((AH0.make (.cells true (.one 51) (rz 0))).make (.cells true (.one 51) (rz 0))).put 1 (.cells true (.one 51) (rz k))) (Rc.z k) := ⟨rfl, rfl⟩
  refine bindS_mk (fa_mk (by kernel_rfl)) ?_
  refine bindV_mk (ld_mk st.m1 (by kernel_rfl) (by with_unfolding_all exact rfl)) ?_
  by_cases k1 : k = 1
  · refine bindS_mk (b_eql_t (by show ((k : Nat) : Int) = 1; omega)) ?_
    have L : loose s k = { Rc.z k with undo := (((rdN s 1 1 : Nat) : Int) == 1), no := ((rdN s 2 2 : Nat) : Int), im := imZ ((s.drop 5).take 224) } := by unfold loose; rw [if_pos k1]
    have o := loose_ok s k hk hs
    rw [L] at o c
    refine i_t ?_
    refine call_mk (atP s 1 1 (by decide) (by decide) hs _) ?_
    refine bindS_mk (b_eql) ?_
    refine call_mk (atP s 2 2 (by decide) (by decide) hs _) ?_
    refine bindS_mk (cv_int (d := 40) .u16 (by kernel_rfl)) ?_
    rw [wr2]
    refine bindS_mk (build42' _ _) ?_
    refine bindS_mk (fa_mk (by kernel_rfl)) ?_
    refine bindV_mk (st_mk st.m1 (by kernel_rfl) (by with_unfolding_all exact rfl) ((sh42 _ _)) (v' := ({ Rc.z k with undo := (((rdN s 1 1 : Nat) : Int) == 1), no := ((rdN s 2 2 : Nat) : Int) } : Rc).v) (by with_unfolding_all exact rfl)) ?_
    replace st := st.store ({ Rc.z k with undo := (((rdN s 1 1 : Nat) : Int) == 1), no := ((rdN s 2 2 : Nat) : Int) } : Rc)
    refine call_mk (fromP s 5 (by decide) hs _) ?_
    refine ⟨225, Meet.of ?_⟩
    exact loop34 s (s.drop 5) { Rc.z k with undo := (((rdN s 1 1 : Nat) : Int) == 1), no := ((rdN s 2 2 : Nat) : Int) } (by simp; omega) q (fun h2 st2 => tail34 s st2 o q c) 224 0 225 _ (by omega) (by omega) (by omega) st
  refine bindS_mk (b_eql_f (by show ¬ ((k : Nat) : Int) = 1; omega)) ?_
  refine i_f ?_
  by_cases k2 : k = 2
  · refine bindS_mk (b_eql_t (by show ((k : Nat) : Int) = 2; omega)) ?_
    have L : loose s k = { Rc.z k with no := ((rdN s 1 2 : Nat) : Int), ts := ((rdN s 3 4 : Nat) : Int), pp := ((rdN s 7 2 : Nat) : Int), ps := ((rdN s 9 1 : Nat) : Int), dl := s.drop 11 } := by unfold loose; rw [if_neg k1, if_pos k2]
    have o := loose_ok s k hk hs
    rw [L] at o c
    refine i_t ?_
    refine call_mk (atP s 1 2 (by decide) (by decide) hs _) ?_
    refine bindS_mk (cv_int (d := 40) .u16 (by kernel_rfl)) ?_
    rw [wr2]
    refine bindS_mk (fa_mk (by kernel_rfl)) ?_
    refine bindS_mk (fa_mk (by kernel_rfl)) ?_
    refine bindV_mk (st_mk st.m1 (by kernel_rfl) (by with_unfolding_all exact rfl) ((sh40 _)) (v' := ({ Rc.z k with no := ((rdN s 1 2 : Nat) : Int) } : Rc).v) (by with_unfolding_all exact rfl)) ?_
    replace st := st.store ({ Rc.z k with no := ((rdN s 1 2 : Nat) : Int) } : Rc)
    refine call_mk (atP s 3 4 (by decide) (by decide) hs _) ?_
    refine bindS_mk (cv_int (d := 45) .u32 (by kernel_rfl)) ?_
    rw [wr4]
    refine bindS_mk (fa_mk (by kernel_rfl)) ?_
    refine bindV_mk (st_mk st.m1 (by kernel_rfl) (by with_unfolding_all exact rfl) ((sh45 _)) (v' := ({ Rc.z k with no := ((rdN s 1 2 : Nat) : Int), ts := ((rdN s 3 4 : Nat) : Int) } : Rc).v) (by with_unfolding_all exact rfl)) ?_
    replace st := st.store ({ Rc.z k with no := ((rdN s 1 2 : Nat) : Int), ts := ((rdN s 3 4 : Nat) : Int) } : Rc)
    refine call_mk (atP s 7 2 (by decide) (by decide) hs _) ?_
    refine bindS_mk (cv_int (d := 40) .u16 (by kernel_rfl)) ?_
    rw [wr2]
    refine call_mk (atP s 9 1 (by decide) (by decide) hs _) ?_
    refine bindS_mk (cv_int (d := 5) .u8 (by kernel_rfl)) ?_
    rw [wr1]
    refine bindS_mk (build47' _ _) ?_
    refine bindS_mk (fa_mk (by kernel_rfl)) ?_
    refine bindV_mk (st_mk st.m1 (by kernel_rfl) (by with_unfolding_all exact rfl) ((shRef _ _)) (v' := ({ Rc.z k with no := ((rdN s 1 2 : Nat) : Int), ts := ((rdN s 3 4 : Nat) : Int), pp := ((rdN s 7 2 : Nat) : Int), ps := ((rdN s 9 1 : Nat) : Int) } : Rc).v) (by with_unfolding_all exact rfl)) ?_
    replace st := st.store ({ Rc.z k with no := ((rdN s 1 2 : Nat) : Int), ts := ((rdN s 3 4 : Nat) : Int), pp := ((rdN s 7 2 : Nat) : Int), ps := ((rdN s 9 1 : Nat) : Int) } : Rc)
    refine call_mk (fromP s 11 (by decide) hs _) ?_
    refine bindS_mk (fa_mk (by kernel_rfl)) ?_
    refine bindV_mk (st_mk st.m1 (by kernel_rfl) (by with_unfolding_all exact rfl) ((shS _)) (v' := ({ Rc.z k with no := ((rdN s 1 2 : Nat) : Int), ts := ((rdN s 3 4 : Nat) : Int), pp := ((rdN s 7 2 : Nat) : Int), ps := ((rdN s 9 1 : Nat) : Int), dl := s.drop 11 } : Rc).v) (by with_unfolding_all exact rfl)) ?_
    replace st := st.store ({ Rc.z k with no := ((rdN s 1 2 : Nat) : Int), ts := ((rdN s 3 4 : Nat) : Int), pp := ((rdN s 7 2 : Nat) : Int), ps := ((rdN s 9 1 : Nat) : Int), dl := s.drop 11 } : Rc)
    exact Meet.of (tail34 s st (o) q c)
  refine bindS_mk (b_eql_f (by show ¬ ((k : Nat) : Int) = 2; omega)) ?_
  refine i_f ?_
  by_cases k3 : k = 3
  · refine bindS_mk (b_eql_t (by show ((k : Nat) : Int) = 3; omega)) ?_
    have L : loose s k = { Rc.z k with undo := true, no := ((rdN s 1 2 : Nat) : Int), sl := ((rdN s 3 1 : Nat) : Int), live := true, op := ((rdN s 4 2 : Nat) : Int), ots := ((rdN s 6 4 : Nat) : Int), onp := ((rdN s 10 2 : Nat) : Int), ons := ((rdN s 12 1 : Nat) : Int), od := s.drop 14 } := by unfold loose; rw [if_neg k1, if_neg k2, if_pos k3]
    have o := loose_ok s k hk hs
    rw [L] at o c
    refine i_t ?_
    refine call_mk (atP s 1 2 (by decide) (by decide) hs _) ?_
    refine bindS_mk (cv_int (d := 40) .u16 (by kernel_rfl)) ?_
    rw [wr2]
    refine bindS_mk (build42' _ _) ?_
    refine bindS_mk (fa_mk (by kernel_rfl)) ?_
    refine bindV_mk (st_mk st.m1 (by kernel_rfl) (by with_unfolding_all exact rfl) ((sh42 _ _)) (v' := ({ Rc.z k with undo := true, no := ((rdN s 1 2 : Nat) : Int) } : Rc).v) (by with_unfolding_all exact rfl)) ?_
    replace st := st.store ({ Rc.z k with undo := true, no := ((rdN s 1 2 : Nat) : Int) } : Rc)
    refine call_mk (atP s 3 1 (by decide) (by decide) hs _) ?_
    refine bindS_mk (cv_int (d := 5) .u8 (by kernel_rfl)) ?_
    rw [wr1]
    refine bindS_mk (fa_mk (by kernel_rfl)) ?_
    refine bindV_mk (st_mk st.m1 (by kernel_rfl) (by with_unfolding_all exact rfl) ((sh5 _)) (v' := ({ Rc.z k with undo := true, no := ((rdN s 1 2 : Nat) : Int), sl := ((rdN s 3 1 : Nat) : Int) } : Rc).v) (by with_unfolding_all exact rfl)) ?_
    replace st := st.store ({ Rc.z k with undo := true, no := ((rdN s 1 2 : Nat) : Int), sl := ((rdN s 3 1 : Nat) : Int) } : Rc)
    refine call_mk (atP s 4 2 (by decide) (by decide) hs _) ?_
    refine bindS_mk (cv_int (d := 40) .u16 (by kernel_rfl)) ?_
    rw [wr2]
    refine call_mk (atP s 6 4 (by decide) (by decide) hs _) ?_
    refine bindS_mk (cv_int (d := 45) .u32 (by kernel_rfl)) ?_
    rw [wr4]
    refine call_mk (atP s 10 2 (by decide) (by decide) hs _) ?_
    refine bindS_mk (cv_int (d := 40) .u16 (by kernel_rfl)) ?_
    rw [wr2]
    refine call_mk (atP s 12 1 (by decide) (by decide) hs _) ?_
    refine bindS_mk (cv_int (d := 5) .u8 (by kernel_rfl)) ?_
    rw [wr1]
    refine bindS_mk (build47' _ _) ?_
    refine call_mk (fromP s 14 (by decide) hs _) ?_
    refine bindS_mk (build49'' _ _ _ _ _) ?_
    refine bindS_mk (fa_mk (by kernel_rfl)) ?_
    refine bindV_mk (st_mk st.m1 (by kernel_rfl) (by with_unfolding_all exact rfl) ((sh49 _ _ _ _ _ _)) (v' := ({ Rc.z k with undo := true, no := ((rdN s 1 2 : Nat) : Int), sl := ((rdN s 3 1 : Nat) : Int), live := true, op := ((rdN s 4 2 : Nat) : Int), ots := ((rdN s 6 4 : Nat) : Int), onp := ((rdN s 10 2 : Nat) : Int), ons := ((rdN s 12 1 : Nat) : Int), od := s.drop 14 } : Rc).v) (by with_unfolding_all exact rfl)) ?_
    replace st := st.store ({ Rc.z k with undo := true, no := ((rdN s 1 2 : Nat) : Int), sl := ((rdN s 3 1 : Nat) : Int), live := true, op := ((rdN s 4 2 : Nat) : Int), ots := ((rdN s 6 4 : Nat) : Int), onp := ((rdN s 10 2 : Nat) : Int), ons := ((rdN s 12 1 : Nat) : Int), od := s.drop 14 } : Rc)
    exact Meet.of (tail34 s st (o) q c)
  refine bindS_mk (b_eql_f (by show ¬ ((k : Nat) : Int) = 3; omega)) ?_
  refine i_f ?_
  by_cases k4 : k = 4
  · refine bindS_mk (b_eql_t (by show ((k : Nat) : Int) = 4; omega)) ?_
    exact i_t (Meet.of (w456 s hs k hk k1 k2 k3 st q c true (fun _ => .inl k4) (fun h => by cases h)))
  refine bindS_mk (b_eql_f (by show ¬ ((k : Nat) : Int) = 4; omega)) ?_
  refine i_f ?_
  by_cases k5 : k = 5
  · refine bindS_mk (b_eql_t (by show ((k : Nat) : Int) = 5; omega)) ?_
    exact Meet.of (w456 s hs k hk k1 k2 k3 st q c true (fun _ => .inr k5) (fun h => by cases h))
  refine bindS_mk (b_eql_f (by show ¬ ((k : Nat) : Int) = 5; omega)) ?_
  exact Meet.of (w456 s hs k hk k1 k2 k3 st q c false (fun h => by cases h) (fun _ h => h.elim k4 k5))
/-- What the reference reads. -/
def refD (s : List UInt8) : Option Rc := if s = [] then none else keep s (loose s (s.getD 0 0).toNat)
theorem flat_decR : ∀ o : Option Rc, flatB (decR o) = true := by
  intro o
  have := flat_dec o
  cases o with
  | none => simpa [decV, decR, flatB, flatBs] using this
  | some r => simpa [decV, decR, flatB, flatBs] using this
theorem dec34 (s : List UInt8) (hs : s.length < 140737488355328) (h : AH) : ACalls Pg 34 [.str s] h (pureE (decR (refD s)) h) := by
  refine pure_lift rfl (flat_decR _) (C34 _ _ _ ?_) h
  refine bindV_mk (al_mk zero51 (shRz 0)) ?_
  cases s with
  | nil =>
    refine bindS_mk (t_eql_t rfl) ?_
    refine i_t ?_
    refine bindS_mk build51z ?_
    refine bindV_mk (st0 _ _ rfl (Rc.z 0) z0im) ?_
    exact bindR_mk (res34 _ (Rc.z 0) false put_at) rfl
  | cons b t =>
    refine bindS_mk t_eql ?_
    have e : ((b :: t == []) : Bool) = false := rfl
    rw [e]
    refine i_f ?_
    have hq : refD (b :: t) = keep (b :: t) (loose (b :: t) ((b :: t).getD 0 0).toNat) := by unfold refD; rw [if_neg (by simp)]
    rw [hq]
    exact Meet.of (walk34 (b :: t) hs (by simp) (fun e => e = .ret (decR (keep (b :: t) (loose (b :: t) ((b :: t).getD 0 0).toNat)))) rfl)
end Go.Proofs.Ytdhlolcpcgpcnaa.Sh
namespace Go.Proofs.Ytdhlolcpcgpcnaa.Sh
open Go Go.Ab Go.RowKit Go.Gr
set_option linter.unusedSimpArgs false
set_option linter.unusedVariables false
set_option maxRecDepth 10000
theorem rdN_tk {s u : List UInt8} {i n : Nat} {x : Int} (h0 : 0 ≤ x) (h1 : x < 256 ^ n) (hd : s.drop i = lay n x ++ u) (hn : 0 < n) : ((rdN s i n : Nat) : Int) = x := by
  have ht := tk_lay n x u h0 h1
  rw [← hd] at ht
  have hl := congrArg List.length hd
  rw [List.length_append, lay_len, List.length_drop] at hl
  unfold tk at ht
  split at ht
  · rename_i hc
    simp only [List.length_drop] at hc
    simp only [Option.some.injEq, Prod.mk.injEq] at ht
    have hv : ∀ (m : Nat) (p : List UInt8) (j i : Nat), valB (p.drop i) j m = valB p (i + j) m := by
      intro m
      induction m with
      | zero => intros; rfl
      | succ m ih =>
        intro p j i
        simp only [valB, ih, List.getD_eq_getElem?_getD, List.getElem?_drop, Nat.add_assoc]
    have h2 := ht.1
    rw [hv n s 0 i, Nat.add_zero] at h2
    unfold rdN
    rw [if_pos (by omega), h2]
    omega
  · cases ht
theorem rdN_1 {s u : List UInt8} {i : Nat} {x : Int} (h : 0 ≤ x ∧ x < 256) (hd : s.drop i = c1 x :: u) : ((rdN s i 1 : Nat) : Int) = x :=
  rdN_tk h.1 h.2 (by rw [lay1 h]; exact hd) (by decide)
theorem loose_enc (r : Rc) (o : r.ok) (m : r.may = true) : loose r.enc (r.enc.getD 0 0).toNat = r := by
  obtain ⟨hb, k1, k6, hdl, hod⟩ := may_bare m
  have hk : (((r.enc.getD 0 0).toNat : Nat) : Int) = r.k := by rw [enc_0, c1_nat o.k]; have := o.k; omega
  generalize (r.enc.getD 0 0).toNat = k at hk ⊢
  have hbb := hb
  unfold Rc.bare at hbb
  unfold loose
  by_cases q1 : r.k = 1
  · have enc : r.enc = c1 r.k :: (if r.undo then 1 else 0) :: (lay 2 r.no ++ c1 (trimTo r.im 224) :: imB (r.im.take (trimTo r.im 224))) := by unfold Rc.enc; rw [if_pos q1]
    have hn := trimTo_le r.im 224
    have hl : (imB (r.im.take (trimTo r.im 224))).length = trimTo r.im 224 := by simp [imB, o.im]; omega
    have eu : (if r.undo then (1 : UInt8) else 0) = c1 (if r.undo then 1 else 0) := by cases r.undo <;> rfl
    rw [if_pos q1] at hbb
    rw [if_pos (by omega)]
    rw [rdN_1 (x := if r.undo then 1 else 0) (by cases r.undo <;> decide) (show r.enc.drop 1 = _ by rw [enc, eu]; rfl), rdN_tk (n := 2) o.no.1 o.no.2 (show r.enc.drop 2 = _ by rw [enc]; rfl) (by decide)]
    have e5 : r.enc.drop 5 = imB (r.im.take (trimTo r.im 224)) := by rw [enc]; rfl
    rw [e5, List.take_of_length_le (by omega), imZ_imB r.im o.im o.imb, hk]
    refine Eq.trans ?_ hbb
    have e1 : ((if r.undo then 1 else 0 : Int) == 1) = r.undo := by cases r.undo <;> rfl
    rw [e1]
  by_cases q2 : r.k = 2
  · have enc : r.enc = c1 r.k :: (lay 2 r.no ++ (lay 4 r.ts ++ (lay 2 r.pp ++ c1 r.ps :: c1 r.dl.length :: r.dl))) := by unfold Rc.enc; rw [if_neg q1, if_pos q2]
    rw [if_neg q1, if_pos q2] at hbb
    rw [if_neg (by omega), if_pos (by omega)]
    rw [rdN_tk (n := 2) o.no.1 o.no.2 (show r.enc.drop 1 = _ by rw [enc]; rfl) (by decide), rdN_tk (n := 4) o.ts.1 o.ts.2 (show r.enc.drop 3 = _ by rw [enc]; rfl) (by decide),
      rdN_tk (n := 2) o.pp.1 o.pp.2 (show r.enc.drop 7 = _ by rw [enc]; rfl) (by decide), rdN_1 o.ps (show r.enc.drop 9 = _ by rw [enc]; rfl), show r.enc.drop 11 = r.dl by rw [enc]; rfl, hk]
    exact hbb
  by_cases q3 : r.k = 3
  · have enc : r.enc = c1 r.k :: (lay 2 r.no ++ c1 r.sl :: (lay 2 r.op ++ (lay 4 r.ots ++ (lay 2 r.onp ++ c1 r.ons :: c1 r.od.length :: r.od)))) := by unfold Rc.enc; rw [if_neg q1, if_neg q2, if_pos q3]
    rw [if_neg q1, if_neg q2, if_pos q3] at hbb
    rw [if_neg (by omega), if_neg (by omega), if_pos (by omega)]
    rw [rdN_tk (n := 2) o.no.1 o.no.2 (show r.enc.drop 1 = _ by rw [enc]; rfl) (by decide), rdN_1 o.sl (show r.enc.drop 3 = _ by rw [enc]; rfl), rdN_tk (n := 2) o.op.1 o.op.2 (show r.enc.drop 4 = _ by rw [enc]; rfl) (by decide),
      rdN_tk (n := 4) o.ots.1 o.ots.2 (show r.enc.drop 6 = _ by rw [enc]; rfl) (by decide), rdN_tk (n := 2) o.onp.1 o.onp.2 (show r.enc.drop 10 = _ by rw [enc]; rfl) (by decide), rdN_1 o.ons (show r.enc.drop 12 = _ by rw [enc]; rfl), show r.enc.drop 14 = r.od by rw [enc]; rfl, hk]
    exact hbb
  by_cases q6 : r.k = 6
  · have enc : r.enc = c1 r.k :: lay 4 r.ts := by unfold Rc.enc; rw [if_neg q1, if_neg q2, if_neg q3, if_pos q6]
    rw [if_neg q1, if_neg q2, if_neg q3, if_neg (by omega), if_neg (by omega), if_pos q6] at hbb
    rw [if_neg (by omega), if_neg (by omega), if_neg (by omega), if_neg (by omega), if_pos (by omega)]
    rw [rdN_tk (n := 4) (u := []) o.ts.1 o.ts.2 (show r.enc.drop 1 = _ by rw [enc]; rfl) (by decide), hk]
    exact hbb
  · have enc : r.enc = c1 r.k :: (lay 2 r.no ++ [c1 r.sl]) := by unfold Rc.enc; rw [if_neg q1, if_neg q2, if_neg q3, if_neg q6]
    rw [if_neg (by omega), if_neg (by omega), if_neg (by omega), if_pos (by omega)]
    rw [rdN_tk (n := 2) o.no.1 o.no.2 (show r.enc.drop 1 = _ by rw [enc]; rfl) (by decide), rdN_1 o.sl (show r.enc.drop 3 = _ by rw [enc]; rfl), hk]
    by_cases q4 : r.k = 4
    · rw [if_neg q1, if_neg q2, if_neg q3, if_pos q4] at hbb
      exact hbb
    · rw [if_neg q1, if_neg q2, if_neg q3, if_neg q4, if_pos (by omega)] at hbb
      exact hbb
theorem refD_eq (s : List UInt8) (hs : s.length < 140737488355328) : refD s = parse s := by
  match e : parse s with
  | some r =>
    obtain ⟨o, m, rfl⟩ := parse_sound s r e
    have hne : ¬ r.enc = [] := by obtain ⟨t, h⟩ := enc_head r; rw [h]; simp
    unfold refD
    rw [if_neg hne, loose_enc r o m]
    unfold keep
    rw [if_pos ⟨m, rfl⟩]
  | none =>
    unfold refD
    split
    · rfl
    · unfold keep
      split
      · rename_i h
        have o := loose_ok s (s.getD 0 0).toNat (s.getD 0 0).toNat_lt hs
        have := parse_complete _ o h.1
        rw [h.2, e] at this
        cases this
      · rfl
theorem decodesLaw (s : List UInt8) (hs : s.length < 140737488355328) : ACalls Pg 12 [.str s] AH0 qT := by
  have d := fun h => decP s hs h
  have d2 := fun h => dec34 s hs h
  rw [refD_eq s hs] at d2
  have z := z0im
  refine C12 _ (.str s) AH0 ?_
  cases e : parse s with
  | none =>
    rw [e] at d d2
    refine call_mk (d _) ?_
    refine bindS_mk (show aExtract _ _ = some _ from rfl) ?_
    refine bindS_mk (show aExtract _ _ = some _ from rfl) ?_
    refine bindV_mk (al_mk zero51 (shRz 0)) ?_
    refine bindV_mk (st_mk (by rw [make_m, if_pos rfl]) (by kernel_rfl) (by with_unfolding_all exact rfl) (shR _ (by first | assumption | exact List.length_replicate ..)) (by with_unfolding_all exact rfl)) ?_
    refine call_mk (d2 _) ?_
    refine bindS_mk (show aExtract _ _ = some _ from rfl) ?_
    refine bindS_mk (show aExtract _ _ = some _ from rfl) ?_
    refine bindV_mk (al_mk zero51 (shRz 0)) ?_
    refine bindV_mk (st_mk (by rw [make_m, if_pos rfl]) (by kernel_rfl) (by with_unfolding_all exact rfl) (shR _ (by first | assumption | exact List.length_replicate ..)) (by with_unfolding_all exact rfl)) ?_
    refine bindV_mk (ld_mk (by with_unfolding_all exact rfl) (by kernel_rfl) (by with_unfolding_all exact rfl)) ?_
    refine bindV_mk (ld_mk (by with_unfolding_all exact rfl) (by kernel_rfl) (by with_unfolding_all exact rfl)) ?_
    refine bindS_mk (eq51 (Rc.z 0) (Rc.z 0) z z _) ?_
    rw [decide_eq_true rfl]
    refine g_tt ?_
    refine bindS_mk (b_eql_f (by omega)) ?_
    refine bindS_mk (eqB) ?_
    rw [beq_self_eq_true]
    refine Meet.of (cast_p (G12_11101002_eq _ _ _ _ _ _) ?_)
    refine bindV_mk p_t ?_
    refine g_tt ?_
    refine Meet.of (cast_p (G12_11101004_eq _ _ _ _ _) ?_)
    refine g_ff ?_
    refine bindS_mk (b_eql_t (by omega)) ?_
    refine Meet.of (cast_p (G12_11101005_eq _ _ _ _ _) ?_)
    refine g_tt ?_
    refine bindV_mk p_f ?_
    refine Meet.of (cast_p (G12_11101006_eq _ _ _ _) ?_)
    refine bindV_mk p_t ?_
    refine g_tt ?_
    refine call_mk (awakeR _) ?_
    refine Meet.of (cast_p (G12_11101008_eq _ _ _ _) ?_)
    refine bindV_mk p_t ?_
    refine Meet.of (cast_p (J12_1111_eq _ _ _) ?_)
    rfl
  | some r =>
    rw [e] at d d2
    have hi := (parse_sound s r e).1.im
    refine call_mk (d _) ?_
    refine bindS_mk (show aExtract _ _ = some _ from rfl) ?_
    refine bindS_mk (show aExtract _ _ = some _ from rfl) ?_
    refine bindV_mk (al_mk zero51 (shRz 0)) ?_
    refine bindV_mk (st_mk (by rw [make_m, if_pos rfl]) (by kernel_rfl) (by with_unfolding_all exact rfl) (shR _ (by first | assumption | exact List.length_replicate ..)) (by with_unfolding_all exact rfl)) ?_
    refine call_mk (d2 _) ?_
    refine bindS_mk (show aExtract _ _ = some _ from rfl) ?_
    refine bindS_mk (show aExtract _ _ = some _ from rfl) ?_
    refine bindV_mk (al_mk zero51 (shRz 0)) ?_
    refine bindV_mk (st_mk (by rw [make_m, if_pos rfl]) (by kernel_rfl) (by with_unfolding_all exact rfl) (shR _ (by first | assumption | exact List.length_replicate ..)) (by with_unfolding_all exact rfl)) ?_
    refine bindV_mk (ld_mk (by with_unfolding_all exact rfl) (by kernel_rfl) (by with_unfolding_all exact rfl)) ?_
    refine bindV_mk (ld_mk (by with_unfolding_all exact rfl) (by kernel_rfl) (by with_unfolding_all exact rfl)) ?_
    refine bindS_mk (eq51 r r hi hi _) ?_
    rw [decide_eq_true rfl]
    refine g_tt ?_
    refine bindS_mk (b_eql_t (by omega)) ?_
    refine bindS_mk (eqB) ?_
    rw [beq_self_eq_true]
    refine Meet.of (cast_p (G12_11101002_eq _ _ _ _ _ _) ?_)
    refine bindV_mk p_t ?_
    refine g_tt ?_
    refine Meet.of (cast_p (G12_11101004_eq _ _ _ _ _) ?_)
    refine g_tf ?_
    refine Meet.of (cast_p (G12_11101005_eq _ _ _ _ _) ?_)
    refine g_tt ?_
    refine bindV_mk p_t ?_
    refine Meet.of (cast_p (G12_11101006_eq _ _ _ _) ?_)
    refine bindV_mk p_t ?_
    refine g_tt ?_
    refine call_mk (awakeR _) ?_
    refine Meet.of (cast_p (G12_11101008_eq _ _ _ _) ?_)
    refine bindV_mk p_t ?_
    refine Meet.of (cast_p (J12_1111_eq _ _ _) ?_)
    rfl
end Go.Proofs.Ytdhlolcpcgpcnaa.Sh
