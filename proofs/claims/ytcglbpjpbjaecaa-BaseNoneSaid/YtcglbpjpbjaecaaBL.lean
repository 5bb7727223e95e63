import Derived.Test.YtcglbpjpbjaecaaBQ
import Derived.Test.YtcglbpjpbjaecaaAbF
import Derived.Test.YtcglbpjpbjaecaaAbG
import Derived.Test.YtcglbpjpbjaecaaBW
set_option linter.unusedVariables false
set_option linter.unusedSimpArgs false
namespace Go.Proofs.Ytcglbpjpbjaecaa.Sh
open Go Go.Ab Go.RowKit
open Go.Proofs.Ytcglbpjpbjaecaa.Ru (Pg okP crcStep crc8 crcGo)
set_option maxRecDepth 10000
set_option linter.unusedVariables false
theorem bv32 (v : Nat) (h : v < 4294967296) : (BitVec.ofInt 32 (v : Int)).toNat = v := by
  rw [BitVec.toNat_ofInt]
  have : ((v : Int) % ((2 ^ 32 : Nat) : Int)).toNat = v % 2 ^ 32 := by omega
  rw [this]; exact Nat.mod_eq_of_lt (by simpa using h)
theorem xor32 (a b : Nat) (ha : a < 4294967296) (hb : b < 4294967296) : bitI .xor .u32 (a : Int) (b : Int) = ((Nat.xor a b : Nat) : Int) ∧ Nat.xor a b < 4294967296 := by
  have h3 : (a ^^^ b) < 2 ^ 32 := Nat.xor_lt_two_pow (by simpa using ha) (by simpa using hb)
  have h4 : (a ^^^ b) < 4294967296 := by simpa using h3
  refine ⟨?_, h4⟩
  simp only [bitI]
  have : ((BitVec.ofInt IntKind.u32.bits (a : Int) ^^^ BitVec.ofInt IntKind.u32.bits (b : Int)).toNat) = a ^^^ b := by
    show (BitVec.ofInt 32 (a : Int) ^^^ BitVec.ofInt 32 (b : Int)).toNat = a ^^^ b
    rw [BitVec.toNat_xor, bv32 a ha, bv32 b hb]
  rw [this, wrap_u32]
  show _ = ((a ^^^ b : Nat) : Int)
  exact Int.emod_eq_of_lt (by omega) (by omega)
theorem and1 (a : Nat) (ha : a < 4294967296) : bitI .and .u32 (a : Int) 1 = ((a % 2 : Nat) : Int) := by
  simp only [bitI]
  have : ((BitVec.ofInt IntKind.u32.bits (a : Int) &&& BitVec.ofInt IntKind.u32.bits 1).toNat) = a % 2 := by
    show (BitVec.ofInt 32 (a : Int) &&& BitVec.ofInt 32 ((1 : Nat) : Int)).toNat = a % 2
    rw [BitVec.toNat_and, bv32 a ha, bv32 1 (by decide), Nat.and_one_is_mod]
  rw [this, wrap_u32]
  exact Int.emod_eq_of_lt (by omega) (by omega)
theorem step_eq (x : Nat) : crcStep x = Nat.xor (x / 2) (3988292384 * (x % 2)) := by
  unfold crcStep
  have h1 : Nat.shiftRight x 1 = x / 2 := rfl
  have h2 : Nat.land x 1 = x % 2 := Nat.and_one_is_mod x
  rw [h1, h2]
  rfl
theorem step_lt (x : Nat) (hx : x < 4294967296) : crcStep x < 4294967296 := by
  rw [step_eq]
  have h : 3988292384 * (x % 2) < 4294967296 := by omega
  exact (xor32 (x / 2) _ (by omega) h).2
theorem stepP (x : Nat) (hx : x < 4294967296) (h : AH) : ACalls Pg 95 [.int .u32 (x : Int)] h (pureE (.int .u32 ((crcStep x : Nat) : Int)) h) := by
  refine C95 _ _ _ ?_
  refine bindS_mk (b_shr (by decide)) ?_
  have e1 : shrI .u32 (x : Int) 1 = ((x / 2 : Nat) : Int) := by
    show (x : Int) / 2 ^ 1 = _
    omega
  rw [e1]
  refine bindS_mk b_and ?_
  rw [and1 x hx]
  refine bindS_mk (show aUn .neg (.int .u32 ((x % 2 : Nat) : Int)) = some (.int .u32 (IntKind.u32.wrap (0 - ((x % 2 : Nat) : Int)))) from rfl) ?_
  refine bindS_mk b_and ?_
  have e2 : bitI .and .u32 3988292384 (IntKind.u32.wrap (0 - ((x % 2 : Nat) : Int))) = ((3988292384 * (x % 2) : Nat) : Int) := by
    rcases Nat.mod_two_eq_zero_or_one x with h | h
    · rw [h]; decide +kernel
    · rw [h]; decide +kernel
  rw [e2]
  refine bindS_mk b_xor ?_
  rw [(xor32 (x / 2) (3988292384 * (x % 2)) (by omega) (by omega)).1, step_eq]
  exact ⟨rfl, rfl⟩
theorem crc8_lt : ∀ (n x : Nat), x < 4294967296 → crc8 n x < 4294967296
  | 0, x, h => h
  | n + 1, x, h => crc8_lt n _ (step_lt x h)
theorem inner (q : AEnd → Prop) (s : V) (i : V) (n1 : Nat) (h : AH) (next : Nat → Nat → Prop)
    (c : ∀ x, x < 4294967296 → next x 0 → J93_11010011 (fun e _ => q e) n1 s (.int .u32 (x : Int)) i h)
    (hn : ∀ x m, next x (m + 1) → next (crcStep x) m) : ∀ (m n x : Nat), m ≤ 8 → m < n → x < 4294967296 → next x m → L93_110100100110 (fun e _ => q e) n1 n s (.int .u32 (x : Int)) i (.int .i64 ((8 - m : Nat) : Int)) h
  | m, 0, x, _, hmn, _, _ => absurd hmn (by omega)
  | 0, n + 1, x, _, _, hx, hk => by
    rw [L93_110100100110_eq]
    refine bindS_mk (b_lss_f (by omega)) ?_
    refine i_f ?_
    exact Meet.of (c x hx hk)
  | m + 1, n + 1, x, hm, hmn, hx, hk => by
    rw [L93_110100100110_eq]
    refine bindS_mk (b_lss_t (by omega)) ?_
    refine i_t ?_
    refine Meet.of (cast_p (J93_110100100110011_eq _ _ _ _ _ _ _ _) ?_)
    refine call_mk (stepP x hx h) ?_
    refine Meet.of (cast_p (J93_1101001001100111_eq _ _ _ _ _ _ _ _) ?_)
    refine bindS_mk (c_inc (by omega)) ?_
    have e : 8 - (m + 1) + 1 = 8 - m := by omega
    rw [e]
    exact Meet.of (inner q s i n1 h next c hn m n (crcStep x) (by omega) (by omega) (step_lt x hx) (hn x m hk))
end Go.Proofs.Ytcglbpjpbjaecaa.Sh
namespace Go.Proofs.Ytcglbpjpbjaecaa.Sh
open Go Go.Ab Go.RowKit
open Go.Proofs.Ytcglbpjpbjaecaa.Ru (Pg okP crcStep crc8 crcGo crcMore)
set_option maxRecDepth 10000
set_option linter.unusedVariables false
theorem str9 : strT Pg 9 = true := by kernel_rfl
theorem crcGo_cons (b : UInt8) (t : List UInt8) (r : Nat) : crcGo (b :: t) r = crcGo t (crc8 8 (Nat.xor r b.toNat)) := by
  simp only [crcGo]
  rw [fNat_eq]
theorem outer (q : AEnd → Prop) (h : AH) (s : List UInt8) (hs : s.length < 1000000) : ∀ (t : List UInt8) (i n r : Nat), s.drop i = t → i + t.length = s.length → t.length < n → r < 4294967296 →
    q (.ret (.int .u32 ((Nat.xor (crcGo t r) 4294967295 : Nat) : Int))) → L93_11010 (fun e _ => q e) n (.str s) (.int .u32 (r : Int)) (.int .i64 (i : Int)) h
  | t, i, 0, r, _, _, hn, _, _ => absurd hn (by omega)
  | [], i, n + 1, r, hd, hl, _, hr, c => by
    rw [L93_11010_eq]
    simp only [List.length_nil] at hl
    refine bindV_mk (len_str (by kernel_rfl)) ?_
    refine bindS_mk (b_lss_f (by omega)) ?_
    refine i_f ?_
    refine Meet.of (cast_p (J93_111_eq _ _ _) ?_)
    refine bindS_mk (show aUn .xor (.int .u32 (r : Int)) = some (.int .u32 (bitI .xor .u32 ((4294967295 : Nat) : Int) (r : Int))) from rfl) ?_
    rw [(xor32 4294967295 r (by decide) hr).1]
    have e : Nat.xor 4294967295 r = Nat.xor (crcGo [] r) 4294967295 := by
      simp only [crcGo]
      exact Nat.xor_comm _ _
    rw [e]
    exact c
  | b :: t, i, n + 1, r, hd, hl, hn, hr, c => by
    rw [L93_11010_eq]
    simp only [List.length_cons] at hl hn
    have hi : i < s.length := by omega
    have hb : s.getD i 0 = b := by
      have := congrArg (fun l => l[0]?) hd
      simp only [List.getElem?_drop, Nat.add_zero, List.getElem?_cons_zero] at this
      rw [List.getD_eq_getElem?_getD, this]; rfl
    have hbt := b.toNat_lt
    refine bindV_mk (len_str (by kernel_rfl)) ?_
    refine bindS_mk (b_lss_t (by omega)) ?_
    refine i_t ?_
    refine Meet.of (cast_p (J93_1101001_eq _ _ _ _ _ _) ?_)
    refine bindS_mk (ix_str str9 hi) ?_
    rw [hb]
    refine bindS_mk (cv_int (d := 27) .u32 (by kernel_rfl)) ?_
    have e1 : IntKind.u32.wrap (b.toNat : Int) = (b.toNat : Int) := by rw [wrap_u32]; omega
    rw [e1]
    refine bindS_mk b_xor ?_
    have hx := xor32 r b.toNat hr (by omega)
    rw [hx.1]
    refine ⟨9, Meet.of ?_⟩
    have hlt := crc8_lt 8 _ hx.2
    refine inner q (.str s) (.int .i64 (i : Int)) n h (fun x m => crc8 m x = crc8 8 (Nat.xor r b.toNat)) (fun x hx' hk => ?_) (fun x m hk => hk) 8 9 (Nat.xor r b.toNat) (by omega) (by omega) hx.2 rfl
    have hk : x = crc8 8 (Nat.xor r b.toNat) := hk
    rw [J93_11010011_eq]
    refine bindS_mk (c_inc (by omega)) ?_
    refine Meet.of ?_
    rw [hk]
    refine outer q h s hs t (i + 1) n _ ?_ (by omega) (by omega) hlt ?_
    · rw [← List.drop_drop, hd]; rfl
    · rw [crcGo_cons] at c; exact c
theorem moreP (r : Nat) (hr : r < 4294967296) (s : List UInt8) (hs : s.length < 1000000) (h : AH) : ACalls Pg 93 [.int .u32 (r : Int), .str s] h (pureE (.int .u32 ((crcMore r s : Nat) : Int)) h) := by
  refine pure_lift rfl rfl (C93 _ _ _ _ ?_) h
  refine bindS_mk (show aUn .xor (.int .u32 (r : Int)) = some (.int .u32 (bitI .xor .u32 ((4294967295 : Nat) : Int) (r : Int))) from rfl) ?_
  have hx := xor32 4294967295 r (by decide) hr
  rw [hx.1]
  refine ⟨s.length + 1, Meet.of ?_⟩
  refine outer (fun e => e = .ret (.int .u32 ((crcMore r s : Nat) : Int))) AH0 s hs s 0 (s.length + 1) _ rfl (by omega) (by omega) hx.2 ?_
  have e : Nat.xor 4294967295 r = Nat.xor r 4294967295 := Nat.xor_comm _ _
  rw [e]
  rfl
end Go.Proofs.Ytcglbpjpbjaecaa.Sh
namespace Go.Proofs.Ytcglbpjpbjaecaa.Sh
open Go Go.Ab Go.RowKit
open Go.Proofs.Ytcglbpjpbjaecaa.Ru
set_option maxRecDepth 10000
set_option linter.unusedVariables false
theorem hdOk : HdOk Pg hd := by
  intro f args v hv
  unfold hd at hv
  split at hv
  · rename_i hf
    obtain rfl := Nat.eq_of_beq_eq_true hf
    split at hv
    · rename_i n s
      obtain ⟨hc, hv⟩ := bif_some hv
      rw [Bool.and_eq_true, Nat.blt_eq, Nat.blt_eq] at hc
      cases hv
      exact ⟨by kernel_rfl, fun h => moreP n hc.1 s hc.2 h⟩
    · cases hv
  · cases hv
theorem nil34 : aBin Pg .eql 34 (.ptr none) (.ptr none) true = some (.bool true) := by kernel_rfl
theorem c5 (x : V) (h : AH) : ACalls Pg 5 [.ptr none, x] h (pureE (.int .i64 1) h) := C5 _ _ _ _ (bindS_mk nil34 (i_t ⟨rfl, rfl⟩))
theorem c6 (h : AH) : ACalls Pg 6 [.ptr none] h (pureE (.int .i64 1) h) := C6 _ _ _ (bindS_mk nil34 (i_t ⟨rfl, rfl⟩))
theorem c7 (h : AH) : ACalls Pg 7 [.ptr none] h (pureE (.ptr none) h) := C7 _ _ _ (bindS_mk nil34 (i_t ⟨rfl, rfl⟩))
theorem c8 (h : AH) : ACalls Pg 8 [.ptr none] h (pureE (.ptr none) h) := C8 _ _ _ (bindS_mk nil34 (i_t ⟨rfl, rfl⟩))
theorem c9 (h : AH) : ACalls Pg 9 [.ptr none] h (pureE (.ptr none) h) := C9 _ _ _ (bindS_mk nil34 (i_t ⟨rfl, rfl⟩))
theorem c10 (h : AH) : ACalls Pg 10 [.ptr none] h (pureE (.ptr none) h) := C10 _ _ _ (bindS_mk nil34 (i_t ⟨rfl, rfl⟩))
def cfg0 : V := .agg [.int .i64 0, .int .i64 0, .int .i64 0, .int .u32 0]
theorem b48 : aBuild Pg 48 [] = some cfg0 := by kernel_rfl
theorem e48 : aBin Pg .eql 48 cfg0 cfg0 false = some (.bool true) := by kernel_rfl
theorem z48 : zeroV Pg 48 = some cfg0 := by kernel_rfl
theorem s48 : hasShape Pg cfg0 48 = true := by kernel_rfl
theorem c11 (h : AH) : ACalls Pg 11 [.ptr none] h (pureE cfg0 h) := by
  refine acalls_forget (by rfl) (C11 _ _ _ ?_)
  refine bindV_mk (al_mk z48 s48) ?_
  refine bindS_mk nil34 ?_
  refine i_t ?_
  refine bindS_mk b48 ?_
  have hm : (h.make (.cells true (.one 48) cfg0)).m h.next = some (.cells true (.one 48) cfg0) := by rw [make_m, if_pos rfl]
  refine bindV_mk (st_mk hm (by kernel_rfl) rfl s48 rfl) ?_
  have hres : aRes Pg [(2, .ptr (some ⟨h.next, .one 48, []⟩))] ((h.make (.cells true (.one 48) cfg0)).put h.next (.cells true (.one 48) cfg0)) R11 = some [cfg0] := by
    have hm2 : ((h.make (.cells true (.one 48) cfg0)).put h.next (.cells true (.one 48) cfg0)).m h.next = some (.cells true (.one 48) cfg0) := by rw [put_m, if_pos rfl]
    have e1 := ld_mk (P := Pg) (t := 48) (p := []) hm2 (by kernel_rfl) (w := cfg0) rfl
    simp only [aLoadV] at e1
    have e2 := (still_some e1).1
    simp only [R11, aRes, Env.get, if_true, e2]
  refine bindR_mk hres ⟨rfl, fun n hn => ?_⟩
  rw [put_m, if_neg (by omega), make_m, if_neg (by omega)]
theorem c4 (r : V) (hr : hasShape Pg r 33 = true) (h : AH) : ACalls Pg 4 [.ptr none, r] h (pureE (.int .i64 1) h) := by
  refine acalls_forget (by rfl) (C4 _ _ _ _ ?_)
  refine bindV_mk (new_mk hr) ?_
  refine bindS_mk nil34 ?_
  refine g_tf ?_
  refine Meet.of (cast_p (G4_1001002_eq _ _ _ _ _ _ _ _) ?_)
  refine bindV_mk p_t ?_
  refine g_tf ?_
  refine Meet.of (cast_p (G4_1001004_eq _ _ _ _ _ _ _ _) ?_)
  refine bindV_mk p_t ?_
  refine g_tf ?_
  refine Meet.of (cast_p (G4_1001006_eq _ _ _ _ _ _ _ _) ?_)
  refine bindV_mk p_t ?_
  refine Meet.of (cast_p (J4_101_eq _ _ _ _ _ _ _) ?_)
  refine i_t ?_
  refine bindR_mk (l := [.int .i64 1]) rfl ⟨rfl, fun n hn => ?_⟩
  rw [make_m, if_neg (by omega)]
end Go.Proofs.Ytcglbpjpbjaecaa.Sh
namespace Go.Proofs.Ytcglbpjpbjaecaa.Sh
open Go Go.Ab Go.RowKit
open Go.Proofs.Ytcglbpjpbjaecaa.Ru
set_option maxRecDepth 10000
set_option linter.unusedVariables false
def cfgV : V := .agg [.int .i64 3, .int .i64 4, .int .i64 80, .int .u32 1000]
theorem bcfg : aBuild Pg 48 [(0, (V.int .i64 3)), (1, (V.int .i64 4)), (2, (V.int .i64 80)), (3, (V.int .u32 1000))] = some cfgV := by kernel_rfl
theorem scfg : hasShape Pg cfgV 48 = true := by kernel_rfl
theorem c13 (h : AH) : ACalls Pg 13 [] h (pureE cfgV h) := by
  refine acalls_forget (by rfl) (C13 _ _ ?_)
  refine bindV_mk (al_mk z48 s48) ?_
  refine bindS_mk bcfg ?_
  have hm : (h.make (.cells true (.one 48) cfg0)).m h.next = some (.cells true (.one 48) cfg0) := by rw [make_m, if_pos rfl]
  refine bindV_mk (st_mk hm (by kernel_rfl) rfl scfg rfl) ?_
  have hres : aRes Pg [(0, .ptr (some ⟨h.next, .one 48, []⟩))] ((h.make (.cells true (.one 48) cfg0)).put h.next (.cells true (.one 48) cfgV)) R13 = some [cfgV] := by
    have hm2 : ((h.make (.cells true (.one 48) cfg0)).put h.next (.cells true (.one 48) cfgV)).m h.next = some (.cells true (.one 48) cfgV) := by rw [put_m, if_pos rfl]
    have e1 := ld_mk (P := Pg) (t := 48) (p := []) hm2 (by kernel_rfl) (w := cfgV) rfl
    simp only [aLoadV] at e1
    have e2 := (still_some e1).1
    simp only [R13, aRes, Env.get, if_true, e2]
  refine bindR_mk hres ⟨rfl, fun n hn => ?_⟩
  rw [put_m, if_neg (by omega), make_m, if_neg (by omega)]
/-- The memory in which a record lies. -/
def HR (r : V) : HT := ⟨1, 1, .node (some (.cells true (.one 33) r)) .nil .nil .nil .nil .nil .nil .nil .nil⟩
theorem HR_ah (r : V) : (HR r).ah = AH0.make (.cells true (.one 33) r) := by
  unfold HT.ah AH.make AH0 HR
  simp only [AH.mk.injEq, Nat.zero_add, true_and]
  funext n
  by_cases hn : n = 0
  · subst hn; rw [if_pos rfl]; rfl
  · rw [if_neg hn]
    have hp : ∀ p : List D8, p ≠ [] → T8.get p (.node (some (AO.cells true (.one 33) r)) .nil .nil .nil .nil .nil .nil .nil .nil) = none := by
      intro p hp
      cases p with
      | nil => exact absurd rfl hp
      | cons x p => rw [T8.get_s]; cases x <;> exact T8.get_nil _
    refine hp _ fun e => hn ?_
    have : path n = path 0 := e
    exact path_inj this
theorem HR_own (r : V) : (HR r).Own := by
  intro n o h
  have : (HR r).ah.m n = some o := h
  rw [HR_ah, make_m] at this
  by_cases hn : n = AH0.next
  · rw [if_pos hn] at this; cases this; rfl
  · rw [if_neg hn] at this; cases this
def isNil : V → Bool
  | .ptr none => true
  | _ => false
theorem newRun (r fr : V) : ((exTab Pg FT hd pu 20).ex Unit 12 [(V.ptr none), cfgV, fr, (V.int .u32 1), (V.slc none 0), (V.int .u32 0), (V.int .u64 1)] (HR r) (retK isNil)).isSome = true := by kernel_rfl
theorem c12 (r fr : V) : ∃ h', ACalls Pg 12 [(V.ptr none), cfgV, fr, (V.int .u32 1), (V.slc none 0), (V.int .u32 0), (V.int .u64 1)] (AH0.make (.cells true (.one 33) r)) fun e h => e = .ret (.ptr none) ∧ h = h' := by
  obtain ⟨u, hr⟩ := Option.isSome_iff_exists.1 (newRun r fr)
  obtain ⟨ae, H', _, h1, _, c⟩ := (exTab_ok okP tabOk hdOk 20).1 _ _ _ _ _ _ (HR_own r) hr
  rw [HR_ah] at c
  cases ae with
  | panic _ => cases h1
  | ret v =>
    obtain ⟨h1, _⟩ := bif_some h1
    have : v = .ptr none := by
      cases v with
      | ptr p => cases p with
        | none => rfl
        | some p => cases h1
      | _ => cases h1
    subst this
    exact ⟨_, c⟩
theorem awakeP (h : AH) : ACalls Pg 14 [] h (pureE (.bool true) h) := by
  obtain ⟨v, h1, c⟩ := run_ok okP tabOk hdOk awakeRun
  have : v = .bool true := by
    cases v with
    | bool b => cases b with
      | true => rfl
      | false => cases h1
    | _ => cases h1
  subst this
  exact pure_lift rfl rfl c h
theorem nil39 : aBin Pg .eql 39 (.ptr none) (.ptr none) true = some (.bool true) := by kernel_rfl
theorem nil41 : aBin Pg .eql 41 (.ptr none) (.ptr none) true = some (.bool true) := by kernel_rfl
theorem nil43 : aBin Pg .eql 43 (.ptr none) (.ptr none) true = some (.bool true) := by kernel_rfl
theorem nil45 : aBin Pg .eql 45 (.ptr none) (.ptr none) true = some (.bool true) := by kernel_rfl
theorem call12 {args : List V} {h h' : AH} {v : V} {K X : V → AH → Prop} {f : FuncId} (c : ACalls Pg f args h fun e h2 => e = .ret v ∧ h2 = h') (k : K v h') : ACalls Pg f args h (aEnd K X) :=
  c.mono fun e h2 q => by obtain ⟨rfl, rfl⟩ := q; exact k
theorem noneLaw (r fr : V) (hr : hasShape Pg r 33 = true) (w : V) (hw : getV r [3] = some w) : ACalls Pg 3 [r, fr] AH0 fun e _ => e = .ret (.bool true) := by
  refine C3 _ r fr AH0 ?_
  refine bindV_mk (new_mk hr) ?_
  have hm : (AH0.make (.cells true (.one 33) r)).m AH0.next = some (.cells true (.one 33) r) := by rw [make_m, if_pos rfl]
  refine bindV_mk (ld_mk hm (by kernel_rfl) rfl) ?_
  refine call_mk (c4 r hr _) ?_
  refine bindS_mk (b_eql_t (by omega)) ?_
  refine g_tt ?_
  refine bindS_mk (fa_mk (by kernel_rfl)) ?_
  refine bindV_mk (ld_mk hm (by kernel_rfl) hw) ?_
  refine call_mk (c5 _ _) ?_
  refine bindS_mk (b_eql_t (by omega)) ?_
  refine Meet.of (cast_p (G3_1101002_eq _ _ _ _ _ _) ?_)
  refine bindV_mk p_t ?_
  refine g_tt ?_
  refine call_mk (c6 _) ?_
  refine bindS_mk (b_eql_t (by omega)) ?_
  refine Meet.of (cast_p (G3_1101004_eq _ _ _ _ _ _) ?_)
  refine bindV_mk p_t ?_
  refine g_tt ?_
  refine call_mk (c7 _) ?_
  refine bindS_mk nil39 ?_
  refine Meet.of (cast_p (G3_1101006_eq _ _ _ _ _ _) ?_)
  refine bindV_mk p_t ?_
  refine g_tt ?_
  refine call_mk (c8 _) ?_
  refine bindS_mk nil41 ?_
  refine Meet.of (cast_p (G3_1101008_eq _ _ _ _ _ _) ?_)
  refine bindV_mk p_t ?_
  refine g_tt ?_
  refine call_mk (c9 _) ?_
  refine bindS_mk nil43 ?_
  refine Meet.of (cast_p (G3_1101010_eq _ _ _ _ _ _) ?_)
  refine bindV_mk p_t ?_
  refine g_tt ?_
  refine call_mk (c10 _) ?_
  refine bindS_mk nil45 ?_
  refine Meet.of (cast_p (G3_1101012_eq _ _ _ _ _ _) ?_)
  refine bindV_mk p_t ?_
  refine g_tt ?_
  refine call_mk (c11 _) ?_
  refine bindS_mk b48 ?_
  refine bindS_mk e48 ?_
  refine Meet.of (cast_p (G3_1101014_eq _ _ _ _ _) ?_)
  refine bindV_mk p_t ?_
  refine g_tt ?_
  refine call_mk (c13 _) ?_
  obtain ⟨h', c⟩ := c12 r fr
  refine call12 c ?_
  refine bindS_mk nil34 ?_
  refine Meet.of (cast_p (G3_1101016_eq _ _ _ _) ?_)
  refine bindV_mk p_t ?_
  refine g_tt ?_
  refine call_mk (awakeP _) ?_
  refine Meet.of (cast_p (G3_1101018_eq _ _ _ _) ?_)
  refine bindV_mk p_t ?_
  refine Meet.of (cast_p (J3_111_eq _ _ _) ?_)
  rfl

end Go.Proofs.Ytcglbpjpbjaecaa.Sh
namespace Go.Proofs.Ytcglbpjpbjaecaa.Sh
open Go Go.Ab Go.RowKit
noncomputable abbrev Pg : Program := Try.prog
theorem okP : Ok Pg := Ru.okP
theorem flat33 : flatTy Pg 10 33 = true := by kernel_rfl
theorem agg33 {v : V} (h : hasShape Pg v 33 = true) : ∃ l, v = .agg l := by
  obtain ⟨l, rfl, _⟩ := inv_struct (ts := [5, 24, 26, 27, 29, 9, 5, 31]) (by kernel_rfl) h
  exact ⟨l, rfl⟩
theorem get33 {v : V} (h : hasShape Pg v 33 = true) : ∃ w, getV v [3] = some w := by
  obtain ⟨l, rfl, q1⟩ := inv_struct (ts := [5, 24, 26, 27, 29, 9, 5, 31]) (by kernel_rfl) h
  obtain ⟨x0, l, rfl, h0, q2⟩ := inv_cons q1
  obtain ⟨x1, l, rfl, h1, q3⟩ := inv_cons q2
  obtain ⟨x2, l, rfl, h2, q4⟩ := inv_cons q3
  obtain ⟨x3, l, rfl, h3, q5⟩ := inv_cons q4
  exact ⟨x3, rfl⟩
theorem noneLaw2 (r fr : V) (hr : hasShape Pg r 33 = true) : ACalls Pg 3 [r, fr] AH0 fun e _ => e = .ret (.bool true) := by
  obtain ⟨w, hw⟩ := get33 hr
  exact noneLaw r fr hr w hw
end Go.Proofs.Ytcglbpjpbjaecaa.Sh
