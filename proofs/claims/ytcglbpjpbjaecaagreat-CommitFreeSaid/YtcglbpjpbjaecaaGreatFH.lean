import Derived.Test.YtcglbpjpbjaecaaGreatFQ
import Derived.Test.YtcglbpjpbjaecaaGreatAbF
import Derived.Test.YtcglbpjpbjaecaaGreatFS
import Derived.Test.YtcglbpjpbjaecaaGreatXD
set_option linter.unusedVariables false
set_option linter.unusedSimpArgs false
namespace Go.Proofs.YtcglbpjpbjaecaaGreat.Sh
open Go Go.Ab Go.RowKit
open Go.Proofs.YtcglbpjpbjaecaaGreat.Ru (Pg okP)
set_option maxRecDepth 10000
set_option linter.unusedVariables false
def z123 : V := vOld false 0 0 0 0 []
theorem z123_eq : zeroV Pg 123 = some z123 := by kernel_rfl
theorem s123 : hasShape Pg z123 123 = true := by kernel_rfl
theorem b123 : aBuild Pg 123 [] = some z123 := by kernel_rfl
theorem len126 (a : Option (PA × Nat)) (n : Nat) (h : AH) : aBuiltin Pg h .len [126] [.slc a n] = some (.int .i64 n, h) := by
  have hu : ul Pg 126 = some (.slice 123) := by kernel_rfl
  simp only [aBuiltin, hu, aLen, still_mk]
/-- A slot that is none. -/
theorem getP (x0 : Int) (a : Option (PA × Nat)) (len n : Nat) (hs : hasShape Pg (.agg [.int .u64 x0, .slc a len]) 128 = true) (hl : len ≤ n) (hn : n < 256) (h : AH) :
    ACalls Pg 247 [.agg [.int .u64 x0, .slc a len], .int .u8 (.ofNat n)] h (pureE (.tup [z123, .bool false]) h) := by
  refine acalls_forget (by rfl) (C247 _ _ _ _ ?_)
  refine bindV_mk (new_mk hs) ?_
  refine bindV_mk (al_mk z123_eq s123) ?_
  refine bindS_mk (cv_int (d := 3) .i64 (by kernel_rfl)) ?_
  rw [wrap_small (n := Int.ofNat n) (by simp) (by simp; omega)]
  refine bindS_mk (fa_mk (by kernel_rfl)) ?_
  generalize ho1 : AO.cells true (.one 128) (.agg [.int .u64 x0, .slc a len]) = o1
  generalize ho2 : AO.cells true (.one 123) z123 = o2
  have hm1 : ((h.make o1).make o2).m h.next = some o1 := by rw [make_m, if_neg (by rw [make_next]; omega), make_m, if_pos rfl]
  have hm2 : ((h.make o1).make o2).m (h.make o1).next = some o2 := by rw [make_m, if_pos rfl]
  subst ho1
  refine bindV_mk (ld_mk hm1 (by kernel_rfl) (w := .slc a len) rfl) ?_
  refine bindV_mk (len126 _ _ _) ?_
  refine bindS_mk (b_geq_t (by simp; omega)) ?_
  refine g_tf ?_
  refine Meet.of (cast_p (G247_1001002_eq _ _ _ _ _ _ _) ?_)
  refine bindV_mk p_t ?_
  refine Meet.of (cast_p (J247_101_eq _ _ _ _ _ _) ?_)
  refine i_t ?_
  refine bindS_mk b123 ?_
  subst ho2
  refine bindV_mk (st_mk hm2 (by kernel_rfl) rfl s123 rfl) ?_
  generalize hH : ((h.make (AO.cells true (.one 128) (.agg [.int .u64 x0, .slc a len]))).make (AO.cells true (.one 123) z123)) = H2
  have hres : aRes Pg [(4, .ptr (some ⟨(h.make (AO.cells true (.one 128) (.agg [.int .u64 x0, .slc a len]))).next, .one 123, []⟩)), (5, .bool false)] (H2.put (h.make (AO.cells true (.one 128) (.agg [.int .u64 x0, .slc a len]))).next (.cells true (.one 123) z123)) R247 = some [z123, .bool false] := by
    have hm3 : (H2.put (h.make (AO.cells true (.one 128) (.agg [.int .u64 x0, .slc a len]))).next (.cells true (.one 123) z123)).m (h.make (AO.cells true (.one 128) (.agg [.int .u64 x0, .slc a len]))).next = some (.cells true (.one 123) z123) := by rw [put_m, if_pos rfl]
    have e1 := ld_mk (P := Pg) (t := 123) (p := []) hm3 (by kernel_rfl) (w := z123) rfl
    simp only [aLoadV] at e1
    have e2 := (still_some e1).1
    simp only [R247, aRes, Env.get, if_true, e2]
    rfl
  refine bindR_mk hres ⟨rfl, fun n hn => ?_⟩
  rw [put_m, if_neg (by rw [make_next]; omega), ← hH, make_m, if_neg (by rw [make_next]; omega), make_m, if_neg (by omega)]
/-- A page that is none. -/
theorem isP (c : Nat) (v : V) (u m : Nat) (h : AH) (hc : h.m c = some (.cells true (.one 293) v)) (hn : c < h.next) (hv : getV v [4] = some (.int .i64 (.ofNat u))) (hu : u ≤ m) (hm : m < 65536) :
    ACalls Pg 204 [.ptr (some ⟨c, .one 293, []⟩), .agg [.bool true, .int .u16 (.ofNat m)]] h (pureE (.bool false) h) := by
  refine acalls_forget (by rfl) (C204 _ _ _ _ ?_)
  have hs : hasShape Pg (.agg [.bool true, .int .u16 (.ofNat m)]) 108 = true := by kernel_rfl
  refine bindV_mk (new_mk hs) ?_
  refine bindS_mk (show aBin Pg .eql 119 (.ptr (some ⟨c, .one 293, []⟩)) (.ptr none) true = some (.bool false) by kernel_rfl) ?_
  refine i_f ?_
  refine Meet.of (cast_p (J204_11_eq _ _ _ _) ?_)
  generalize ho : AO.cells true (.one 108) (.agg [.bool true, .int .u16 (.ofNat m)]) = o
  have hm1 : (h.make o).m h.next = some o := by rw [make_m, if_pos rfl]
  have hm2 : (h.make o).m c = some (.cells true (.one 293) v) := by rw [make_m, if_neg (by omega), hc]
  subst ho
  refine bindS_mk (fa_mk (by kernel_rfl)) ?_
  refine bindV_mk (ld_mk hm1 (by kernel_rfl) (w := .bool true) rfl) ?_
  refine i_t ?_
  refine bindSO_mk (fa_mk (by kernel_rfl)) ?_
  refine bindVO_mk (ld_mk hm1 (by kernel_rfl) (w := .int .u16 (.ofNat m)) rfl) ?_
  refine bindSO_mk (cv_int (d := 3) .i64 (by kernel_rfl)) ?_
  rw [wrap_small (n := Int.ofNat m) (by simp) (by simp; omega)]
  refine bindVO_mk (show aNil _ _ = some (_, _) from rfl) ?_
  refine bindSO_mk (fa_mk (by kernel_rfl)) ?_
  refine bindVO_mk (ld_mk hm2 (by kernel_rfl) hv) ?_
  refine bindSO_mk (b_lss_f (by simp; omega)) ?_
  refine ⟨rfl, fun n hn => ?_⟩
  rw [make_m, if_neg (by omega)]
end Go.Proofs.YtcglbpjpbjaecaaGreat.Sh
namespace Go.Proofs.YtcglbpjpbjaecaaGreat.Sh
open Go Go.Ab Go.RowKit
open Go.Proofs.YtcglbpjpbjaecaaGreat.Ru (Pg okP hd)
set_option maxRecDepth 10000
set_option linter.unusedVariables false
/-- What is left to be shown of a slot that is none. -/
def gd (a b : Nat) : Bool := decide (a ≤ b ∧ b < 256)
/-- What is left to be shown of a page that is none. -/
def gd2 (a b : Nat) : Bool := decide (a ≤ b ∧ b < 65536)
def freeR (n s : Nat) : Rc := { Rc.z 4 with undo := true, no := .ofNat n, sl := .ofNat s }
theorem freeR_may (n s : Nat) : (freeR n s).may = true := by
  simp [Rc.may, freeR, Rc.bare, Rc.z]
def parts4 : List V := [.int .u8 4, .bool true, vIm im0, .int .u32 0, vRef 0 0, .str [], vOld false 0 0 0 0 []]
noncomputable def hdMay : HdF := fun f a => match Nat.beq f 141 with
  | true => (match a with
    | [.agg [x0, .agg [x1, .int .u16 (.ofNat n)], x2, x3, x4, x5, .int .u8 (.ofNat s), x6]] => bif sameVs [x0, x1, x2, x3, x4, x5, x6] parts4 then some (.bool true) else none
    | _ => none)
  | false => none
noncomputable def hd2 : HdF := fun f a => match hdMay f a with
  | some v => some v
  | none => hd f a
theorem hdMay_ok : HdOk Pg hdMay := by
  intro f args v hv
  unfold hdMay at hv
  split at hv
  · rename_i hf
    obtain rfl := Nat.eq_of_beq_eq_true hf
    split at hv
    · rename_i x0 x1 n x2 x3 x4 x5 s x6
      obtain ⟨hc, hv⟩ := bif_some hv
      have := sameVs_eq _ _ hc
      simp only [parts4, List.cons.injEq, and_true] at this
      obtain ⟨rfl, rfl, rfl, rfl, rfl, rfl, rfl⟩ := this
      cases hv
      refine ⟨by kernel_rfl, fun h => ?_⟩
      have := mayP (freeR n s) (by simp [freeR, Rc.z, im0]) h
      rw [freeR_may] at this
      exact this
    · cases hv
  · cases hv
theorem hd2_ok (hh : HdOk Pg hd) : HdOk Pg hd2 := by
  intro f args v hv
  unfold hd2 at hv
  split at hv
  · rename_i u hu
    cases hv
    exact hdMay_ok f args _ hu
  · exact hh f args v hv
noncomputable def getHm : HmF := fun R f args H K z => match Nat.beq f 247 with
  | true => (match args with
    | [.agg [.int .u64 x0, .slc a len], .int .u8 (.ofNat n)] => (match K (.tup [z123, .bool false]) H with
      | some r => bif hasShape Pg (.agg [.int .u64 x0, .slc a len]) 128 then (bif gd len n then some r else none) else none
      | none => none)
    | _ => z)
  | false => z
theorem getHm_ok : HmOk Pg getHm := by
  intro R f args H K z r how h
  unfold getHm at h
  split at h
  · rename_i hf
    obtain rfl := Nat.eq_of_beq_eq_true hf
    split at h
    · rename_i x0 a len n
      split at h
      · rename_i r' hk
        obtain ⟨h1, h⟩ := bif_some h
        obtain ⟨h2, h⟩ := bif_some h
        cases h
        unfold gd at h2
        have h2 := of_decide_eq_true h2
        refine .inr ⟨_, H, HT.ext.refl _, hk, by kernel_rfl, (getP x0 a len n h1 h2.1 h2.2 _).mono fun e h' q => ?_⟩
        cases e with
        | ret u => obtain ⟨rfl, rfl⟩ := q; exact ⟨rfl, rfl⟩
        | panic _ => exact q.elim
      · cases h
    · exact .inl h
  · exact .inl h
noncomputable def isHm : HmF := fun R f args H K z => match Nat.beq f 204 with
  | true => (match args with
    | [.ptr (some a), .agg [.bool true, .int .u16 (.ofNat m)]] => (match H.get a.n with
      | some (.cells true ty v) => (match getV v [4] with
        | some (.int .i64 (.ofNat u)) => bif decide (ty = .one 293 ∧ a = ⟨a.n, .one 293, []⟩ ∧ a.n < H.next) then (match K (.bool false) H with
          | some r => bif gd2 u m then some r else none
          | none => none) else z
        | _ => z)
      | _ => z)
    | _ => z)
  | false => z
theorem isHm_ok : HmOk Pg isHm := by
  intro R f args H K z r how h
  unfold isHm at h
  split at h
  · rename_i hf
    obtain rfl := Nat.eq_of_beq_eq_true hf
    split at h
    · rename_i a m
      split at h
      · rename_i ty v hm
        split at h
        · rename_i u hv
          cases hb : decide (ty = .one 293 ∧ a = ⟨a.n, .one 293, []⟩ ∧ a.n < H.next) with
          | false => rw [hb] at h; exact .inl h
          | true =>
            rw [hb] at h
            simp only [cond_true] at h
            obtain ⟨rfl, ha, hn⟩ := of_decide_eq_true hb
            split at h
            · rename_i r' hk
              obtain ⟨h2, h⟩ := bif_some h
              cases h
              unfold gd2 at h2
              have h2 := of_decide_eq_true h2
              rw [ha]
              refine .inr ⟨_, H, HT.ext.refl _, hk, by kernel_rfl, (isP a.n v u m H.ah hm hn hv h2.1 h2.2).mono fun e h' q => ?_⟩
              cases e with
              | ret u => obtain ⟨rfl, rfl⟩ := q; exact ⟨rfl, rfl⟩
              | panic _ => exact q.elim
            · cases h
        · exact .inl h
      · exact .inl h
    · exact .inl h
  · exact .inl h
end Go.Proofs.YtcglbpjpbjaecaaGreat.Sh
