import Derived.Test.YtcglbpjpbjaecaaGreatFQ
import Derived.Test.YtcglbpjpbjaecaaGreatWH
import Derived.Test.YtcglbpjpbjaecaaGreatWrG
set_option linter.unusedVariables false
set_option linter.unusedSimpArgs false
namespace Go.Proofs.YtcglbpjpbjaecaaGreat.Sh
open Go Go.Ab Go.RowKit
open Go.Proofs.YtcglbpjpbjaecaaGreat.Ru
set_option maxRecDepth 10000
set_option linter.unusedVariables false
theorem hdOkW : HdOk Pg hd := by
  intro f args v hv
  unfold hd at hv
  split at hv
  · rename_i hf
    obtain rfl := Nat.eq_of_beq_eq_true hf
    split at hv
    · rename_i n s
      obtain ⟨hc, hv⟩ := bif_some hv
      rw [Bool.and_eq_true, Nat.blt_eq, Nat.blt_eq] at hc
      cases hv
      exact ⟨by kernel_rfl, fun h => moreP n hc.1 s hc.2 h⟩
    · cases hv
  · cases hv
theorem awakeW (h : AH) : ACalls Pg 41 [] h (pureE (.bool true) h) := by
  have c := (Womok21 hdOkW).call
  have e : (Wom21).H.ah = AH0 := by
    show HT.ah ⟨0, 0, Wot24⟩ = AH0
    rw [show Wot24 = .nil by kernel_rfl]
    exact HT0_ah
  rw [e] at c
  exact pure_lift rfl rfl (c.mono fun e _ q => q.1) h
theorem call_atW {f : FuncId} {args : List V} {v : V} {h : AH} {K X : V → AH → Prop} (c : ACalls Pg f args h (pureE v h)) (k : K v h) : ACalls Pg f args h (aEnd K X) :=
  c.mono fun e h' q => by
    cases e with
    | ret u => obtain ⟨rfl, rfl⟩ := q; exact k
    | panic _ => exact q.elim
theorem nil74 : aBin Pg .eql 74 (.ptr none) (.ptr none) true = some (.bool true) := by kernel_rfl
theorem c37 (h : AH) : ACalls Pg 37 [.ptr none] h (pureE (.slc none 0) h) := C37 _ _ _ (bindS_mk nil74 (i_t ⟨rfl, rfl⟩))
theorem c38 (h : AH) : ACalls Pg 38 [.ptr none] h (pureE (.ptr none) h) := C38 _ _ _ (bindS_mk nil74 (i_t ⟨rfl, rfl⟩))
theorem c39 (h : AH) : ACalls Pg 39 [.ptr none] h (pureE (.ptr none) h) := C39 _ _ _ (bindS_mk nil74 (i_t ⟨rfl, rfl⟩))
theorem c40 (h : AH) : ACalls Pg 40 [.ptr none] h (pureE (.int .i64 0) h) := C40 _ _ _ (bindS_mk nil74 (i_t ⟨rfl, rfl⟩))
theorem lift_nil2 {P : Program} {f : FuncId} {args : List V} {v : V} (ha : oldVs (fun _ => false) args = true) (hv : oldV (fun _ => false) v = true) (c : ACalls P f args AH0 fun e _ => e = .ret v) (h : AH) : ACalls P f args h (pureE v h) := by
  intro B ι W vs F r
  have le : Names.le (fun _ => none) ι := fun n L h => by cases h
  refine (c _ _ W vs (fits0 W) (old_relL (fun n hn => by cases hn) le args vs ha r)).mono ?_
  rintro e w' ⟨ι', h', ae, h1, h2, h3, rfl⟩
  have hold : ∀ b, b < W.heap.size → w'.heap[b]? = W.heap[b]? := fun b hb => (h2.frame b hb).1
  refine ⟨ι, h, .ret v, Names.le_refl _, ?_, ?_, rfl, rfl⟩
  · exact (F.grow (fun _ => False) hold (fun _ h => h.elim) h2.os h2.tape h2.output h2.size).rebase (BaseLe.grow F _ hold h2.os h2.tape h2.output h2.size)
  · cases e with
    | returned x => exact rel_le (ι := fun _ => none) le (old_rel (ι := fun _ => none) (fun n hn => by cases hn) h1 hv h3)
    | panicked c => exact h3.elim
    | outgrown => exact h3.elim
theorem run36 : (exTabM Pg FT hd noMemo pu 60).ex (V × HT) 36 [.ptr none] ⟨0, 0, .nil⟩ pairK = some (.tup [.slc none 0, .int .i64 12], ⟨0, 0, .nil⟩) := by kernel_rfl
theorem c36 (h : AH) : ACalls Pg 36 [.ptr none] h (pureE (.tup [.slc none 0, .int .i64 12]) h) := by
  have m := memo_of okP tabOk hdOkW noMemo_ok (H := HT0) HT0_own run36
  have c := m.call
  have e : (HT0).ah = AH0 := HT0_ah
  exact lift_nil2 (by rfl) (by rfl) (by
    have c : ACalls Pg 36 [.ptr none] HT0.ah _ := c
    rw [e] at c
    exact c.mono fun e _ q => q.1) h
def ev (x0 x1 x2 x3 k : V) : V := .agg [x0, x1, x2, x3, k]
theorem shEv {x0 x1 x2 x3 k : V} (h0 : hasShape Pg x0 5 = true) (h1 : hasShape Pg x1 3 = true) (h2 : hasShape Pg x2 3 = true) (h3 : hasShape Pg x3 57 = true) (h4 : hasShape Pg k 71 = true) : hasShape Pg (ev x0 x1 x2 x3 k) 73 = true := by
  have e : hasShape Pg (ev x0 x1 x2 x3 k) 73 = (hasShape Pg x0 5 && (hasShape Pg x1 3 && (hasShape Pg x2 3 && (hasShape Pg x3 57 && (hasShape Pg k 71 && true))))) := by kernel_rfl
  rw [e, h0, h1, h2, h3, h4]; rfl
theorem shSlc (a : Option (PA × Nat)) (n : Nat) : hasShape Pg (.slc a n) 71 = true := by kernel_rfl
theorem u71 : ul Pg 71 = some (.slice 4) := by kernel_rfl
theorem b4 : Pg.bytesOf 4 = 1 := by kernel_rfl
theorem appendP (h : AH) (n1 c : Nat) (a : Option (PA × Nat)) (n : Nat) (bs : List V) (he : aElems Pg h 4 (.slc a n) = some bs) (hn : h.m n1 = some (.cells true (.row 4) (.agg []))) (hb : bs.length ≤ 140737488355328) (hc : c ≠ n1) (hc2 : c < h.next) :
    ∃ a' n' h', aBuiltin Pg h .append [71, 71] [.slc (some (⟨n1, .row 4, []⟩, 0)) 0, .slc a n] = some (.slc a' n', h') ∧ h'.m c = h.m c := by
  have e1 : aBuiltin Pg h .append [71, 71] [.slc (some (⟨n1, .row 4, []⟩, 0)) 0, .slc a n] = aAppend Pg h 4 (.slc (some (⟨n1, .row 4, []⟩, 0)) 0) (.slc a n) := by
    have : (notInt Pg 71 && (ul Pg 4).isSome) = true := by kernel_rfl
    simp only [aBuiltin, u71]
    rw [if_pos this]
  rw [e1]
  cases bs with
  | nil => exact ⟨some (⟨n1, .row 4, []⟩, 0), 0, h, by simp only [aAppend, he], rfl⟩
  | cons w ws =>
    have hz : (zeroV Pg 4).isSome = true := by kernel_rfl
    refine ⟨some (⟨(h.kill n1).next, .row 4, []⟩, 0), (0 + (w :: ws).length), (h.kill n1).make (.cells true (.row 4) (.agg ([] ++ w :: ws))), ?_, ?_⟩
    · simp only [aAppend, he, aOwnRow, hn]
      rw [if_pos (show True ∧ True ∧ True ∧ 0 + 0 ≤ ([] : List V).length from ⟨trivial, trivial, trivial, Nat.le_refl 0⟩)]
      have hl : (List.take 0 (List.drop 0 ([] : List V))) = [] := rfl
      rw [hl]
      simp only [List.length_nil]
      rw [if_pos ⟨by rw [b4]; exact Nat.le_refl _, by rw [b4]; simp at hb ⊢; omega, hz⟩]
    · rw [make_m, if_neg (by show c ≠ h.next; omega)]
      show (h.kill n1).m c = h.m c
      simp only [AH.kill, if_neg hc]
theorem buildP (h : AH) : aBuildSlice Pg h 71 0 [] = some (.slc (some (⟨h.next, .row 4, []⟩, 0)) 0, h.make (.cells true (.row 4) (.agg []))) := by kernel_rfl
theorem worldLaw (x0 x1 x2 x3 : V) (h0 : hasShape Pg x0 5 = true) (h1 : hasShape Pg x1 3 = true) (h2 : hasShape Pg x2 3 = true) (h3 : hasShape Pg x3 57 = true) (a : Option (PA × Nat)) (n : Nat) (h : AH) (bs : List V)
    (he : aElems Pg h 4 (.slc a n) = some bs) (hs : ∀ p i, a = some (p, i) → p.n < h.next) (hb : bs.length ≤ 140737488355328) : ACalls Pg 6 [ev x0 x1 x2 x3 (.slc a n)] h fun e _ => e = .ret (.bool true) := by
  refine C6 _ _ _ ?_
  refine bindV_mk (new_mk (shEv h0 h1 h2 h3 (shSlc a n))) ?_
  generalize ho : AO.cells true (.one 73) (ev x0 x1 x2 x3 (.slc a n)) = o
  refine bindV_mk (buildP _) ?_
  refine bindS_mk (fa_mk (by kernel_rfl)) ?_
  have hm1 : ((h.make o).make (.cells true (.row 4) (.agg []))).m h.next = some o := by rw [make_m, if_neg (by rw [make_next]; omega), make_m, if_pos rfl]
  have hm2 : ((h.make o).make (.cells true (.row 4) (.agg []))).m (h.make o).next = some (.cells true (.row 4) (.agg [])) := by rw [make_m, if_pos rfl]
  subst ho
  refine bindV_mk (ld_mk hm1 (by kernel_rfl) (w := .slc a n) rfl) ?_
  have he2 : aElems Pg ((h.make (.cells true (.one 73) (ev x0 x1 x2 x3 (.slc a n)))).make (.cells true (.row 4) (.agg []))) 4 (.slc a n) = some bs := by
    cases a with
    | none => exact he
    | some p =>
      obtain ⟨p, i⟩ := p
      have hp := hs p i rfl
      have e : ((h.make (.cells true (.one 73) (ev x0 x1 x2 x3 (.slc (some (p, i)) n)))).make (.cells true (.row 4) (.agg []))).m p.n = h.m p.n := by
        rw [make_m, if_neg (by rw [make_next]; omega), make_m, if_neg (by omega)]
      simp only [aElems, e] at he ⊢
      exact he
  obtain ⟨a', n', h', e1, e2⟩ := appendP _ (h.make (.cells true (.one 73) (ev x0 x1 x2 x3 (.slc a n)))).next h.next a n bs he2 hm2 hb (by rw [make_next]; omega) (by rw [make_next, make_next]; omega)
  refine bindV_mk e1 ?_
  refine bindS_mk (fa_mk (by kernel_rfl)) ?_
  have hm3 : h'.m h.next = some (.cells true (.one 73) (ev x0 x1 x2 x3 (.slc a n))) := e2.trans hm1
  refine bindV_mk (st_mk hm3 (by kernel_rfl) rfl (shSlc a' n') (v' := ev x0 x1 x2 x3 (.slc a' n')) rfl) ?_
  have hm4 : (h'.put h.next (.cells true (.one 73) (ev x0 x1 x2 x3 (.slc a' n')))).m h.next = some (.cells true (.one 73) (ev x0 x1 x2 x3 (.slc a' n'))) := by rw [put_m, if_pos rfl]
  refine bindV_mk (ld_mk hm4 (by kernel_rfl) rfl) ?_
  generalize (h'.put h.next (.cells true (.one 73) (ev x0 x1 x2 x3 (.slc a' n')))) = h9
  have c35 : ACalls Pg 35 [.ptr none, ev x0 x1 x2 x3 (.slc a' n')] h9 (pureE (.tup []) h9) := by
    refine acalls_forget (by rfl) (C35 _ _ _ _ ?_)
    refine bindV_mk (new_mk (shEv h0 h1 h2 h3 (shSlc a' n'))) ?_
    refine bindS_mk nil74 ?_
    refine i_t ⟨rfl, fun m hm => ?_⟩
    rw [make_m, if_neg (by omega)]
  refine call_atW c35 ?_
  refine call_atW (c36 _) ?_
  refine bindS_mk (show aExtract _ _ = some (.slc none 0) from rfl) ?_
  refine bindS_mk (show aExtract _ _ = some (.int .i64 12) from rfl) ?_
  refine call_atW (c37 _) ?_
  refine bindV_mk (show aBuiltin Pg h9 .len [79] [.slc none 0] = some (.int .i64 0, h9) by kernel_rfl) ?_
  refine bindS_mk (show aBin Pg .eql 3 (.int .i64 0) (.int .i64 0) true = some (.bool true) by kernel_rfl) ?_
  refine g_tt ?_
  refine call_atW (c38 _) ?_
  refine bindS_mk (show aBin Pg .eql 58 (.ptr none) (.ptr none) true = some (.bool true) by kernel_rfl) ?_
  refine Meet.of (cast_p (G6_1111101002_eq _ _ _ _ _ _) ?_)
  refine bindV_mk p_t ?_
  refine g_tt ?_
  refine call_atW (c39 _) ?_
  refine bindS_mk (show aBin Pg .eql 25 (.ptr none) (.ptr none) true = some (.bool true) by kernel_rfl) ?_
  refine Meet.of (cast_p (G6_1111101004_eq _ _ _ _ _ _) ?_)
  refine bindV_mk p_t ?_
  refine g_tt ?_
  refine call_atW (c40 _) ?_
  refine bindS_mk (show aBin Pg .eql 3 (.int .i64 0) (.int .i64 0) true = some (.bool true) by kernel_rfl) ?_
  refine Meet.of (cast_p (G6_1111101006_eq _ _ _ _ _) ?_)
  refine bindV_mk p_t ?_
  refine g_tt ?_
  refine bindS_mk (show aBin Pg .eql 29 (.int .i64 12) (.int .i64 12) true = some (.bool true) by kernel_rfl) ?_
  refine Meet.of (cast_p (G6_1111101008_eq _ _ _ _) ?_)
  refine bindV_mk p_t ?_
  refine g_tt ?_
  refine call_atW (awakeW _) ?_
  refine Meet.of (cast_p (G6_1111101010_eq _ _ _ _) ?_)
  refine bindV_mk p_t ?_
  refine Meet.of (cast_p (J6_111111_eq _ _ _) ?_)
  rfl
end Go.Proofs.YtcglbpjpbjaecaaGreat.Sh
