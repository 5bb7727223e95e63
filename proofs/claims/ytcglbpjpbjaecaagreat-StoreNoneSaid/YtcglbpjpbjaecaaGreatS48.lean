import Derived.Test.YtcglbpjpbjaecaaGreatS14
import Derived.Test.YtcglbpjpbjaecaaGreatS15
import Derived.Test.YtcglbpjpbjaecaaGreatS08
import Derived.Test.YtcglbpjpbjaecaaGreatS47
set_option linter.unusedVariables false
set_option linter.unusedSimpArgs false
namespace Go.Proofs.YtcglbpjpbjaecaaGreat.Sh
open Go Go.Ab Go.RowKit
open Go.Proofs.YtcglbpjpbjaecaaGreat.Ru
set_option maxRecDepth 10000
theorem awakeS (h : AH) : ACalls Pg 34 [] h (pureE (.bool true) h) := by
  have c := (Stmok210 hdOkW).call
  have e : (Stm210).H.ah = AH0 := by
    show HT.ah ⟨0, 0, Stt405⟩ = AH0
    rw [show Stt405 = .nil by kernel_rfl]
    exact HT0_ah
  rw [e] at c
  exact pure_lift rfl rfl (c.mono fun e _ q => q.1) h
theorem nil58 : aBin Pg .eql 58 (.ptr none) (.ptr none) true = some (.bool true) := by kernel_rfl
theorem nin58 : aBin Pg .neq 58 (.ptr none) (.ptr none) true = some (.bool false) := by kernel_rfl
theorem sn31 (h : AH) : ACalls Pg 31 [.ptr none] h (pureE (.bool true) h) := by
  refine C31 _ _ _ (bindS_mk nil58 (g_tf ?_))
  refine Meet.of (cast_p (G31_101002_eq _ _ _ _) ?_)
  refine bindV_mk p_t ?_
  refine Meet.of (cast_p (J31_11_eq _ _ _) ?_)
  exact ⟨rfl, rfl⟩
theorem sn29 (w : V) (h : AH) : ACalls Pg 29 [.ptr none, w] h (pureE (.bool false) h) := by
  refine C29 _ _ _ _ (bindS_mk nin58 (g_ft ?_))
  refine Meet.of (cast_p (G29_101002_eq _ _ _ _ _ _) ?_)
  refine bindV_mk p_f (g_ft ?_)
  refine Meet.of (cast_p (G29_101004_eq _ _ _ _ _ _) ?_)
  refine bindV_mk p_f (g_ft ?_)
  refine Meet.of (cast_p (G29_101006_eq _ _ _ _) ?_)
  refine bindV_mk p_f ?_
  refine Meet.of (cast_p (J29_11_eq _ _ _) ?_)
  exact ⟨rfl, rfl⟩
theorem sn30 (w : V) (h : AH) : ACalls Pg 30 [.ptr none, w] h (pureE (.bool false) h) := by
  refine C30 _ _ _ _ ?_
  refine callS (sn29 w h) ?_
  refine bindS_mk u_not (i_t ?_)
  exact ⟨rfl, rfl⟩
theorem sn32 (h : AH) : ACalls Pg 32 [.ptr none] h (pureE (.ptr none) h) := C32 _ _ _ (bindS_mk nil58 (i_t ⟨rfl, rfl⟩))
theorem sn33 (h : AH) : ACalls Pg 33 [.ptr none] h (pureE (.ptr none) h) := C33 _ _ _ (bindS_mk nil58 (i_t ⟨rfl, rfl⟩))
theorem sn28 (w c : V) (hc : hasShape Pg c 57 = true) (h : AH) : ACalls Pg 28 [.ptr none, w, c] h (pureE (.int .i64 12) h) := by
  refine acalls_forget (show oldV _ (V.int .i64 12) = true from rfl) ?_
  refine C28 _ _ _ _ _ ?_
  refine bindE (new_at hc) fun h1 u1 => ?_
  refine callS (sn31 h1) (i_t ?_)
  exact ⟨rfl, fun n hn => u1.other n hn⟩
def r0V : V := .agg [.int .i64 0, .int .u64 0, .int .u32 0, .agg (bytesV zeroB)]
theorem build60 : aBuild Pg 60 [] = some r0V := by kernel_rfl
theorem zero60 : zeroV Pg 60 = some r0V := by kernel_rfl
theorem shape60 : hasShape Pg r0V 60 = true := by kernel_rfl
theorem eq60 : aBin Pg .eql 60 r0V r0V false = some (.bool true) := by kernel_rfl
theorem sn26 (w : V) (h : AH) : ACalls Pg 26 [.ptr none, w] h (pureE (.tup [r0V, .bool false]) h) := by
  refine acalls_forget (show oldV _ (V.tup [r0V, .bool false]) = true by rfl) ?_
  refine C26 _ _ _ _ ?_
  refine bindE (al_at zero60 shape60) fun h1 u1 => ?_
  have n1 := u1.next
  refine callS (sn29 w h1) ?_
  refine bindS_mk u_not (i_t ?_)
  refine bindS_mk build60 ?_
  refine bindE (st_at (p := []) u1.at_ (by kernel_rfl) rfl shape60 rfl) fun h2 u2 => ?_
  have e1 := ld_mk (P := Pg) (t := 60) (p := []) u2.at_ (by kernel_rfl) (w := r0V) rfl
  simp only [aLoadV] at e1
  have e2 := (still_some e1).1
  refine bindR_mk (show aRes Pg _ _ R26 = some [r0V, .bool false] by simp only [R26, aRes, Env.get, if_true, e2]; rfl) ?_
  exact ⟨rfl, fun n hn => (u2.other n (by omega)).trans (u1.other n (by omega))⟩
theorem run27 : (exTabM Pg FT hd noMemo pu 60).ex (V × HT) 27 [.ptr none, .int .i64 4] ⟨0, 0, .nil⟩ pairK = some (.tup [.ptr none, .int .i64 4], ⟨0, 0, .nil⟩) := by kernel_rfl
theorem sn27 (h : AH) : ACalls Pg 27 [.ptr none, .int .i64 4] h (pureE (.tup [.ptr none, .int .i64 4]) h) := by
  have m := memo_of okP tabOk hdOkW noMemo_ok (H := HT0) HT0_own run27
  have c := m.call
  have e : (HT0).ah = AH0 := HT0_ah
  exact lift_nil2 (by rfl) (by rfl) (by
    have c : ACalls Pg 27 [.ptr none, .int .i64 4] HT0.ah _ := c
    rw [e] at c
    exact c.mono fun e _ q => q.1) h
theorem n58 : aBin Pg .eql 58 (.ptr none) (.ptr none) true = some (.bool true) := by kernel_rfl
theorem n42 : aBin Pg .eql 42 (.ptr none) (.ptr none) true = some (.bool true) := by kernel_rfl
theorem n68 : aBin Pg .eql 68 (.ptr none) (.ptr none) true = some (.bool true) := by kernel_rfl
theorem storeLaw (w c : V) (hc : hasShape Pg c 57 = true) : ACalls Pg 5 [w, c] AH0 fun e _ => e = .ret (.bool true) := by
  refine C5 _ _ _ _ ?_
  refine bindE (new_at hc) fun h1 u1 => ?_
  have n1 := u1.next
  refine callS (sn26 w h1) ?_
  refine bindS_mk (show aExtract _ _ = some _ from rfl) ?_
  refine bindS_mk (show aExtract _ _ = some _ from rfl) ?_
  refine bindE (al_at zero60 shape60) fun h2 u2 => ?_
  have n2 := u2.next
  refine bindE (st_at (p := []) u2.at_ (by kernel_rfl) rfl shape60 rfl) fun h3 u3 => ?_
  have n3 := u3.next
  have hm : h3.m h1.next = some (.cells true (.one 60) r0V) := u3.at_
  have hm1 := (u3.other _ (by omega)).trans ((u2.other _ (by omega)).trans u1.at_)
  refine callS (sn27 h3) ?_
  refine bindS_mk (show aExtract _ _ = some _ from rfl) ?_
  refine bindS_mk (show aExtract _ _ = some _ from rfl) ?_
  refine bindV_mk (ld_mk (p := []) hm1 (by kernel_rfl) rfl) ?_
  refine callS (sn28 w c hc h3) ?_
  refine bindS_mk b_eql ?_
  refine g_tt ?_
  refine callS (sn29 w h3) ?_
  refine bindS_mk u_not ?_
  refine Meet.of (cast_p (G5_111101002_eq _ _ _ _ _ _ _ _ _ _) ?_)
  refine bindV_mk p_t (g_tt ?_)
  refine callS (sn30 w h3) ?_
  refine bindS_mk u_not ?_
  refine Meet.of (cast_p (G5_111101004_eq _ _ _ _ _ _ _ _ _) ?_)
  refine bindV_mk p_t (g_tt ?_)
  refine bindV_mk (ld_mk (p := []) hm (by kernel_rfl) (w := r0V) rfl) ?_
  refine bindS_mk build60 ?_
  refine bindS_mk eq60 ?_
  refine Meet.of (cast_p (G5_111101006_eq _ _ _ _ _ _ _ _) ?_)
  refine bindV_mk p_t (g_tt ?_)
  refine bindS_mk u_not ?_
  refine Meet.of (cast_p (G5_111101008_eq _ _ _ _ _ _ _) ?_)
  refine bindV_mk p_t (g_tt ?_)
  refine callS (sn31 h3) ?_
  refine Meet.of (cast_p (G5_111101010_eq _ _ _ _ _ _ _) ?_)
  refine bindV_mk p_t (g_tt ?_)
  refine callS (sn32 h3) ?_
  refine bindS_mk n42 ?_
  refine Meet.of (cast_p (G5_111101012_eq _ _ _ _ _ _ _) ?_)
  refine bindV_mk p_t (g_tt ?_)
  refine callS (sn33 h3) ?_
  refine bindS_mk n68 ?_
  refine Meet.of (cast_p (G5_111101014_eq _ _ _ _ _ _) ?_)
  refine bindV_mk p_t (g_tt ?_)
  refine bindS_mk n58 ?_
  refine Meet.of (cast_p (G5_111101016_eq _ _ _ _ _) ?_)
  refine bindV_mk p_t (g_tt ?_)
  refine bindS_mk b_eql ?_
  refine Meet.of (cast_p (G5_111101018_eq _ _ _ _) ?_)
  refine bindV_mk p_t (g_tt ?_)
  refine callS (awakeS h3) ?_
  refine Meet.of (cast_p (G5_111101020_eq _ _ _ _) ?_)
  refine bindV_mk p_t ?_
  refine Meet.of (cast_p (J5_11111_eq _ _ _) ?_)
  rfl
theorem flat57 : flatTy Pg 10 57 = true := by kernel_rfl
theorem agg57 {v : V} (h : hasShape Pg v 57 = true) : ∃ l, v = .agg l := by
  obtain ⟨l, rfl, _⟩ := inv_struct (ts := [5, 49, 22, 3, 9]) (by kernel_rfl) h
  exact ⟨l, rfl⟩
end Go.Proofs.YtcglbpjpbjaecaaGreat.Sh
