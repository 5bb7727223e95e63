import Derived.Test.YtcglbpjpbjaecaaGreatT18
import Derived.Test.YtcglbpjpbjaecaaGreatT19
import Derived.Test.YtcglbpjpbjaecaaGreatT30
import Derived.Test.YtcglbpjpbjaecaaGreatT16
import Derived.Test.YtcglbpjpbjaecaaGreatT08
set_option linter.unusedVariables false
set_option linter.unusedSimpArgs false
namespace Go.Proofs.YtcglbpjpbjaecaaGreat.Ru
open Go Go.Ab Go.RowKit
set_option maxRecDepth 100000
theorem Tarun23 : (exTabM Pg FT hdT (orMemo hmT (allMemoC [])) pu 60).ex (V × HT) Tam23.f Tam23.args ⟨Tam23.H.next, Tam23.H.next, Tam23.H.tr⟩ (pairP [(1551, 1)]) = some (Tam23.v, Tam23.H') := by kernel_rfl
theorem Tamok23 (hh : HdOk Pg hd) : MemoOk Pg Tam23 := memo_ofP okP tabOk (hdT_ok hh) (orMemo_ok hmT_ok (allMemoC_ok (l := []) trivial)) [(1551, 1)] (own_of Taown39) Tarun23
end Go.Proofs.YtcglbpjpbjaecaaGreat.Ru
namespace Go.Proofs.YtcglbpjpbjaecaaGreat.Ru
open Go Go.Ab Go.RowKit
set_option maxRecDepth 100000
theorem Tarun24 : (exTabM Pg FT hdT (orMemo hmT (allMemoC [Tam23])) pu 60).ex (V × HT) Tam24.f Tam24.args ⟨Tam24.H.next, Tam24.H.next, Tam24.H.tr⟩ (pairP [(1548, 4), (1553, 1)]) = some (Tam24.v, Tam24.H') := by kernel_rfl
theorem Tamok24 (hh : HdOk Pg hd) : MemoOk Pg Tam24 := memo_ofP okP tabOk (hdT_ok hh) (orMemo_ok hmT_ok (allMemoC_ok (l := [Tam23]) ⟨Tamok23 hh, trivial⟩)) [(1548, 4), (1553, 1)] (own_of Taown41) Tarun24
end Go.Proofs.YtcglbpjpbjaecaaGreat.Ru
namespace Go.Proofs.YtcglbpjpbjaecaaGreat.Ru
open Go Go.Ab Go.RowKit
set_option maxRecDepth 100000
theorem Tarun25 : (exTabM Pg FT hdT (orMemo hmT (allMemoC [])) pu 60).ex (V × HT) Tam25.f Tam25.args ⟨Tam25.H.next, Tam25.H.next, Tam25.H.tr⟩ (pairP []) = some (Tam25.v, Tam25.H') := by kernel_rfl
theorem Tamok25 (hh : HdOk Pg hd) : MemoOk Pg Tam25 := memo_ofP okP tabOk (hdT_ok hh) (orMemo_ok hmT_ok (allMemoC_ok (l := []) trivial)) [] (own_of Taown43) Tarun25
end Go.Proofs.YtcglbpjpbjaecaaGreat.Ru
namespace Go.Proofs.YtcglbpjpbjaecaaGreat.Ru
open Go Go.Ab Go.RowKit
set_option maxRecDepth 100000
theorem Tarun26 : (exTabM Pg FT hdT (orMemo hmT (allMemoC [Tam25])) pu 60).ex (V × HT) Tam26.f Tam26.args ⟨Tam26.H.next, Tam26.H.next, Tam26.H.tr⟩ (pairP []) = some (Tam26.v, Tam26.H') := by kernel_rfl
theorem Tamok26 (hh : HdOk Pg hd) : MemoOk Pg Tam26 := memo_ofP okP tabOk (hdT_ok hh) (orMemo_ok hmT_ok (allMemoC_ok (l := [Tam25]) ⟨Tamok25 hh, trivial⟩)) [] (own_of Taown43) Tarun26
end Go.Proofs.YtcglbpjpbjaecaaGreat.Ru
namespace Go.Proofs.YtcglbpjpbjaecaaGreat.Ru
open Go Go.Ab Go.RowKit
set_option maxRecDepth 100000
theorem Tarun27 : (exTabM Pg FT hdT (orMemo hmT (allMemoC [Tam26])) pu 60).ex (V × HT) Tam27.f Tam27.args ⟨Tam27.H.next, Tam27.H.next, Tam27.H.tr⟩ (pairP []) = some (Tam27.v, Tam27.H') := by kernel_rfl
theorem Tamok27 (hh : HdOk Pg hd) : MemoOk Pg Tam27 := memo_ofP okP tabOk (hdT_ok hh) (orMemo_ok hmT_ok (allMemoC_ok (l := [Tam26]) ⟨Tamok26 hh, trivial⟩)) [] (own_of Taown43) Tarun27
end Go.Proofs.YtcglbpjpbjaecaaGreat.Ru
namespace Go.Proofs.YtcglbpjpbjaecaaGreat.Ru
open Go Go.Ab Go.RowKit
set_option maxRecDepth 100000
theorem Tarun28 : (exTabM Pg FT hdT (orMemo hmT (allMemoC [Tam27])) pu 60).ex (V × HT) Tam28.f Tam28.args ⟨Tam28.H.next, Tam28.H.next, Tam28.H.tr⟩ (pairP [(1557, 3), (1562, 2)]) = some (Tam28.v, Tam28.H') := by kernel_rfl
theorem Tamok28 (hh : HdOk Pg hd) : MemoOk Pg Tam28 := memo_ofP okP tabOk (hdT_ok hh) (orMemo_ok hmT_ok (allMemoC_ok (l := [Tam27]) ⟨Tamok27 hh, trivial⟩)) [(1557, 3), (1562, 2)] (own_of Taown43) Tarun28
end Go.Proofs.YtcglbpjpbjaecaaGreat.Ru
namespace Go.Proofs.YtcglbpjpbjaecaaGreat.Ru
open Go Go.Ab Go.RowKit
set_option maxRecDepth 100000
theorem Tarun29 : (exTabM Pg FT hdT (orMemo hmT (allMemoC [Tam28])) pu 60).ex (V × HT) Tam29.f Tam29.args ⟨Tam29.H.next, Tam29.H.next, Tam29.H.tr⟩ (pairP [(1557, 3), (1562, 3)]) = some (Tam29.v, Tam29.H') := by kernel_rfl
theorem Tamok29 (hh : HdOk Pg hd) : MemoOk Pg Tam29 := memo_ofP okP tabOk (hdT_ok hh) (orMemo_ok hmT_ok (allMemoC_ok (l := [Tam28]) ⟨Tamok28 hh, trivial⟩)) [(1557, 3), (1562, 3)] (own_of Taown43) Tarun29
end Go.Proofs.YtcglbpjpbjaecaaGreat.Ru
namespace Go.Proofs.YtcglbpjpbjaecaaGreat.Ru
open Go Go.Ab Go.RowKit
set_option maxRecDepth 100000
theorem Tarun30 : (exTabM Pg FT hdT (orMemo hmT (allMemoC [])) pu 60).ex (V × HT) Tam30.f Tam30.args ⟨Tam30.H.next, Tam30.H.next, Tam30.H.tr⟩ (pairP []) = some (Tam30.v, Tam30.H') := by kernel_rfl
theorem Tamok30 (hh : HdOk Pg hd) : MemoOk Pg Tam30 := memo_ofP okP tabOk (hdT_ok hh) (orMemo_ok hmT_ok (allMemoC_ok (l := []) trivial)) [] (own_of Taown45) Tarun30
end Go.Proofs.YtcglbpjpbjaecaaGreat.Ru
namespace Go.Proofs.YtcglbpjpbjaecaaGreat.Ru
open Go Go.Ab Go.RowKit
set_option maxRecDepth 100000
theorem Tarun31 : (exTabM Pg FT hdT (orMemo hmT (allMemoC [Tam30])) pu 60).ex (V × HT) Tam31.f Tam31.args ⟨Tam31.H.next, Tam31.H.next, Tam31.H.tr⟩ (pairP []) = some (Tam31.v, Tam31.H') := by kernel_rfl
theorem Tamok31 (hh : HdOk Pg hd) : MemoOk Pg Tam31 := memo_ofP okP tabOk (hdT_ok hh) (orMemo_ok hmT_ok (allMemoC_ok (l := [Tam30]) ⟨Tamok30 hh, trivial⟩)) [] (own_of Taown45) Tarun31
end Go.Proofs.YtcglbpjpbjaecaaGreat.Ru
namespace Go.Proofs.YtcglbpjpbjaecaaGreat.Ru
open Go Go.Ab Go.RowKit
set_option maxRecDepth 100000
theorem Tarun32 : (exTabM Pg FT hdT (orMemo hmT (allMemoC [Tam31])) pu 60).ex (V × HT) Tam32.f Tam32.args ⟨Tam32.H.next, Tam32.H.next, Tam32.H.tr⟩ (pairP []) = some (Tam32.v, Tam32.H') := by kernel_rfl
theorem Tamok32 (hh : HdOk Pg hd) : MemoOk Pg Tam32 := memo_ofP okP tabOk (hdT_ok hh) (orMemo_ok hmT_ok (allMemoC_ok (l := [Tam31]) ⟨Tamok31 hh, trivial⟩)) [] (own_of Taown45) Tarun32
end Go.Proofs.YtcglbpjpbjaecaaGreat.Ru
namespace Go.Proofs.YtcglbpjpbjaecaaGreat.Ru
open Go Go.Ab Go.RowKit
set_option maxRecDepth 100000
theorem Tarun33 : (exTabM Pg FT hdT (orMemo hmT (allMemoC [Tam32])) pu 60).ex (V × HT) Tam33.f Tam33.args ⟨Tam33.H.next, Tam33.H.next, Tam33.H.tr⟩ (pairP []) = some (Tam33.v, Tam33.H') := by kernel_rfl
theorem Tamok33 (hh : HdOk Pg hd) : MemoOk Pg Tam33 := memo_ofP okP tabOk (hdT_ok hh) (orMemo_ok hmT_ok (allMemoC_ok (l := [Tam32]) ⟨Tamok32 hh, trivial⟩)) [] (own_of Taown45) Tarun33
end Go.Proofs.YtcglbpjpbjaecaaGreat.Ru
namespace Go.Proofs.YtcglbpjpbjaecaaGreat.Ru
open Go Go.Ab Go.RowKit
set_option maxRecDepth 100000
theorem Tarun34 : (exTabM Pg FT hdT (orMemo hmT (allMemoC [Tam33])) pu 60).ex (V × HT) Tam34.f Tam34.args ⟨Tam34.H.next, Tam34.H.next, Tam34.H.tr⟩ (pairP []) = some (Tam34.v, Tam34.H') := by kernel_rfl
theorem Tamok34 (hh : HdOk Pg hd) : MemoOk Pg Tam34 := memo_ofP okP tabOk (hdT_ok hh) (orMemo_ok hmT_ok (allMemoC_ok (l := [Tam33]) ⟨Tamok33 hh, trivial⟩)) [] (own_of Taown45) Tarun34
end Go.Proofs.YtcglbpjpbjaecaaGreat.Ru
namespace Go.Proofs.YtcglbpjpbjaecaaGreat.Ru
open Go Go.Ab Go.RowKit
set_option maxRecDepth 100000
theorem Tarun35 : (exTabM Pg FT hdT (orMemo hmT (allMemoC [Tam34])) pu 60).ex (V × HT) Tam35.f Tam35.args ⟨Tam35.H.next, Tam35.H.next, Tam35.H.tr⟩ (pairP []) = some (Tam35.v, Tam35.H') := by kernel_rfl
theorem Tamok35 (hh : HdOk Pg hd) : MemoOk Pg Tam35 := memo_ofP okP tabOk (hdT_ok hh) (orMemo_ok hmT_ok (allMemoC_ok (l := [Tam34]) ⟨Tamok34 hh, trivial⟩)) [] (own_of Taown45) Tarun35
end Go.Proofs.YtcglbpjpbjaecaaGreat.Ru
namespace Go.Proofs.YtcglbpjpbjaecaaGreat.Ru
open Go Go.Ab Go.RowKit
set_option maxRecDepth 100000
theorem Tarun36 : (exTabM Pg FT hdT (orMemo hmT (allMemoC [Tam29, Tam35])) pu 60).ex (V × HT) Tam36.f Tam36.args ⟨Tam36.H.next, Tam36.H.next, Tam36.H.tr⟩ (pairP [(1556, 4), (1562, 3)]) = some (Tam36.v, Tam36.H') := by kernel_rfl
theorem Tamok36 (hh : HdOk Pg hd) : MemoOk Pg Tam36 := memo_ofP okP tabOk (hdT_ok hh) (orMemo_ok hmT_ok (allMemoC_ok (l := [Tam29, Tam35]) ⟨Tamok29 hh, Tamok35 hh, trivial⟩)) [(1556, 4), (1562, 3)] (own_of Taown46) Tarun36
end Go.Proofs.YtcglbpjpbjaecaaGreat.Ru
namespace Go.Proofs.YtcglbpjpbjaecaaGreat.Ru
open Go Go.Ab Go.RowKit
set_option maxRecDepth 100000
theorem Tarun37 : (exTabM Pg FT hdT (orMemo hmT (allMemoC [])) pu 60).ex (V × HT) Tam37.f Tam37.args ⟨Tam37.H.next, Tam37.H.next, Tam37.H.tr⟩ (pairP [(1568, 12)]) = some (Tam37.v, Tam37.H') := by kernel_rfl
theorem Tamok37 (hh : HdOk Pg hd) : MemoOk Pg Tam37 := memo_ofP okP tabOk (hdT_ok hh) (orMemo_ok hmT_ok (allMemoC_ok (l := []) trivial)) [(1568, 12)] (own_of Taown48) Tarun37
end Go.Proofs.YtcglbpjpbjaecaaGreat.Ru
namespace Go.Proofs.YtcglbpjpbjaecaaGreat.Ru
open Go Go.Ab Go.RowKit
set_option maxRecDepth 100000
theorem Tarun38 : (exTabM Pg FT hdT (orMemo hmT (allMemoC [Tam4, Tam22, Tam24, Tam36, Tam37])) pu 60).ex (V × HT) Tam38.f Tam38.args ⟨Tam38.H.next, Tam38.H.next, Tam38.H.tr⟩ (pairP [(0, 1581)]) = some (Tam38.v, Tam38.H') := by kernel_rfl
theorem Tamok38 (hh : HdOk Pg hd) : MemoOk Pg Tam38 := memo_ofP okP tabOk (hdT_ok hh) (orMemo_ok hmT_ok (allMemoC_ok (l := [Tam4, Tam22, Tam24, Tam36, Tam37]) ⟨Tamok4 hh, Tamok22 hh, Tamok24 hh, Tamok36 hh, Tamok37 hh, trivial⟩)) [(0, 1581)] (own_of Taown50) Tarun38
end Go.Proofs.YtcglbpjpbjaecaaGreat.Ru
namespace Go.Proofs.YtcglbpjpbjaecaaGreat.Ru
open Go Go.Ab Go.RowKit
set_option maxRecDepth 100000
theorem Tarun39 : (exTabM Pg FT hdT (orMemo hmT (allMemoC [Tam38])) pu 60).ex (V × HT) Tam39.f Tam39.args ⟨Tam39.H.next, Tam39.H.next, Tam39.H.tr⟩ (pairP [(0, 1581)]) = some (Tam39.v, Tam39.H') := by kernel_rfl
theorem Tamok39 (hh : HdOk Pg hd) : MemoOk Pg Tam39 := memo_ofP okP tabOk (hdT_ok hh) (orMemo_ok hmT_ok (allMemoC_ok (l := [Tam38]) ⟨Tamok38 hh, trivial⟩)) [(0, 1581)] (own_of Taown50) Tarun39
end Go.Proofs.YtcglbpjpbjaecaaGreat.Ru
/- A tale's line of a call is the document's: for all calls. -/
namespace Go.Proofs.YtcglbpjpbjaecaaGreat.Sh
open Go Go.Ab Go.RowKit
open Go.Proofs.YtcglbpjpbjaecaaGreat.Ru
set_option maxRecDepth 10000
set_option linter.unusedVariables false
theorem hdOkT : HdOk Pg hd := by
  intro f args v hv
  unfold hd at hv
  split at hv
  · rename_i hf
    obtain rfl := Nat.eq_of_beq_eq_true hf
    split at hv
    · rename_i n s
      obtain ⟨hc, hv⟩ := bif_some hv
      rw [Bool.and_eq_true, Nat.blt_eq, Nat.blt_eq] at hc
      cases hv
      exact ⟨by kernel_rfl, fun h => moreP n hc.1 s hc.2 h⟩
    · cases hv
  · cases hv
theorem awakeT (h : AH) : ACalls Pg 42 [] h (pureE (.bool true) h) := by
  have c := (Tamok39 hdOkT).call
  have e : (Tam39).H.ah = AH0 := by
    show HT.ah ⟨0, 0, Tat50⟩ = AH0
    rw [show Tat50 = .nil by kernel_rfl]
    exact HT0_ah
  rw [e] at c
  exact pure_lift rfl rfl (c.mono fun e _ q => q.1) h
theorem flat94 : flatTy Pg 10 94 = true := by kernel_rfl
theorem agg94 {v : V} (h : hasShape Pg v 94 = true) : ∃ l, v = .agg l := by
  obtain ⟨l, rfl, _⟩ := inv_struct (ts := [3, 57, 3, 3, 3, 4, 60]) (by kernel_rfl) h
  exact ⟨l, rfl⟩
theorem ints_bytes : ∀ ns : List Int, (∀ n ∈ ns, (Lit.int .u8 n).wf = true) → ∃ s : List UInt8, ns.map (V.int .u8) = bytesV s
  | [], _ => ⟨[], rfl⟩
  | n :: ns, h => by
    obtain ⟨s, hs⟩ := ints_bytes ns fun m hm => h m (List.mem_cons_of_mem _ hm)
    obtain ⟨h0, h1⟩ := wf_u8 (h n (List.mem_cons_self ..))
    refine ⟨n.toNat.toUInt8 :: s, ?_⟩
    rw [List.map_cons, hs]
    show _ = V.int .u8 ((n.toNat.toUInt8).toNat : Nat) :: bytesV s
    have : ((n.toNat.toUInt8).toNat : Int) = n := by simp; omega
    rw [this]
theorem td_of {v : V} {M : Nat} (hs : hasShape Pg v 94 = true) (hg : good M v = true) : ∃ t : Td, v = t.v ∧ t.ok := by
  obtain ⟨l, rfl, q⟩ := inv_struct (ts := [3, 57, 3, 3, 3, 4, 60]) (by kernel_rfl) hs
  obtain ⟨x0, l, rfl, h0, q⟩ := inv_cons q
  obtain ⟨x1, l, rfl, h1, q⟩ := inv_cons q
  obtain ⟨x2, l, rfl, h2, q⟩ := inv_cons q
  obtain ⟨x3, l, rfl, h3, q⟩ := inv_cons q
  obtain ⟨x4, l, rfl, h4, q⟩ := inv_cons q
  obtain ⟨x5, l, rfl, h5, q⟩ := inv_cons q
  obtain ⟨x6, l, rfl, h6, q⟩ := inv_cons q
  obtain rfl := inv_nil q
  obtain ⟨n0, rfl⟩ := inv_int (k := .i64) (by kernel_rfl) h0
  obtain ⟨n2, rfl⟩ := inv_int (k := .i64) (by kernel_rfl) h2
  obtain ⟨n3, rfl⟩ := inv_int (k := .i64) (by kernel_rfl) h3
  obtain ⟨n4, rfl⟩ := inv_int (k := .i64) (by kernel_rfl) h4
  obtain ⟨b5, rfl⟩ := inv_bool (by kernel_rfl) h5
  obtain ⟨l1, rfl, qb⟩ := inv_struct (ts := [5, 49, 22, 3, 9]) (by kernel_rfl) h1
  obtain ⟨y0, l1, rfl, g0, qb⟩ := inv_cons qb
  obtain ⟨y1, l1, rfl, g1, qb⟩ := inv_cons qb
  obtain ⟨y2, l1, rfl, g2, qb⟩ := inv_cons qb
  obtain ⟨y3, l1, rfl, g3, qb⟩ := inv_cons qb
  obtain ⟨y4, l1, rfl, g4, qb⟩ := inv_cons qb
  obtain rfl := inv_nil qb
  obtain ⟨m0, rfl⟩ := inv_int (k := .u8) (by kernel_rfl) g0
  obtain ⟨m1, rfl⟩ := inv_int (k := .u64) (by kernel_rfl) g1
  obtain ⟨m2, rfl⟩ := inv_int (k := .u16) (by kernel_rfl) g2
  obtain ⟨m3, rfl⟩ := inv_int (k := .i64) (by kernel_rfl) g3
  obtain ⟨s4, rfl⟩ := inv_str (by kernel_rfl) g4
  obtain ⟨l2, rfl, qc⟩ := inv_struct (ts := [29, 49, 31, 33]) (by kernel_rfl) h6
  obtain ⟨z0, l2, rfl, k0, qc⟩ := inv_cons qc
  obtain ⟨z1, l2, rfl, k1, qc⟩ := inv_cons qc
  obtain ⟨z2, l2, rfl, k2, qc⟩ := inv_cons qc
  obtain ⟨z3, l2, rfl, k3, qc⟩ := inv_cons qc
  obtain rfl := inv_nil qc
  obtain ⟨p0, rfl⟩ := inv_int (k := .i64) (by kernel_rfl) k0
  obtain ⟨p1, rfl⟩ := inv_int (k := .u64) (by kernel_rfl) k1
  obtain ⟨p2, rfl⟩ := inv_int (k := .u32) (by kernel_rfl) k2
  obtain ⟨bs, rfl, hl, ha⟩ := inv_arr (n := 64) (e := 5) (by kernel_rfl) k3
  simp only [good, goods, Bool.and_true, Bool.and_eq_true] at hg
  obtain ⟨a0, ⟨c0, c1, c2, c3, c4⟩, a2, a3, a4, a5, ⟨d0, d1, d2, d3⟩⟩ := hg
  obtain ⟨ns, rfl, hw⟩ := inv_ints (k := .u8) (by kernel_rfl) ha d3
  obtain ⟨s, hs⟩ := ints_bytes ns hw
  rw [hs] at hl
  refine ⟨⟨n0, n2, n3, n4, p0, m0, m1, m2, m3, s4, b5, p1, p2, s⟩, by rw [hs]; rfl, ⟨wf_u8 c0, wf_u64 d1, wf_u32 d2, by rw [← hl]; simp [bytesV]⟩⟩
theorem tellLaw (v : V) {M : Nat} (hs : hasShape Pg v 94 = true) (hg : good M v = true) : ACalls Pg 9 [v] AH0 fun e _ => e = .ret (.bool true) := by
  obtain ⟨t, rfl, ok⟩ := td_of hs hg
  refine C9 _ _ _ ?_
  refine bindV_mk (new_mk hs) ?_
  generalize hH : (AH0.make (AO.cells true (.one 94) t.v)) = h1
  have hm : h1.m AH0.next = some (.cells true (.one 94) t.v) := by rw [← hH, make_m, if_pos rfl]
  refine bindVO_mk (ld_mk (p := []) hm (by kernel_rfl) (w := t.v) rfl) ?_
  refine ⟨_, tellP t ok h1, ?_⟩
  refine bindVO_mk (ld_mk (p := []) hm (by kernel_rfl) (w := t.v) rfl) ?_
  refine ⟨_, tellR t ok h1, ?_⟩
  refine bindSO_mk (t_eql) ?_
  have e : (t.line == t.line) = true := by simp
  rw [e]
  refine g_tt ?_
  refine ⟨_, awakeT h1, ?_⟩
  refine Meet.of (cast_p (G9_101002_eq _ _ _ _) ?_)
  refine bindVO_mk p_t ?_
  refine Meet.of (cast_p (J9_11_eq _ _ _) ?_)
  rfl
end Go.Proofs.YtcglbpjpbjaecaaGreat.Sh
