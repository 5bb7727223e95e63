/- An event opened: its flat parts, and its list in the memory. -/
import Derived.Test.YtcglbpjpbjaecaaGreatFT
import Derived.Test.YtcglbpjpbjaecaaGreatAbG
import Derived.Carry
import Derived.ChangeArms
set_option linter.unusedVariables false
set_option linter.unusedSimpArgs false
namespace Go.Proofs.YtcglbpjpbjaecaaGreat.Op
open Go Go.Ab Go.RowKit
open Go.Proofs.YtcglbpjpbjaecaaGreat.Ru (Pg okP)
set_option maxRecDepth 10000
set_option linter.unusedVariables false
def ev (x0 x1 x2 x3 k : V) : V := .agg [x0, x1, x2, x3, k]
theorem f5 : flatTy Pg 10 5 = true := by kernel_rfl
theorem f3 : flatTy Pg 10 3 = true := by kernel_rfl
theorem f57 : flatTy Pg 10 57 = true := by kernel_rfl
theorem cells73 : Pg.cellsOf 73 = 9 := by kernel_rfl
theorem ct73 : Pg.cellTypes Pg.depth 73 = some [5, 3, 3, 5, 49, 22, 3, 9, 71] := by kernel_rfl
theorem cells4 : Pg.cellsOf 4 = 1 := by kernel_rfl
theorem bytes4 : Pg.bytesOf 4 = 1 := by kernel_rfl
noncomputable def fs73 : List Field := match Pg.underlying 73 with | some (.struct fs) => fs.toList | _ => []
theorem u73 : Pg.underlying 73 = some (.struct fs73.toArray) := by kernel_rfl
theorem fs73_get : fs73.map (fun f => (f.type, f.offset, Pg.cellsOf f.type)) = [(5, 0, 1), (3, 1, 1), (3, 2, 1), (57, 3, 5), (71, 8, 1)] := by kernel_rfl
theorem fs73_types : fs73.map (·.type) = [5, 3, 3, 57, 71] := by kernel_rfl
def h1 (l : List V) : AH := ⟨1, fun n => if n = 0 then some (.cells false (.row 4) (.agg l)) else none⟩
def ι1 (L : Go.Ab.Loc) : Names := fun n => if n = 0 then some L else none
theorem fits1 {W : World} {L : Go.Ab.Loc} {l : List V} (ho : objR Pg (ι1 L) W L (.cells false (.row 4) (.agg l))) : Fits Pg ⟨fun b => b < W.heap.size, W⟩ (ι1 L) (h1 l) W where
  obj := fun n o hm => by
    simp only [h1] at hm
    split at hm
    · rename_i h; subst h; cases hm; exact ⟨L, by simp [ι1], ho⟩
    · cases hm
  fresh := fun n hn => by
    have : (h1 l).next = 1 := rfl
    simp only [ι1]; rw [if_neg (by omega)]
  apart := fun n n' o o' L L' hm hm' hne ho' _ _ => by
    simp only [h1] at hm
    split at hm
    · cases hm; cases ho'
    · cases hm
  free := fun n o L hm ho' _ => by
    simp only [h1] at hm
    split at hm
    · cases hm; cases ho'
    · cases hm
  frame := fun b hb => ⟨rfl, hb⟩
  os := rfl
  tape := rfl
  output := rfl
  size := Nat.le_refl _
/-- Bools that lie in a row. -/
theorem bools {c : Array Value} : ∀ (n off : Nat), (∀ i, i < n → ∃ b, c[off + i]? = some (.bool b)) → ∃ bs : List Bool, bs.length = n ∧ (c.toList.drop off).take n = bs.map Value.bool
  | 0, off, _ => ⟨[], rfl, by simp⟩
  | n + 1, off, h => by
    obtain ⟨b, hb⟩ := h 0 (by omega)
    obtain ⟨bs, h1, h2⟩ := bools n (off + 1) fun i hi => by
      have := h (i + 1) (by omega)
      rw [show off + 1 + i = off + (i + 1) by omega]; exact this
    refine ⟨b :: bs, by simp [h1], ?_⟩
    have hb' : c.toList[off]? = some (.bool b) := by simpa using hb
    obtain ⟨hlt, he⟩ := List.getElem?_eq_some_iff.1 hb'
    rw [List.drop_eq_getElem_cons hlt, List.take_succ_cons, he, h2]; rfl
theorem relCs_bools (ι : Names) : ∀ bs : List Bool, relCs Pg ι (bs.map V.bool) (bs.map Value.bool)
  | [] => by simp [relCs]
  | b :: bs => by
    have := relCs_cons (P := Pg) (ι := ι) (v := .bool b) (a := [.bool b]) (by simp [relC]) (relCs_bools ι bs)
    simpa using this
theorem shapes_bools : ∀ bs : List Bool, shapesAll Pg (bs.map V.bool) 4 = true
  | [] => by simp [shapesAll]
  | b :: bs => by
    have : hasShape Pg (.bool b) 4 = true := by kernel_rfl
    simp only [List.map_cons, shapesAll, this, shapes_bools bs, Bool.and_self]
theorem u4 : Pg.underlying 4 = some .bool := by kernel_rfl
theorem u71' : Pg.underlying 71 = some (.slice 4) := by kernel_rfl
theorem one_bool {H : Type} {enc : TypeId × Value → H} {W : World} {a : Addr} {c : Array Value} {elem : TypeId} {fr : Nat × Nat} (hb : W.heap[a.block]? = some (.cells c elem fr)) (hs : a.spot = none) {n k : Nat} {y : DataW H × List MemPlace}
    (h : (W.cells? 0 (a.add (k * Pg.cellsOf 4)) (Pg.cellsOf 4)).bind (DataW.trod enc Pg W 0 (fun _ => true) true n 4) = some y) : ∃ b, c[a.off + k]? = some (.bool b) := by
  rw [cells4, Nat.mul_one] at h
  obtain ⟨cl, h1, h2⟩ := Option.bind_eq_some_iff.1 h
  obtain ⟨b, rfl, _⟩ := DataW.trod_bool u4 h2
  refine ⟨b, ?_⟩
  simp only [World.cells?, Nat.zero_le, if_true] at h1
  simp only [List.range_succ, List.range_zero, List.nil_append, List.mapM_cons, List.mapM_nil] at h1
  have hc : W.cell? ((a.add k).add 0) = c[a.off + k]? := by
    have e0 : (a.add k).add 0 = a.add k := by simp [Addr.add]
    have e1 : (a.add k).block = a.block ∧ (a.add k).off = a.off + k ∧ (a.add k).spot = none := by
      unfold Addr.add
      split
      · rename_i h; subst h; exact ⟨rfl, rfl, hs⟩
      · exact ⟨rfl, rfl, rfl⟩
    rw [e0]
    simp only [World.cell?, e1.1, e1.2.1, e1.2.2, hb, Option.isSome_none]
    simp
  rw [hc] at h1
  cases hq : c[a.off + k]? with
  | none => rw [hq] at h1; simp at h1
  | some z => rw [hq] at h1; simp at h1; rw [h1]
theorem open_ev {H : Type} {enc : TypeId × Value → H} {W : World} {base : Nat} {v : Value} {d : DataW H} {ps : List MemPlace} (hv : Value.okWide Pg W .any base 73 v)
    (h : DataW.Trod enc Pg W 0 (fun _ => true) true 73 v d ps) (hw : ∀ n ∈ d.weights Pg 73, n ≤ reachBytes) :
    ∃ x0 x1 x2 x3 a n hh bs ι, hasShape Pg x0 5 = true ∧ hasShape Pg x1 3 = true ∧ hasShape Pg x2 3 = true ∧ hasShape Pg x3 57 = true ∧ aElems Pg hh 4 (.slc a n) = some bs ∧
      (∀ p i, a = some (p, i) → p.n < hh.next) ∧ bs.length ≤ reachBytes ∧ Fits Pg ⟨fun b => b < W.heap.size, W⟩ ι hh W ∧ rel Pg ι (ev x0 x1 x2 x3 (.slc a n)) v := by
  unfold Value.okWide at hv
  rw [u73] at hv
  obtain ⟨cs, rfl, hsz, ts, hts, _, hcell⟩ := hv
  rw [ct73] at hts
  cases hts
  obtain ⟨fuel, h⟩ := h
  have h : DataW.trod enc Pg W 0 (fun _ => true) true fuel 73 cs.toList = some (d, ps) := h
  obtain ⟨xs, m, rfl, hx, hl, hlen, hf⟩ := DataW.trod_struct u73 h
  simp only [Prod.mk.injEq] at hx
  obtain ⟨rfl, _⟩ := hx
  rw [cells73] at hl hsz
  have hfl : fs73.length = 5 := by have := congrArg List.length fs73_get; simpa using this
  have hlen5 : xs.length = 5 := by simpa [hfl] using hlen
  simp only [DataW.weights, u73, fs73_types] at hw
  have field : ∀ (i t off sz : Nat) (y : DataW H × List MemPlace), [(5, 0, 1), (3, 1, 1), (3, 2, 1), (57, 3, 5), (71, 8, 1)][i]? = some (t, off, sz) → xs[i]? = some y →
      DataW.trod enc Pg W 0 (fun _ => true) true m t ((cs.toList.drop off).take sz) = some y ∧ ∀ n ∈ y.1.weights Pg t, n ≤ reachBytes := by
    intro i t off sz y hi hy
    rw [← fs73_get, List.getElem?_map] at hi
    cases hfi : fs73[i]? with
    | none => rw [hfi] at hi; cases hi
    | some f =>
      rw [hfi] at hi
      simp only [Option.map_some, Option.some.injEq, Prod.mk.injEq] at hi
      obtain ⟨rfl, rfl, rfl⟩ := hi
      have e1 := hf i f (by simpa using hfi)
      rw [hy] at e1
      refine ⟨e1, fun n hn => hw n ?_⟩
      refine DataW.weights_mem_each (j := i) (t := f.type) (d := y.1) ?_ (by rw [List.getElem?_map, hy]; rfl) n hn
      rw [← fs73_types, List.getElem?_map, hfi]; rfl
  match xs, hlen5 with
  | [y0, y1, y2, y3, y4], _ =>
  obtain ⟨t0, w0⟩ := field 0 5 0 1 y0 rfl rfl
  obtain ⟨t1, w1⟩ := field 1 3 1 1 y1 rfl rfl
  obtain ⟨t2, w2⟩ := field 2 3 2 1 y2 rfl rfl
  obtain ⟨t3, w3⟩ := field 3 57 3 5 y3 rfl rfl
  obtain ⟨t4, w4⟩ := field 4 71 8 1 y4 rfl rfl
  obtain ⟨⟨x0, s0, _, r0⟩, _⟩ := trod_tree okP.lay m 10 5 _ y0 f5 t0 w0
  obtain ⟨⟨x1, s1, _, r1⟩, _⟩ := trod_tree okP.lay m 10 3 _ y1 f3 t1 w1
  obtain ⟨⟨x2, s2, _, r2⟩, _⟩ := trod_tree okP.lay m 10 3 _ y2 f3 t2 w2
  obtain ⟨⟨x3, s3, _, r3⟩, _⟩ := trod_tree okP.lay m 10 57 _ y3 f57 t3 w3
  have split : cs.toList = (cs.toList.drop 0).take 1 ++ ((cs.toList.drop 1).take 1 ++ ((cs.toList.drop 2).take 1 ++ ((cs.toList.drop 3).take 5 ++ ((cs.toList.drop 8).take 1 ++ [])))) := by
    generalize cs.toList = l at hl
    match l, hl with
    | [c0, c1, c2, c3, c4, c5, c6, c7, c8], _ => rfl
  have whole : ∀ (ι : Names) (k : V), relC Pg ι k ((cs.toList.drop 8).take 1) → rel Pg ι (ev x0 x1 x2 x3 k) (.agg cs) := by
    intro ι k hk
    refine .inr ⟨rfl, ?_⟩
    show relCs Pg ι [x0, x1, x2, x3, k] cs.toList
    rw [split]
    exact relCs_cons (r0 ι) (relCs_cons (r1 ι) (relCs_cons (r2 ι) (relCs_cons (r3 ι) (relCs_cons hk (by simp [relCs])))))
  rcases DataW.trod_slice u71' t4 with ⟨hc, _⟩ | ⟨a, len, cap, elems, rest, n, rfl, hc, hy, _, hlc, hcm, hel, hcell4, hsp, _⟩
  · exact ⟨x0, x1, x2, x3, none, 0, AH0, [], fun _ => none, s0, s1, s2, s3, rfl, (fun p i h => by cases h), by simp, fits0 W, whole _ _ (by rw [hc]; simp [relC])⟩
  · have h8 : cs[8]? = some (.slice (some a) len cap) := by
      have : cs.toList[8]? = some (.slice (some a) len cap) := by
        have e := congrArg (fun l => l[0]?) hc
        simpa using e
      simpa using this
    obtain ⟨u, hu, hok⟩ := hcell 8 _ h8
    have hu' : u = 71 := by
      simp at hu
      exact hu.symm
    subst hu'
    simp only [Cell.okWide, u71', Cell.ok] at hok
    obtain ⟨_, _, hok⟩ := hok
    obtain ⟨_, hspot, row, cells, hshape, _⟩ := hok
    obtain ⟨c, elem, fr, hb⟩ : ∃ c elem fr, W.heap[a.block]? = some (.cells c elem fr) := by
      unfold World.shape? at hshape
      split at hshape
      · rename_i c elem fr hb; exact ⟨c, elem, fr, hb⟩
      · cases hshape
    obtain ⟨hr1, hr2⟩ := hsp rfl
    have hall : ∀ i, i < cap → ∃ b, c[a.off + i]? = some (.bool b) := by
      intro i hi
      by_cases hil : i < len
      · have e := hcell4 i hil
        rw [List.getElem?_eq_getElem (by omega)] at e
        exact one_bool hb hspot e
      · have e := hr2 (i - len) (by omega)
        rw [List.getElem?_eq_getElem (by omega), show len + (i - len) = i by omega] at e
        exact one_bool hb hspot e
    obtain ⟨bs, hbl, hbs⟩ := bools cap a.off hall
    have hlenw : len ≤ reachBytes := by
      have := w4 ((elems.length + rest.length) * Pg.bytesOf 4) (by rw [hy]; simp [DataW.weights, u71'])
      rw [bytes4] at this
      omega
    have hab : a = ⟨a.block, a.off, none⟩ := by cases a; simp at hspot; rw [hspot]
    -- where the row lies
    obtain ⟨off, hoff, hoff2⟩ : ∃ off, (0 < cap → off = a.off) ∧ (off + cap ≤ c.size ∧ (c.toList.drop off).take cap = bs.map Value.bool) := by
      by_cases h0 : cap = 0
      · refine ⟨0, fun h => by omega, by omega, ?_⟩
        have : bs = [] := List.length_eq_zero_iff.1 (by omega)
        rw [this, h0]; simp
      · refine ⟨a.off, fun _ => rfl, ?_, hbs⟩
        obtain ⟨b, hq⟩ := hall (cap - 1) (by omega)
        have := (Array.getElem?_eq_some_iff.1 hq).1
        omega
    have hobj : objR Pg (ι1 ⟨a.block, off, c.size, .row 4⟩) W ⟨a.block, off, c.size, .row 4⟩ (.cells false (.row 4) (.agg (bs.map V.bool))) := by
      refine ⟨rfl, shapes_bools bs, c.toList.take off, bs.map Value.bool, c.toList.drop (off + cap), elem, fr, ?_, by simp; omega, ?_, ?_, fun h => by cases h⟩
      · rw [← hoff2.2, hb]
        have : c.toList.take off ++ (c.toList.drop off).take cap ++ c.toList.drop (off + cap) = c.toList := by
          rw [List.append_assoc, ← List.drop_drop, List.take_append_drop, List.take_append_drop]
        rw [this]
      · simp; omega
      · simp only [relC]; exact relCs_bools _ bs
    refine ⟨x0, x1, x2, x3, some (⟨0, .row 4, []⟩, 0), len, h1 (bs.map V.bool), (bs.map V.bool).take len, ι1 ⟨a.block, off, c.size, .row 4⟩, s0, s1, s2, s3, ?_, ?_, ?_, fits1 hobj, whole _ _ ?_⟩
    · have hr : Go.Ab.rowAt Pg (.row 4) [] = some (0, 4) := rfl
      have hm : (h1 (bs.map V.bool)).m 0 = some (.cells false (.row 4) (.agg (bs.map V.bool))) := rfl
      simp only [aElems, hm, hr, getV, if_true]
      rw [if_pos ⟨trivial, by simp; omega⟩]
      simp
    · intro p i he
      simp only [Option.some.injEq, Prod.mk.injEq] at he
      obtain ⟨rfl, _⟩ := he
      exact Nat.zero_lt_one
    · simp; omega
    · rw [hc]
      simp only [relC]
      refine ⟨a, cap, hlc, ⟨_, rfl⟩, fun h0 => ⟨⟨a.block, off, c.size, .row 4⟩, 0, 4, rfl, rfl, rfl, ?_, ?_⟩, rfl⟩
      · rw [hab]; simp [hoff h0]
      · rw [cells4]; simp; omega
end Go.Proofs.YtcglbpjpbjaecaaGreat.Op
