import Derived.Test.YtdhlolcpcgpcnaaSb
import Derived.Test.YtdhlolcpcgpcnaaSa
import Derived.Test.YtdhlolcpcgpcnaaAbE
set_option linter.unusedVariables false
set_option linter.unusedSimpArgs false
namespace Go.Proofs.Ytdhlolcpcgpcnaa.Sh
open Go Go.Ab Go.RowKit
set_option linter.unusedSimpArgs false
set_option linter.unusedVariables false
set_option maxRecDepth 10000
theorem wrap8 (x : Int) : IntKind.u8.wrap x = x % 256 := rfl
theorem wrap64' (x : Int) : IntKind.u64.wrap x = x % 18446744073709551616 := rfl
theorem wrapU64_ge (x : Int) : 0 ≤ IntKind.u64.wrap x := by rw [wrap64']; omega
/-- The bytes of a number, the lowest first. -/
def lay : Nat → Int → List UInt8
  | 0, _ => []
  | n + 1, v => UInt8.ofNat (v % 256).toNat :: lay n (v / 256)
theorem rawF_eq {v : Int} (h : 0 ≤ v) : rawF v = UInt8.ofNat (v % 256).toNat := by
  unfold rawF
  rw [wrap8, Int.tmod_eq_emod_of_nonneg h]
  congr 2; omega
theorem nextF_eq {v : Int} (h : 0 ≤ v) (h2 : v < 18446744073709551616) : nextF v = v / 256 := by
  unfold nextF
  rw [wrap64', Int.tdiv_eq_ediv_of_nonneg h]
  omega
theorem rawE_eq (v : Int) : rawE v 0 = UInt8.ofNat (v % 256).toNat ∧ rawE v 1 = UInt8.ofNat (v / 256 % 256).toNat ∧ rawE v 2 = UInt8.ofNat (v / 256 / 256 % 256).toNat ∧ rawE v 3 = UInt8.ofNat (v / 256 / 256 / 256 % 256).toNat := by
  have e (i : Int) (n : Nat) (h : min (IntKind.i64.wrap (8 * i)).toNat 64 = n) : rawE v i = UInt8.ofNat (v / 2 ^ n % 256).toNat := by
    unfold rawE shrI
    rw [wrap8]
    have : IntKind.u64.bits = 64 := rfl
    rw [this, h]
  refine ⟨?_, ?_, ?_, ?_⟩
  · rw [e 0 0 (by decide)]; congr 2; simp
  · rw [e 1 8 (by decide)]; congr 2
  · rw [e 2 16 (by decide)]; congr 2; omega
  · rw [e 3 24 (by decide)]; congr 2; omega
theorem d22_2 (q : AEnd → Prop) (v : Int) (c : q (.ret (.str [rawE v 0, rawE v 1]))) : ACalls Pg 22 [.int .u64 v, .int .i64 2] AH0 fun e _ => q e :=
  acalls_vc okP Try.func22 (show Try.f22.body = some B22 from by kernel_rfl) .leaf N22 R22 rfl (by kernel_rfl) (by rw [ew22_2 q v]; exact c)
theorem d22_4 (q : AEnd → Prop) (v : Int) (c : q (.ret (.str [rawE v 0, rawE v 1, rawE v 2, rawE v 3]))) : ACalls Pg 22 [.int .u64 v, .int .i64 4] AH0 fun e _ => q e :=
  acalls_vc okP Try.func22 (show Try.f22.body = some B22 from by kernel_rfl) .leaf N22 R22 rfl (by kernel_rfl) (by rw [ew22_4 q v]; exact c)
theorem d23_2 (q : AEnd → Prop) (v : Int) (c : q (.ret (.str [rawF v, rawF (nextF v)]))) : ACalls Pg 23 [.int .u64 v, .int .i64 2] AH0 fun e _ => q e :=
  acalls_vc okP Try.func23 (show Try.f23.body = some B23 from by kernel_rfl) .leaf N23 R23 rfl (by kernel_rfl) (by rw [ew23_2 q v]; exact c)
theorem d23_4 (q : AEnd → Prop) (v : Int) (c : q (.ret (.str [rawF v, rawF (nextF v), rawF (nextF (nextF v)), rawF (nextF (nextF (nextF v)))]))) : ACalls Pg 23 [.int .u64 v, .int .i64 4] AH0 fun e _ => q e :=
  acalls_vc okP Try.func23 (show Try.f23.body = some B23 from by kernel_rfl) .leaf N23 R23 rfl (by kernel_rfl) (by rw [ew23_4 q v]; exact c)
theorem d38 (q : AEnd → Prop) (v : Int) (c : q (.ret (.str [UInt8.ofNat (IntKind.u8.wrap v).toNat]))) : ACalls Pg 38 [.int .i64 v] AH0 fun e _ => q e :=
  acalls_vc okP Try.func38 (show Try.f38.body = some B38 from by kernel_rfl) .leaf N38 R38 rfl (by kernel_rfl) (by rw [ew38 q v]; exact c)
theorem putA2 (v : Int) (h : AH) : ACalls Pg 22 [.int .u64 v, .int .i64 2] h (pureE (.str (lay 2 v)) h) := by
  refine pure_lift rfl rfl (d22_2 _ v ?_) h
  obtain ⟨h0, h1, _, _⟩ := rawE_eq v
  rw [h0, h1]; rfl
theorem putA4 (v : Int) (h : AH) : ACalls Pg 22 [.int .u64 v, .int .i64 4] h (pureE (.str (lay 4 v)) h) := by
  refine pure_lift rfl rfl (d22_4 _ v ?_) h
  obtain ⟨h0, h1, h2, h3⟩ := rawE_eq v
  rw [h0, h1, h2, h3]; rfl
theorem putB2 (v : Int) (h0 : 0 ≤ v) (h2 : v < 18446744073709551616) (h : AH) : ACalls Pg 23 [.int .u64 v, .int .i64 2] h (pureE (.str (lay 2 v)) h) := by
  refine pure_lift rfl rfl (d23_2 _ v ?_) h
  rw [nextF_eq h0 h2, rawF_eq h0, rawF_eq (by omega)]; rfl
theorem putB4 (v : Int) (h0 : 0 ≤ v) (h2 : v < 18446744073709551616) (h : AH) : ACalls Pg 23 [.int .u64 v, .int .i64 4] h (pureE (.str (lay 4 v)) h) := by
  refine pure_lift rfl rfl (d23_4 _ v ?_) h
  rw [nextF_eq h0 h2, nextF_eq (v := v / 256) (by omega) (by omega), nextF_eq (v := v / 256 / 256) (by omega) (by omega), rawF_eq h0, rawF_eq (v := v / 256) (by omega), rawF_eq (v := v / 256 / 256) (by omega), rawF_eq (v := v / 256 / 256 / 256) (by omega)]; rfl
def b1 (v : Int) : UInt8 := UInt8.ofNat (v % 256).toNat
theorem oneP (v : Int) (h : AH) : ACalls Pg 38 [.int .i64 v] h (pureE (.str [b1 v]) h) := by
  refine pure_lift rfl rfl (d38 _ v ?_) h
  rw [wrap8]; rfl
end Go.Proofs.Ytdhlolcpcgpcnaa.Sh
namespace Go.Proofs.Ytdhlolcpcgpcnaa.Sh
open Go Go.Ab Go.RowKit
set_option linter.unusedSimpArgs false
set_option linter.unusedVariables false
set_option maxRecDepth 10000
theorem bs1 (h : AH) (x : Int) : aBuildSlice Pg h 67 1 [(0, .int .u8 x)] = some (.slc (some (⟨h.next, .row 5, []⟩, 0)) 1, h.make (.cells true (.row 5) (.agg [.int .u8 x]))) := by kernel_rfl
theorem bs1c (x : Int) : aConv Pg (AH0.make (.cells true (.row 5) (.agg [.int .u8 x]))) 67 9 (.slc (some (⟨AH0.next, .row 5, []⟩, 0)) 1) = some (.str [UInt8.ofNat x.toNat]) := by kernel_rfl
theorem lit1 (x : Int) : litConv Pg 67 1 [(0, .int .u8 x)] 67 9 = some (.str [UInt8.ofNat x.toNat]) := by kernel_rfl
theorem shortC (s : List UInt8) (hs : s.length < 1000000) (q : AEnd → Prop) (c : q (.ret (.str (b1 s.length :: s)))) : ACalls Pg 35 [.str s] AH0 fun e _ => q e := by
  refine C35 _ _ AH0 ?_
  refine bindV_mk (len_str (by kernel_rfl)) ?_
  refine bindS_mk (cv_int .u8 (by kernel_rfl)) ?_
  refine bindV_mk (bs1 _ _) ?_
  refine bindS_mk (bs1c _) ?_
  refine bindS_mk (t_add (by simp only [List.length_singleton]; omega)) ?_
  rw [wrap8]
  exact c
theorem shortP (s : List UInt8) (hs : s.length < 1000000) (h : AH) : ACalls Pg 35 [.str s] h (pureE (.str (b1 s.length :: s)) h) := pure_lift rfl rfl (shortC s hs _ rfl) h
theorem shRef (p s : Int) : hasShape Pg (vRef p s) 47 = true := by kernel_rfl
theorem refC (p s : Int) (q : AEnd → Prop) (c : q (.ret (.str (lay 2 (IntKind.u64.wrap p) ++ [UInt8.ofNat s.toNat])))) : ACalls Pg 36 [vRef p s] AH0 fun e _ => q e := by
  refine C36 _ _ AH0 ?_
  refine bindV_mk (new_mk (shRef p s)) ?_
  refine bindSO_mk (fa_mk (by kernel_rfl)) ?_
  refine bindVO_mk (ld_mk rfl (by kernel_rfl) rfl) ?_
  refine bindSO_mk (cv_int .u64 (by kernel_rfl)) ?_
  refine ⟨_, putA2 _ _, ?_⟩
  refine bindSO_mk (fa_mk (by kernel_rfl)) ?_
  refine bindVO_mk (ld_mk rfl (by kernel_rfl) rfl) ?_
  refine bindO_mk' (lit1 _) ?_
  refine bindSO_mk (t_add (by simp [lay])) ?_
  exact c
theorem refP (p s : Int) (h : AH) : ACalls Pg 36 [vRef p s] h (pureE (.str (lay 2 (IntKind.u64.wrap p) ++ [UInt8.ofNat s.toNat])) h) := pure_lift rfl rfl (refC p s _ rfl) h
end Go.Proofs.Ytdhlolcpcgpcnaa.Sh
namespace Go.Proofs.Ytdhlolcpcgpcnaa.Sh
open Go Go.Ab Go.RowKit
set_option linter.unusedSimpArgs false
set_option linter.unusedVariables false
set_option maxRecDepth 10000
/-- How many bytes of an image are left without the noughts at its end. -/
def trimTo (im : List Int) : Nat → Nat
  | 0 => 0
  | n + 1 => if im.getD n 0 = 0 then trimTo im n else n + 1
theorem trimTo_le (im : List Int) : ∀ n, trimTo im n ≤ n
  | 0 => Nat.le_refl _
  | n + 1 => by
    simp only [trimTo]
    split
    · have := trimTo_le im n; omega
    · omega
theorem ia44 (n : Nat) (i : Int) : aIndexAddr Pg 44 (.ptr (some ⟨n, .one 51, [2]⟩)) (.int .i64 i) = (if (decide (0 ≤ i ∧ i < 224)) = true then some (.ptr (some ⟨n, .one 51, [2, i.toNat]⟩)) else none) := by kernel_rfl
theorem ld44 (k : Nat) : ldOk Pg (.one 51) [2, k] 5 = true := by kernel_rfl
theorem getIm (r : Rc) (k : Nat) (hk : k < r.im.length) : getV r.v [2, k] = some (.int .u8 (r.im.getD k 0)) := by
  have e : getV r.v [2, k] = match (r.im.map (V.int .u8))[k]? with | some x => getV x [] | none => none := rfl
  rw [e, List.getElem?_map, List.getElem?_eq_getElem hk, List.getD_eq_getElem?_getD, List.getElem?_eq_getElem hk]
  rfl
end Go.Proofs.Ytdhlolcpcgpcnaa.Sh
namespace Go.Proofs.Ytdhlolcpcgpcnaa.Sh
open Go Go.Ab Go.RowKit
set_option linter.unusedSimpArgs false
set_option linter.unusedVariables false
set_option maxRecDepth 10000
set_option maxHeartbeats 1000000
abbrev p0 : V := .ptr (some ⟨AH0.next, .one 51, []⟩)
abbrev h1 (r : Rc) : AH := AH0.make (.cells true (.one 51) r.v)
theorem loop29 (r : Rc) (hi : r.im.length = 224) (Q : AEnd → AH → Prop) (x4 x5 : V) (h : AH) (hm : h.m AH0.next = some (.cells true (.one 51) r.v)) : ∀ (k n : Nat), k ≤ 224 → k < n →
    J29_111110101011 Q p0 x4 x5 (.int .i64 (trimTo r.im k)) h → L29_1111101010100 Q n p0 x4 x5 (.int .i64 k) h := by
  intro k
  induction k with
  | zero =>
    intro n _ hn c
    obtain ⟨n, rfl⟩ : ∃ m, n = m + 1 := ⟨n - 1, by omega⟩
    rw [L29_1111101010100_eq]
    refine bindS_mk b_gtr ?_
    refine g_split_t (fun hb => by simp at hb) (fun hb => ?_)
    rw [hb]
    refine Meet.of (cast_p (G29_11111010101000001002_eq _ _ _ _ _ _ _ _ _) ?_)
    refine bindV_mk p_f ?_
    refine Meet.of (cast_p (J29_1111101010100001_eq _ _ _ _ _ _ _ _) ?_)
    refine i_f ?_
    exact Meet.of c
  | succ k ih =>
    intro n hk hn c
    obtain ⟨n, rfl⟩ : ∃ m, n = m + 1 := ⟨n - 1, by omega⟩
    rw [L29_1111101010100_eq]
    refine bindS_mk b_gtr ?_
    have hg : decide (((k + 1 : Nat) : Int) > 0) = true := by rw [decide_eq_true_eq]; omega
    rw [hg]
    refine g_tt ?_
    refine bindS_mk b_sub ?_
    have hw : IntKind.i64.wrap (((k + 1 : Nat) : Int) - 1) = (k : Int) := by
      have e : ∀ x : Int, IntKind.i64.wrap x = (if (true && decide (x % 18446744073709551616 ≥ 9223372036854775808)) = true then x % 18446744073709551616 - 18446744073709551616 else x % 18446744073709551616) := fun _ => rfl
      rw [e, Bool.true_and]
      rw [if_neg (by rw [decide_eq_true_eq]; omega)]
      omega
    rw [hw]
    refine bindS_mk (fa_mk (by kernel_rfl)) ?_
    refine bindS_mk ((ia44 _ _).trans (if_pos (by simp; omega))) ?_
    refine bindV_mk (ld_mk (v := r.v) hm (ld44 _) (getIm r _ (by rw [hi]; simp; omega))) ?_
    refine bindS_mk b_eql ?_
    refine Meet.of (cast_p (G29_11111010101000001002_eq _ _ _ _ _ _ _ _ _) ?_)
    refine bindV_mk p_t ?_
    refine Meet.of (cast_p (J29_1111101010100001_eq _ _ _ _ _ _ _ _) ?_)
    refine i_split (fun hb => ?_) (fun hb => ?_)
    · refine Meet.of (cast_p (J29_111110101010001_eq _ _ _ _ _ _ _) ?_)
      refine bindS_mk b_sub ?_
      rw [hw]
      refine Meet.of (ih n (by omega) (by omega) ?_)
      have h0 : r.im.getD k 0 = 0 := by simpa using hb
      simp only [trimTo, h0, if_true] at c
      exact c
    · have h0 : ¬ r.im.getD k 0 = 0 := by simpa using hb
      simp only [trimTo, h0, if_false] at c
      exact Meet.of c
end Go.Proofs.Ytdhlolcpcgpcnaa.Sh
namespace Go.Proofs.Ytdhlolcpcgpcnaa.Sh
open Go Go.Ab Go.RowKit
set_option linter.unusedSimpArgs false
set_option linter.unusedVariables false
set_option maxRecDepth 10000

/-- Ranges of a record's fields. -/
structure Rc.ok (r : Rc) : Prop where
  im : r.im.length = 224
  imb : ∀ x ∈ r.im, 0 ≤ x ∧ x < 256
  k : 0 ≤ r.k ∧ r.k < 256
  no : 0 ≤ r.no ∧ r.no < 65536
  ts : 0 ≤ r.ts ∧ r.ts < 4294967296
  pp : 0 ≤ r.pp ∧ r.pp < 65536
  ps : 0 ≤ r.ps ∧ r.ps < 256
  dl : r.dl.length < 140737488355328
  sl : 0 ≤ r.sl ∧ r.sl < 256
  op : 0 ≤ r.op ∧ r.op < 65536
  ots : 0 ≤ r.ots ∧ r.ots < 4294967296
  onp : 0 ≤ r.onp ∧ r.onp < 65536
  ons : 0 ≤ r.ons ∧ r.ons < 256
  od : r.od.length < 140737488355328
def c1 (x : Int) : UInt8 := UInt8.ofNat x.toNat
def imB (l : List Int) : List UInt8 := l.map c1
/-- A record's bytes, by its kind. -/
def Rc.enc (r : Rc) : List UInt8 :=
  if r.k = 1 then c1 r.k :: (if r.undo then 1 else 0) :: (lay 2 r.no ++ c1 (trimTo r.im 224) :: imB (r.im.take (trimTo r.im 224)))
  else if r.k = 2 then c1 r.k :: (lay 2 r.no ++ (lay 4 r.ts ++ (lay 2 r.pp ++ c1 r.ps :: c1 r.dl.length :: r.dl)))
  else if r.k = 3 then c1 r.k :: (lay 2 r.no ++ c1 r.sl :: (lay 2 r.op ++ (lay 4 r.ots ++ (lay 2 r.onp ++ c1 r.ons :: c1 r.od.length :: r.od))))
  else if r.k = 6 then c1 r.k :: lay 4 r.ts
  else c1 r.k :: (lay 2 r.no ++ [c1 r.sl])
theorem w64 {x : Int} (h : 0 ≤ x) (h2 : x < 18446744073709551616) : IntKind.u64.wrap x = x := by rw [wrap_u64]; omega
theorem wi64 {x : Int} (h : 0 ≤ x) (h2 : x < 9223372036854775808) : IntKind.i64.wrap x = x := wrap_i64 (by omega) h2
theorem b1_c1 {x : Int} (h : 0 ≤ x) (h2 : x < 256) : b1 x = c1 x := by unfold b1 c1; congr 2; omega
theorem lay_len : ∀ (n : Nat) (v : Int), (lay n v).length = n
  | 0, _ => rfl
  | n + 1, v => by simp [lay, lay_len n]
theorem bsc (h : AH) (n : Nat) (x : Int) (hm : h.m n = some (.cells true (.row 5) (.agg [.int .u8 x]))) : aConv Pg h 67 9 (.slc (some (⟨n, .row 5, []⟩, 0)) 1) = some (.str [c1 x]) := by
  have b : Buf 5 h (.slc (some (⟨n, .row 5, []⟩, 0)) 1) [x] ∨ ¬ n < h.next := by
    by_cases hn : n < h.next
    · exact .inl (.inr ⟨n, hn, rfl, hm⟩)
    · exact .inr hn
  have e0 : aConv Pg h 67 9 (.slc (some (⟨n, .row 5, []⟩, 0)) 1) = (match aElems Pg h 5 (.slc (some (⟨n, .row 5, []⟩, 0)) 1) with | some es => (match toBytes es with | some s => some (.str s) | none => none) | none => none) := by kernel_rfl
  have e1 := elems_row (P := Pg) hm
  simp only [List.length_singleton] at e1
  rw [e0, e1]; rfl
theorem slIm (h : AH) (n k : Nat) (r : Rc) (hi : r.im.length = 224) (hk : k ≤ 224) (hm : h.m n = some (.cells true (.one 51) r.v)) : aSlice Pg h 44 (.ptr (some ⟨n, .one 51, [2]⟩)) none (some (.int .i64 (k : Int))) = some (.slc (some (⟨n, .one 51, [2]⟩, 0)) k) := by
  have e0 : ∀ o, aSlice Pg h 44 (.ptr (some ⟨n, .one 51, [2]⟩)) none (some o) = match h.m n with
    | some (.cells _ ty v) => (match layB Pg ty [2], getV v [2], bnd none 0, bnd (some o) 224 with
        | some (_, u), some (.agg _), some l, some k => if ty = .one 51 ∧ l ≤ k ∧ k ≤ 224 ∧ (ul Pg 5).isSome ∧ isArr Pg u 224 5 then some (.slc (some (⟨n, .one 51, [2]⟩, l)) (k - l)) else none
        | _, _, _, _ => none)
    | _ => none := fun o => by kernel_rfl
  rw [e0, hm]
  have e1 : layB Pg (.one 51) [2] = some (3, 44) := ly51_2
  have e2 : getV r.v [2] = some (.agg (r.im.map (V.int .u8))) := rfl
  have e3 : bnd none 0 = some 0 := rfl
  have e4 : bnd (some (.int .i64 (k : Int))) 224 = some k := by simp [bnd]
  have e5 : isArr Pg 44 224 5 = true := by kernel_rfl
  have e6 : (ul Pg 5).isSome = true := by kernel_rfl
  simp only [e1, e2, e3, e4, e5, e6, hk, Nat.zero_le, and_self, if_true, Nat.sub_zero]
theorem cvIm (h : AH) (n k : Nat) (r : Rc) (hi : r.im.length = 224) (hk : k ≤ 224) (hm : h.m n = some (.cells true (.one 51) r.v)) : aConv Pg h 67 9 (.slc (some (⟨n, .one 51, [2]⟩, 0)) k) = some (.str (imB (r.im.take k))) := by
  have e0 : aConv Pg h 67 9 (.slc (some (⟨n, .one 51, [2]⟩, 0)) k) = (match aElems Pg h 5 (.slc (some (⟨n, .one 51, [2]⟩, 0)) k) with | some es => (match toBytes es with | some s => some (.str s) | none => none) | none => none) := by kernel_rfl
  have e1 : Ab.rowAt Pg (.one 51) [2] = some (3, 5) := by kernel_rfl
  have e2 : getV r.v [2] = some (.agg (r.im.map (V.int .u8))) := rfl
  have e3 : aElems Pg h 5 (.slc (some (⟨n, .one 51, [2]⟩, 0)) k) = some ((r.im.take k).map (V.int .u8)) := by
    simp only [aElems, hm, e1, e2, if_true, Nat.zero_add, List.length_map, hi, hk, and_self, List.drop_zero, List.map_take]
  rw [e0, e3]
  simp only [toBytes_map]
  rfl
theorem p51 (h : AH) (n : Nat) : aLoadV Pg h 51 (.ptr (some ⟨n, .one 51, []⟩)) = aLoadV Pg h 51 (.ptr (some ⟨n, .one 51, []⟩)) := rfl
theorem conv2 {q : AEnd → Prop} {a b : List UInt8} {x : V} (c : q (.ret (.tup [.str a, x]))) (e : a = b) : q (.ret (.tup [.str b, x])) := e ▸ c
end Go.Proofs.Ytdhlolcpcgpcnaa.Sh
namespace Go.Proofs.Ytdhlolcpcgpcnaa.Sh
open Go Go.Ab Go.RowKit
set_option linter.unusedSimpArgs false
set_option linter.unusedVariables false
set_option maxRecDepth 10000
set_option maxHeartbeats 2000000
theorem tail29 (r : Rc) (o : r.ok) (k : Nat) (hk : k ≤ 224) (q : AEnd → Prop) (a b : List UInt8) (ha : a.length < 1000) (hb : b.length < 1000) (h : AH) (hm : h.m AH0.next = some (.cells true (.one 51) r.v))
    (c : q (.ret (.tup [.str (a ++ (if r.undo then 1 else 0) :: (b ++ b1 k :: imB (r.im.take k))), .int .i64 0]))) : J29_111110101011 (fun e _ => q e) p0 (.str a) (.str b) (.int .i64 (k : Int)) h := by
  have hl : (imB (r.im.take k)).length = k := by
    have := o.im
    simp only [imB, List.length_map, List.length_take]; omega
  rw [J29_111110101011_eq]
  refine bindS_mk (fa_mk (by kernel_rfl)) ?_
  refine bindS_mk (fa_mk (by kernel_rfl)) ?_
  refine bindV_mk (ld_mk hm (by kernel_rfl) (by with_unfolding_all exact rfl)) ?_
  have fin : ∀ u : UInt8, q (.ret (.tup [.str (a ++ u :: (b ++ b1 k :: imB (r.im.take k))), .int .i64 0])) → J29_11111010101111 (fun e _ => q e) p0 (.str a) (.str b) (.int .i64 (k : Int)) (.str [u]) h := by
    intro u c
    rw [J29_11111010101111_eq]
    refine bindS_mk (t_add (by simp only [List.length_singleton]; omega)) ?_
    refine bindS_mk (t_add (by simp only [List.length_append, List.length_singleton]; omega)) ?_
    refine bindS_mk (fa_mk (by kernel_rfl)) ?_
    refine bindS_mk (slIm _ _ _ r o.im hk hm) ?_
    refine bindS_mk (cvIm _ _ _ r o.im hk hm) ?_
    refine call_mk (shortP _ (by omega) _) ?_
    refine bindS_mk (t_add (by simp only [List.length_append, List.length_singleton, List.length_cons, List.length_nil]; omega)) ?_
    rw [hl]
    refine conv2 c ?_
    simp only [List.append_assoc, List.singleton_append, List.cons_append, List.nil_append]
  refine i_split (fun hu => ?_) (fun hu => ?_)
  · refine Meet.of (fin 1 ?_)
    rw [hu] at c
    exact c
  · refine Meet.of (fin 0 ?_)
    rw [hu] at c
    exact c
def encRes (r : Rc) : V := if r.may = true then .tup [.str r.enc, .int .i64 0] else .tup [.str [], .int .i64 1]
theorem encC (r : Rc) (o : r.ok) (q : AEnd → Prop) (c : q (.ret (encRes r))) : ACalls Pg 29 [r.v] AH0 fun e _ => q e := by
  have hi := o.im
  refine C29 _ r.v AH0 ?_
  refine bindV_mk (new_mk (shR _ hi)) ?_
  refine bindV_mk (ld_mk (by with_unfolding_all exact rfl) (by kernel_rfl) (by with_unfolding_all exact rfl)) ?_
  refine call_mk (mayP _ hi _) ?_
  refine bindS_mk u_not ?_
  refine i_split (fun hb => ?_) (fun hb => ?_)
  · have hm := not_f hb
    unfold encRes at c
    rw [if_neg (by rw [hm]; decide)] at c
    exact c
  have hm := not_t hb
  unfold encRes at c
  rw [if_pos hm] at c
  have hd : r.dl.length ≤ 66 ∧ r.od.length ≤ 66 ∧ r.k ≥ 1 ∧ r.k ≤ 6 := by
    unfold Rc.may at hm
    simp only [Bool.and_eq_true, decide_eq_true_eq] at hm
    omega
  obtain ⟨hd1, hd2, hk1, hk6⟩ := hd
  refine Meet.of (cast_p (J29_11_eq _ _ _) ?_)
  have wno : IntKind.u64.wrap r.no = r.no := w64 o.no.1 (by have := o.no.2; omega)
  have wts : IntKind.u64.wrap r.ts = r.ts := w64 o.ts.1 (by have := o.ts.2; omega)
  have wpp : IntKind.u64.wrap r.pp = r.pp := w64 o.pp.1 (by have := o.pp.2; omega)
  have wop : IntKind.u64.wrap r.op = r.op := w64 o.op.1 (by have := o.op.2; omega)
  have wot : IntKind.u64.wrap r.ots = r.ots := w64 o.ots.1 (by have := o.ots.2; omega)
  have bd : b1 (r.dl.length : Int) = c1 r.dl.length := b1_c1 (by omega) (by omega)
  have bo : b1 (r.od.length : Int) = c1 r.od.length := b1_c1 (by omega) (by omega)
  have bt : b1 (trimTo r.im 224 : Int) = c1 (trimTo r.im 224) := by
    have := trimTo_le r.im 224
    exact b1_c1 (by omega) (by omega)
  have uc : ∀ x : Int, UInt8.ofNat x.toNat = c1 x := fun _ => rfl
  have won : IntKind.u64.wrap r.onp = r.onp := w64 o.onp.1 (by have := o.onp.2; omega)
  repeat' (first
    | (with_reducible refine call_mk (mayP _ hi _) ?_)
    | (with_reducible refine call_mk (putA2 _ _) ?_)
    | (with_reducible refine call_mk (putA4 _ _) ?_)
    | (with_reducible refine ⟨_, putA2 _ _, ?_⟩)
    | (with_reducible refine ⟨_, putA4 _ _, ?_⟩)
    | (with_reducible refine ⟨_, refP _ _ _, ?_⟩)
    | (with_reducible refine ⟨_, shortP _ (by omega) _, ?_⟩)
    | (with_reducible refine call_mk (shortP _ (by omega) _) ?_)
    | (with_reducible refine bindO_mk' (lit1 _) ?_)
    | (with_reducible refine bindV_mk (bs1 _ _) ?_)
    | (with_reducible refine bindS_mk (bsc _ _ _ (by with_unfolding_all exact rfl)) ?_)
    | (with_reducible refine bindS_mk (t_add (by simp only [List.length_append, List.length_cons, List.length_nil, lay_len, imB, List.length_map, List.length_take]; omega)) ?_)
    | (with_reducible refine bindSO_mk (t_add (by simp only [List.length_append, List.length_cons, List.length_nil, lay_len, imB, List.length_map, List.length_take]; omega)) ?_)
    | (refine ⟨225, Meet.of (loop29 r hi _ _ _ _ (by with_unfolding_all exact rfl) 224 225 (by decide) (by decide) (tail29 r o _ (trimTo_le _ _) q _ _ (by simp) (by simp [lay_len]) _ (by with_unfolding_all exact rfl) ?_))⟩)
    | (with_reducible refine bindS_mk (fa_mk (by kernel_rfl)) ?_)
    | (with_reducible refine bindSO_mk (fa_mk (by kernel_rfl)) ?_)
    | (with_reducible refine bindV_mk (ld_mk (by with_unfolding_all exact rfl) (by kernel_rfl) (by with_unfolding_all exact rfl)) ?_)
    | (with_reducible refine bindVO_mk (ld_mk (by with_unfolding_all exact rfl) (by kernel_rfl) (by with_unfolding_all exact rfl)) ?_)
    | (with_reducible refine bindV_mk (st_mk (by with_unfolding_all exact rfl) (by kernel_rfl) (by with_unfolding_all exact rfl) (by kernel_rfl) (by with_unfolding_all exact rfl)) ?_)
    | (with_reducible refine bindS_mk b_add ?_)
    | (with_reducible refine bindSO_mk b_add ?_)
    | (with_reducible refine bindS_mk b_sub ?_)
    | (with_reducible refine bindSO_mk b_sub ?_)
    | (with_reducible refine bindS_mk b_mul ?_)
    | (with_reducible refine bindSO_mk b_mul ?_)
    | (with_reducible refine bindS_mk b_eql ?_)
    | (with_reducible refine bindSO_mk b_eql ?_)
    | (with_reducible refine bindS_mk b_neq ?_)
    | (with_reducible refine bindSO_mk b_neq ?_)
    | (with_reducible refine bindS_mk b_lss ?_)
    | (with_reducible refine bindSO_mk b_lss ?_)
    | (with_reducible refine bindS_mk b_leq ?_)
    | (with_reducible refine bindSO_mk b_leq ?_)
    | (with_reducible refine bindS_mk b_gtr ?_)
    | (with_reducible refine bindSO_mk b_gtr ?_)
    | (with_reducible refine bindS_mk b_geq ?_)
    | (with_reducible refine bindSO_mk b_geq ?_)
    | (with_reducible refine bindS_mk t_eql ?_)
    | (with_reducible refine bindSO_mk t_eql ?_)
    | (with_reducible refine bindS_mk t_neq ?_)
    | (with_reducible refine bindSO_mk t_neq ?_)
    | (with_reducible refine bindS_mk u_not ?_)
    | (with_reducible refine bindSO_mk u_not ?_)
    | (with_reducible refine bindS_mk (b_quo (by decide)) ?_)
    | (with_reducible refine bindS_mk (b_rem (by decide)) ?_)
    | (with_reducible refine bindS_mk (cv_int (d := 22) .u64 (by kernel_rfl)) ?_)
    | (with_reducible refine bindSO_mk (cv_int (d := 22) .u64 (by kernel_rfl)) ?_)
    | (with_reducible refine bindS_mk (cv_int (d := 3) .i64 (by kernel_rfl)) ?_)
    | (with_reducible refine bindSO_mk (cv_int (d := 3) .i64 (by kernel_rfl)) ?_)
    | (with_reducible refine bindS_mk (cv_int (d := 2) .i64 (by kernel_rfl)) ?_)
    | (with_reducible refine bindSO_mk (cv_int (d := 2) .i64 (by kernel_rfl)) ?_)
    | (with_reducible refine bindS_mk (cv_int (d := 5) .u8 (by kernel_rfl)) ?_)
    | (with_reducible refine bindSO_mk (cv_int (d := 5) .u8 (by kernel_rfl)) ?_)
    | (with_reducible refine bindS_mk (cv_int (d := 40) .u16 (by kernel_rfl)) ?_)
    | (with_reducible refine bindSO_mk (cv_int (d := 40) .u16 (by kernel_rfl)) ?_)
    | (with_reducible refine bindS_mk (cv_int (d := 45) .u32 (by kernel_rfl)) ?_)
    | (with_reducible refine bindSO_mk (cv_int (d := 45) .u32 (by kernel_rfl)) ?_)
    | (with_reducible refine bindV_mk (len_str (by kernel_rfl)) ?_)
    | (with_reducible refine bindVO_mk (len_str (by kernel_rfl)) ?_)
    | (with_reducible refine bindV_mk p_t ?_)
    | (with_reducible refine bindVO_mk p_t ?_)
    | (with_reducible refine bindV_mk p_f ?_)
    | (with_reducible refine bindVO_mk p_f ?_)
    | (with_reducible refine bindV_mk (pick_b _ _ _ _) ?_)
    | (with_reducible refine bindVO_mk (pick_b _ _ _ _) ?_)
    | (with_reducible refine g_tt ?_)
    | (with_reducible refine g_ft ?_)
    | (with_reducible refine g_tf ?_)
    | (with_reducible refine g_ff ?_)
    | (with_reducible refine g_hole ?_)
    | (with_reducible refine i_t ?_)
    | (with_reducible refine i_f ?_)
    | ((with_reducible refine i_split ?_ ?_) <;> intro hb <;> (try rw [hb]))
    | ((with_reducible refine g_split_t ?_ ?_) <;> intro hb <;> (try rw [hb]))
    | ((with_reducible refine g_split_f ?_ ?_) <;> intro hb <;> (try rw [hb]))
    | (with_reducible refine Meet.of (cast_p (J29_111110101010001_eq _ _ _ _ _ _ _) ?_))
    | (with_reducible refine Meet.of (cast_p (J29_11111010101111_eq _ _ _ _ _ _ _) ?_))
    | (with_reducible refine Meet.of (cast_p (J29_111110101011_eq _ _ _ _ _ _) ?_))
    | (with_reducible refine Meet.of (cast_p (J29_1111101010100001_eq _ _ _ _ _ _ _ _) ?_))
    | (with_reducible refine Meet.of (cast_p (G29_11111010101000001002_eq _ _ _ _ _ _ _ _ _) ?_))
    | (with_reducible refine Meet.of (cast_p (J29_111111_eq _ _ _ _ _) ?_))
    | (with_reducible refine Meet.of (cast_p (J29_11_eq _ _ _) ?_))
    )
  all_goals (
    simp only [beq_iff_eq, beq_eq_false_iff_ne, ne_eq] at *
    refine conv2 c ?_
    unfold Rc.enc
    repeat (first | rw [if_pos (by assumption)] | rw [if_neg (by assumption)])
    simp only [wno, wts, wpp, wop, wot, won, bd, bo, bt, uc, List.append_assoc, List.singleton_append, List.cons_append, List.nil_append])
theorem encP (r : Rc) (o : r.ok) (h : AH) : ACalls Pg 29 [r.v] h (pureE (encRes r) h) := by
  refine pure_lift (flat_args r) ?_ (encC r o (fun e => e = .ret (encRes r)) rfl) h
  unfold encRes
  split <;> rfl
end Go.Proofs.Ytdhlolcpcgpcnaa.Sh
namespace Go.Proofs.Ytdhlolcpcgpcnaa.Sh
open Go Go.Ab Go.RowKit
set_option linter.unusedSimpArgs false
set_option linter.unusedVariables false
set_option maxRecDepth 10000
set_option maxHeartbeats 2000000
theorem wrapU64_lt (x : Int) : IntKind.u64.wrap x < 18446744073709551616 := by rw [wrap_u64]; omega
theorem loop30 (r : Rc) (hi : r.im.length = 224) (Q : AEnd → AH → Prop) (x4 : V) (h : AH) (hm : h.m AH0.next = some (.cells true (.one 51) r.v)) (c : J30_111110101011 Q p0 x4 (.int .i64 (trimTo r.im 224)) h) : ∀ (m i n : Nat), i + m = 224 → m < n →
    L30_11111010101010 Q n p0 x4 (.int .i64 (trimTo r.im i)) (.int .i64 (i : Int)) h
  | m, i, 0, _, hn => absurd hn (by omega)
  | 0, i, n + 1, hj, _ => by
    obtain rfl : i = 224 := by omega
    rw [L30_11111010101010_eq]
    refine bindS_mk (b_lss_f (by omega)) ?_
    exact i_f (Meet.of c)
  | m + 1, i, n + 1, hj, hn => by
    rw [L30_11111010101010_eq]
    refine bindS_mk (b_lss_t (by omega)) ?_
    refine i_t ?_
    refine Meet.of (cast_p (J30_1111101010101001_eq _ _ _ _ _ _ _) ?_)
    refine bindS_mk (fa_mk (by kernel_rfl)) ?_
    refine bindS_mk ((ia44 _ _).trans (if_pos (by simp; omega))) ?_
    rw [Int.toNat_natCast]
    refine bindV_mk (ld_mk (v := r.v) hm (ld44 _) (getIm r _ (by rw [hi]; omega))) ?_
    have tl := trimTo_le r.im i
    have e : trimTo r.im (i + 1) = if r.im.getD i 0 = 0 then trimTo r.im i else i + 1 := rfl
    by_cases h0 : r.im.getD i 0 = 0
    · refine bindS_mk (b_neq_f h0) ?_
      refine i_f ?_
      refine Meet.of (cast_p (J30_11111010101010011_eq _ _ _ _ _ _ _) ?_)
      refine bindS_mk (c_inc (by omega)) ?_
      have ih := loop30 r hi Q x4 h hm c m (i + 1) n (by omega) (by omega)
      rw [e, if_pos h0] at ih
      exact Meet.of ih
    · refine bindS_mk (b_neq_t h0) ?_
      refine i_t ?_
      refine bindS_mk (c_inc (by omega)) ?_
      refine Meet.of (cast_p (J30_11111010101010011_eq _ _ _ _ _ _ _) ?_)
      refine bindS_mk (c_inc (by omega)) ?_
      have ih := loop30 r hi Q x4 h hm c m (i + 1) n (by omega) (by omega)
      rw [e, if_neg h0] at ih
      exact Meet.of ih
theorem tail30 (r : Rc) (o : r.ok) (k : Nat) (hk : k ≤ 224) (q : AEnd → Prop) (a : List UInt8) (ha : a.length < 1000) (h : AH) (hm : h.m AH0.next = some (.cells true (.one 51) r.v))
    (c : q (.ret (.tup [.str (a ++ b1 k :: imB (r.im.take k)), .bool true]))) : J30_111110101011 (fun e _ => q e) p0 (.str a) (.int .i64 (k : Int)) h := by
  have hl : (imB (r.im.take k)).length = k := by
    have := o.im
    simp only [imB, List.length_map, List.length_take]; omega
  rw [J30_111110101011_eq]
  refine ⟨_, oneP _ _, ?_⟩
  refine bindSO_mk (fa_mk (by kernel_rfl)) ?_
  refine bindSO_mk (slIm _ _ _ r o.im hk hm) ?_
  refine bindSO_mk (cvIm _ _ _ r o.im hk hm) ?_
  refine bindSO_mk (t_add (by simp only [List.length_singleton]; omega)) ?_
  refine bindSO_mk (t_add (by simp only [List.length_append, List.length_singleton]; omega)) ?_
  refine Meet.of (cast_p (J30_111111_eq _ _ _) ?_)
  exact c
def encResR (r : Rc) : V := if r.may = true then .tup [.str r.enc, .bool true] else .tup [.str [], .bool false]
theorem encRC (r : Rc) (o : r.ok) (q : AEnd → Prop) (c : q (.ret (encResR r))) : ACalls Pg 30 [r.v] AH0 fun e _ => q e := by
  have hi := o.im
  refine C30 _ r.v AH0 ?_
  refine bindV_mk (new_mk (shR _ hi)) ?_
  refine bindV_mk (ld_mk (by with_unfolding_all exact rfl) (by kernel_rfl) (by with_unfolding_all exact rfl)) ?_
  refine call_mk (mayRP _ hi _) ?_
  refine bindS_mk u_not ?_
  refine i_split (fun hb => ?_) (fun hb => ?_)
  · have hm := not_f hb
    unfold encResR at c
    rw [if_neg (by rw [hm]; decide)] at c
    exact c
  have hm := not_t hb
  unfold encResR at c
  rw [if_pos hm] at c
  have hd : r.dl.length ≤ 66 ∧ r.od.length ≤ 66 ∧ r.k ≥ 1 ∧ r.k ≤ 6 := by
    unfold Rc.may at hm
    simp only [Bool.and_eq_true, decide_eq_true_eq] at hm
    omega
  obtain ⟨hd1, hd2, hk1, hk6⟩ := hd
  refine Meet.of (cast_p (J30_11_eq _ _ _) ?_)
  have wno : IntKind.u64.wrap r.no = r.no := w64 o.no.1 (by have := o.no.2; omega)
  have wts : IntKind.u64.wrap r.ts = r.ts := w64 o.ts.1 (by have := o.ts.2; omega)
  have wpp : IntKind.u64.wrap r.pp = r.pp := w64 o.pp.1 (by have := o.pp.2; omega)
  have wop : IntKind.u64.wrap r.op = r.op := w64 o.op.1 (by have := o.op.2; omega)
  have wot : IntKind.u64.wrap r.ots = r.ots := w64 o.ots.1 (by have := o.ots.2; omega)
  have won : IntKind.u64.wrap r.onp = r.onp := w64 o.onp.1 (by have := o.onp.2; omega)
  have wk : b1 (IntKind.i64.wrap r.k) = c1 r.k := by rw [wi64 o.k.1 (by have := o.k.2; omega)]; exact b1_c1 o.k.1 o.k.2
  have wps : b1 (IntKind.i64.wrap r.ps) = c1 r.ps := by rw [wi64 o.ps.1 (by have := o.ps.2; omega)]; exact b1_c1 o.ps.1 o.ps.2
  have wsl : b1 (IntKind.i64.wrap r.sl) = c1 r.sl := by rw [wi64 o.sl.1 (by have := o.sl.2; omega)]; exact b1_c1 o.sl.1 o.sl.2
  have wns : b1 (IntKind.i64.wrap r.ons) = c1 r.ons := by rw [wi64 o.ons.1 (by have := o.ons.2; omega)]; exact b1_c1 o.ons.1 o.ons.2
  have bd : b1 (r.dl.length : Int) = c1 r.dl.length := b1_c1 (by omega) (by omega)
  have bo : b1 (r.od.length : Int) = c1 r.od.length := b1_c1 (by omega) (by omega)
  have bt : b1 (trimTo r.im 224 : Int) = c1 (trimTo r.im 224) := by
    have := trimTo_le r.im 224
    exact b1_c1 (by omega) (by omega)
  have uc : ∀ x : Int, UInt8.ofNat x.toNat = c1 x := fun _ => rfl
  have bz : b1 0 = 0 := rfl
  have bone : b1 1 = 1 := rfl
  repeat' (first
    | (with_reducible refine call_mk (mayRP _ hi _) ?_)
    | (with_reducible refine call_mk (putB2 _ (wrapU64_ge _) (wrapU64_lt _) _) ?_)
    | (with_reducible refine call_mk (putB4 _ (wrapU64_ge _) (wrapU64_lt _) _) ?_)
    | (with_reducible refine ⟨_, putB2 _ (wrapU64_ge _) (wrapU64_lt _) _, ?_⟩)
    | (with_reducible refine ⟨_, putB4 _ (wrapU64_ge _) (wrapU64_lt _) _, ?_⟩)
    | (with_reducible refine ⟨_, oneP _ _, ?_⟩)
    | (with_reducible refine call_mk (oneP _ _) ?_)
    | (with_reducible refine bindS_mk (t_add (by simp only [List.length_append, List.length_cons, List.length_nil, lay_len, imB, List.length_map, List.length_take]; omega)) ?_)
    | (with_reducible refine bindSO_mk (t_add (by simp only [List.length_append, List.length_cons, List.length_nil, lay_len, imB, List.length_map, List.length_take]; omega)) ?_)
    | (refine ⟨225, Meet.of (loop30 r hi _ _ _ (by with_unfolding_all exact rfl) (tail30 r o _ (trimTo_le _ _) q _ (by simp [lay_len]) _ (by with_unfolding_all exact rfl) ?_) 224 0 225 (by decide) (by decide))⟩)
    | (with_reducible refine bindS_mk (fa_mk (by kernel_rfl)) ?_)
    | (with_reducible refine bindSO_mk (fa_mk (by kernel_rfl)) ?_)
    | (with_reducible refine bindV_mk (ld_mk (by with_unfolding_all exact rfl) (by kernel_rfl) (by with_unfolding_all exact rfl)) ?_)
    | (with_reducible refine bindVO_mk (ld_mk (by with_unfolding_all exact rfl) (by kernel_rfl) (by with_unfolding_all exact rfl)) ?_)
    | (with_reducible refine bindV_mk (st_mk (by with_unfolding_all exact rfl) (by kernel_rfl) (by with_unfolding_all exact rfl) (by kernel_rfl) (by with_unfolding_all exact rfl)) ?_)
    | (with_reducible refine bindS_mk b_add ?_)
    | (with_reducible refine bindSO_mk b_add ?_)
    | (with_reducible refine bindS_mk b_sub ?_)
    | (with_reducible refine bindSO_mk b_sub ?_)
    | (with_reducible refine bindS_mk b_mul ?_)
    | (with_reducible refine bindSO_mk b_mul ?_)
    | (with_reducible refine bindS_mk b_eql ?_)
    | (with_reducible refine bindSO_mk b_eql ?_)
    | (with_reducible refine bindS_mk b_neq ?_)
    | (with_reducible refine bindSO_mk b_neq ?_)
    | (with_reducible refine bindS_mk b_lss ?_)
    | (with_reducible refine bindSO_mk b_lss ?_)
    | (with_reducible refine bindS_mk b_leq ?_)
    | (with_reducible refine bindSO_mk b_leq ?_)
    | (with_reducible refine bindS_mk b_gtr ?_)
    | (with_reducible refine bindSO_mk b_gtr ?_)
    | (with_reducible refine bindS_mk b_geq ?_)
    | (with_reducible refine bindSO_mk b_geq ?_)
    | (with_reducible refine bindS_mk t_eql ?_)
    | (with_reducible refine bindSO_mk t_eql ?_)
    | (with_reducible refine bindS_mk t_neq ?_)
    | (with_reducible refine bindSO_mk t_neq ?_)
    | (with_reducible refine bindS_mk u_not ?_)
    | (with_reducible refine bindSO_mk u_not ?_)
    | (with_reducible refine bindS_mk (b_quo (by decide)) ?_)
    | (with_reducible refine bindS_mk (b_rem (by decide)) ?_)
    | (with_reducible refine bindS_mk (cv_int (d := 22) .u64 (by kernel_rfl)) ?_)
    | (with_reducible refine bindSO_mk (cv_int (d := 22) .u64 (by kernel_rfl)) ?_)
    | (with_reducible refine bindS_mk (cv_int (d := 3) .i64 (by kernel_rfl)) ?_)
    | (with_reducible refine bindSO_mk (cv_int (d := 3) .i64 (by kernel_rfl)) ?_)
    | (with_reducible refine bindS_mk (cv_int (d := 2) .i64 (by kernel_rfl)) ?_)
    | (with_reducible refine bindSO_mk (cv_int (d := 2) .i64 (by kernel_rfl)) ?_)
    | (with_reducible refine bindS_mk (cv_int (d := 5) .u8 (by kernel_rfl)) ?_)
    | (with_reducible refine bindSO_mk (cv_int (d := 5) .u8 (by kernel_rfl)) ?_)
    | (with_reducible refine bindS_mk (cv_int (d := 40) .u16 (by kernel_rfl)) ?_)
    | (with_reducible refine bindSO_mk (cv_int (d := 40) .u16 (by kernel_rfl)) ?_)
    | (with_reducible refine bindS_mk (cv_int (d := 45) .u32 (by kernel_rfl)) ?_)
    | (with_reducible refine bindSO_mk (cv_int (d := 45) .u32 (by kernel_rfl)) ?_)
    | (with_reducible refine bindV_mk (len_str (by kernel_rfl)) ?_)
    | (with_reducible refine bindVO_mk (len_str (by kernel_rfl)) ?_)
    | (with_reducible refine bindV_mk p_t ?_)
    | (with_reducible refine bindVO_mk p_t ?_)
    | (with_reducible refine bindV_mk p_f ?_)
    | (with_reducible refine bindVO_mk p_f ?_)
    | (with_reducible refine bindV_mk (pick_b _ _ _ _) ?_)
    | (with_reducible refine bindVO_mk (pick_b _ _ _ _) ?_)
    | (with_reducible refine g_tt ?_)
    | (with_reducible refine g_ft ?_)
    | (with_reducible refine g_tf ?_)
    | (with_reducible refine g_ff ?_)
    | (with_reducible refine g_hole ?_)
    | (with_reducible refine i_t ?_)
    | (with_reducible refine i_f ?_)
    | ((with_reducible refine i_split ?_ ?_) <;> intro hb <;> (try rw [hb]))
    | ((with_reducible refine g_split_t ?_ ?_) <;> intro hb <;> (try rw [hb]))
    | ((with_reducible refine g_split_f ?_ ?_) <;> intro hb <;> (try rw [hb]))
    | (with_reducible refine Meet.of (cast_p (J30_11111010101010011_eq _ _ _ _ _ _ _) ?_))
    | (with_reducible refine Meet.of (cast_p (J30_1111101010101001_eq _ _ _ _ _ _ _) ?_))
    | (with_reducible refine Meet.of (cast_p (J30_111111_eq _ _ _) ?_))
    | (with_reducible refine Meet.of (cast_p (J30_111110101011_eq _ _ _ _ _) ?_))
    | (with_reducible refine Meet.of (cast_p (J30_111110101111111_eq _ _ _ _ _ _) ?_))
    | (with_reducible refine Meet.of (cast_p (J30_11111_eq _ _ _ _) ?_))
    | (with_reducible refine Meet.of (cast_p (J30_1111_eq _ _ _ _) ?_))
    | (with_reducible refine Meet.of (cast_p (J30_11_eq _ _ _) ?_))
    )
  all_goals (
    (try simp only [beq_iff_eq, beq_eq_false_iff_ne, bne_iff_ne, ne_eq, bne_eq_false_iff_eq] at *)
    first
      | (exfalso; omega)
      | (refine conv2 c ?_
         unfold Rc.enc
         repeat (first | rw [if_pos (by assumption)] | rw [if_neg (by assumption)] | rw [if_neg (by omega)])
         simp only [wno, wts, wpp, wop, wot, won, wk, wps, wsl, wns, bd, bo, bt, bz, bone, uc, List.append_assoc, List.singleton_append, List.cons_append, List.nil_append]
         try simp only [*, if_true, if_false, Bool.false_eq_true]))
theorem encRP (r : Rc) (o : r.ok) (h : AH) : ACalls Pg 30 [r.v] h (pureE (encResR r) h) := by
  refine pure_lift (flat_args r) ?_ (encRC r o (fun e => e = .ret (encResR r)) rfl) h
  unfold encResR
  split <;> rfl
end Go.Proofs.Ytdhlolcpcgpcnaa.Sh
