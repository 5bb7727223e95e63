import Derived.Test.YtcglbpjpbjaecaaGreatS14
import Derived.Test.YtcglbpjpbjaecaaGreatS08
import Derived.Test.YtcglbpjpbjaecaaGreatS07
import Derived.Shelf.Strings.OnBuilder
import Derived.Test.YtcglbpjpbjaecaaGreatS13
set_option linter.unusedVariables false
set_option linter.unusedSimpArgs false
namespace Go.Proofs.YtcglbpjpbjaecaaGreat.Sh
open Go Go.Ab Go.RowKit
open Go.Proofs.YtcglbpjpbjaecaaGreat.Ru (Pg okP crcStep crc8 crcGo crcMore)
set_option maxRecDepth 10000
theorem str9 : strT Pg 9 = true := by kernel_rfl
theorem crcGo_cons (b : UInt8) (t : List UInt8) (r : Nat) : crcGo (b :: t) r = crcGo t (crc8 8 (Nat.xor r b.toNat)) := by
  simp only [crcGo]
  rw [fNat_eq]
theorem outer (q : AEnd → Prop) (h : AH) (s : List UInt8) (hs : s.length < 1000000) : ∀ (t : List UInt8) (i n r : Nat), s.drop i = t → i + t.length = s.length → t.length < n → r < 4294967296 →
    q (.ret (.int .u32 ((Nat.xor (crcGo t r) 4294967295 : Nat) : Int))) → L265_11010 (fun e _ => q e) n (.str s) (.int .u32 (r : Int)) (.int .i64 (i : Int)) h
  | t, i, 0, r, _, _, hn, _, _ => absurd hn (by omega)
  | [], i, n + 1, r, hd, hl, _, hr, c => by
    rw [L265_11010_eq]
    simp only [List.length_nil] at hl
    refine bindV_mk (len_str (by kernel_rfl)) ?_
    refine bindS_mk (b_lss_f (by omega)) ?_
    refine i_f ?_
    refine Meet.of (cast_p (J265_111_eq _ _ _) ?_)
    refine bindS_mk (show aUn .xor (.int .u32 (r : Int)) = some (.int .u32 (bitI .xor .u32 ((4294967295 : Nat) : Int) (r : Int))) from rfl) ?_
    rw [(xor32 4294967295 r (by decide) hr).1]
    have e : Nat.xor 4294967295 r = Nat.xor (crcGo [] r) 4294967295 := by
      simp only [crcGo]
      exact Nat.xor_comm _ _
    rw [e]
    exact c
  | b :: t, i, n + 1, r, hd, hl, hn, hr, c => by
    rw [L265_11010_eq]
    simp only [List.length_cons] at hl hn
    have hi : i < s.length := by omega
    have hb : s.getD i 0 = b := by
      have := congrArg (fun l => l[0]?) hd
      simp only [List.getElem?_drop, Nat.add_zero, List.getElem?_cons_zero] at this
      rw [List.getD_eq_getElem?_getD, this]; rfl
    have hbt := b.toNat_lt
    refine bindV_mk (len_str (by kernel_rfl)) ?_
    refine bindS_mk (b_lss_t (by omega)) ?_
    refine i_t ?_
    refine Meet.of (cast_p (J265_1101001_eq _ _ _ _ _ _) ?_)
    refine bindS_mk (ix_str str9 hi) ?_
    rw [hb]
    refine bindS_mk (cv_int (d := 31) .u32 (by kernel_rfl)) ?_
    have e1 : IntKind.u32.wrap (b.toNat : Int) = (b.toNat : Int) := by rw [wrap_u32]; omega
    rw [e1]
    refine bindS_mk b_xor ?_
    have hx := xor32 r b.toNat hr (by omega)
    rw [hx.1]
    refine ⟨9, Meet.of ?_⟩
    have hlt := crc8_lt 8 _ hx.2
    refine inner q (.str s) (.int .i64 (i : Int)) n h (fun x m => crc8 m x = crc8 8 (Nat.xor r b.toNat)) (fun x hx' hk => ?_) (fun x m hk => hk) 8 9 (Nat.xor r b.toNat) (by omega) (by omega) hx.2 rfl
    have hk : x = crc8 8 (Nat.xor r b.toNat) := hk
    rw [J265_11010011_eq]
    refine bindS_mk (c_inc (by omega)) ?_
    refine Meet.of ?_
    rw [hk]
    refine outer q h s hs t (i + 1) n _ ?_ (by omega) (by omega) hlt ?_
    · rw [← List.drop_drop, hd]; rfl
    · rw [crcGo_cons] at c; exact c
theorem moreP (r : Nat) (hr : r < 4294967296) (s : List UInt8) (hs : s.length < 1000000) (h : AH) : ACalls Pg 265 [.int .u32 (r : Int), .str s] h (pureE (.int .u32 ((crcMore r s : Nat) : Int)) h) := by
  refine pure_lift rfl rfl (C265 _ _ _ _ ?_) h
  refine bindS_mk (show aUn .xor (.int .u32 (r : Int)) = some (.int .u32 (bitI .xor .u32 ((4294967295 : Nat) : Int) (r : Int))) from rfl) ?_
  have hx := xor32 4294967295 r (by decide) hr
  rw [hx.1]
  refine ⟨s.length + 1, Meet.of ?_⟩
  refine outer (fun e => e = .ret (.int .u32 ((crcMore r s : Nat) : Int))) AH0 s hs s 0 (s.length + 1) _ rfl (by omega) (by omega) hx.2 ?_
  have e : Nat.xor 4294967295 r = Nat.xor r 4294967295 := Nat.xor_comm _ _
  rw [e]
  rfl
end Go.Proofs.YtcglbpjpbjaecaaGreat.Sh
namespace Go.Proofs.YtcglbpjpbjaecaaGreat.Ru
open Go Go.Ab Go.RowKit
set_option maxRecDepth 10000
noncomputable def hdW : HdF := fun f a => match Nat.beq f 161 with
  | true => (match a with
    | [.ifc t (.slc p n), .fn g x y] => bif Nat.beq t 167 && Nat.ble n 1 then some (.tup []) else none
    | _ => none)
  | false => match Nat.beq f 155 with
    | true => bif sameVs a It.args then some (.tup [.slc none 0, .int .u64 1]) else none
    | false => hd f a
theorem hdW_ok (hh : HdOk Pg hd) : HdOk Pg hdW := by
  intro f args v hv
  unfold hdW at hv
  split at hv
  · rename_i hf
    obtain rfl := Nat.eq_of_beq_eq_true hf
    split at hv
    · obtain ⟨hc, hv2⟩ := bif_some hv
      clear hv
      rw [Bool.and_eq_true] at hc
      have h1 := Nat.eq_of_beq_eq_true hc.1
      subst h1
      simp only [Option.some.injEq] at hv2; subst hv2
      exact ⟨by kernel_rfl, fun h => So.sortP _ _ (Nat.le_of_ble_eq_true hc.2) _ _ _ h⟩
    · cases hv
  · split at hv
    · rename_i hf
      obtain rfl := Nat.eq_of_beq_eq_true hf
      obtain ⟨hc, hv2⟩ := bif_some hv
      clear hv
      have h1 := sameVs_eq _ _ hc
      subst h1
      simp only [Option.some.injEq] at hv2; subst hv2
      exact ⟨by kernel_rfl, fun h => It.itemsP hh h⟩
    · exact hh f args v hv
end Go.Proofs.YtcglbpjpbjaecaaGreat.Ru
namespace Go.Proofs.YtcglbpjpbjaecaaGreat.Sh
open Go Go.Ab Go.RowKit
open Go.Proofs.YtcglbpjpbjaecaaGreat.Ru (Pg okP)
set_option maxRecDepth 100000
/- NOT PRINTED 9 varve/varvelaw28.TaleTells: [a region that draws: guards] -/
end Go.Proofs.YtcglbpjpbjaecaaGreat.Sh
namespace Go.Ab
open Go Go.RowKit
variable {P : Program}
theorem elemsR {h : AH} {e a s n : Nat} {own : Bool} {l : List V} (hm : h.m a = some (.cells own (.row e) (.agg l))) (hn : s + n ≤ l.length) :
    aElems P h e (.slc (some (⟨a, .row e, []⟩, s)) n) = some ((l.drop s).take n) := by
  have hr : Go.Ab.rowAt P (.row e) [] = some (0, e) := rfl
  simp only [aElems, hm, if_true, hr, getV]
  rw [if_pos ⟨trivial, hn⟩]
def apOk (P : Program) (t xt e : TypeId) : Bool :=
  (match ul P t with
  | some (.slice e') => e' == e
  | _ => false) && notInt P xt && (ul P e).isSome && decide (1 ≤ P.bytesOf e) && (zeroV P e).isSome
theorem apOk_spec {t xt e : TypeId} (h : apOk P t xt e = true) : ul P t = some (.slice e) ∧ (notInt P xt && (ul P e).isSome) = true ∧ 1 ≤ P.bytesOf e ∧ (zeroV P e).isSome = true := by
  simp only [apOk, Bool.and_eq_true, decide_eq_true_eq] at h
  obtain ⟨⟨⟨⟨h1, h2⟩, h3⟩, h4⟩, h5⟩ := h
  split at h1
  · rename_i e' hu
    simp only [beq_iff_eq] at h1; subst h1
    exact ⟨hu, by rw [h2, h3]; rfl, h4, h5⟩
  · cases h1
theorem appN {h : AH} {t xt e : TypeId} {x : V} {ws : List V} {n : Nat} (hc : apOk P t xt e = true) (he : aElems P h e x = some ws) (hw : ws ≠ []) (hl : ws.length * P.bytesOf e ≤ 140737488355328) :
    aBuiltin P h .append [t, xt] [.slc none n, x] = some (.slc (some (⟨h.next, .row e, []⟩, 0)) ws.length, h.make (.cells true (.row e) (.agg ws))) := by
  obtain ⟨h1, h2, h3, h4⟩ := apOk_spec hc
  simp only [aBuiltin, h1]
  rw [if_pos h2]
  unfold aAppend
  rw [he]
  cases ws with
  | nil => exact absurd rfl hw
  | cons w ws =>
    simp only [aOwnRow, List.length_nil, Nat.zero_add]
    rw [if_pos ⟨h3, hl, h4⟩]
    rfl
def bsOk (P : Program) (t e : TypeId) (len : Nat) : Bool :=
  (match ul P t with
  | some (.slice e') => e' == e
  | _ => false) && decide (P.cellsOf e ≠ 0 ∧ len * P.cellsOf e ≤ 16777216)
theorem bs_mk {h : AH} {t e : TypeId} {len : Nat} {ps : List (Nat × V)} {l : List V} {z : V} (hc : bsOk P t e len = true) (hz : zeroV P e = some z) (hp : putParts P (fun _ => some e) (List.replicate len z) ps = some l) :
    aBuildSlice P h t len ps = some (.slc (some (⟨h.next, .row e, []⟩, 0)) len, h.make (.cells true (.row e) (.agg l))) := by
  simp only [bsOk, Bool.and_eq_true, decide_eq_true_eq] at hc
  obtain ⟨h1, h2⟩ := hc
  split at h1
  · rename_i e' hu
    simp only [beq_iff_eq] at h1; subst h1
    unfold aBuildSlice
    rw [hu]
    simp only [hz]
    rw [if_pos h2, hp]
  · cases h1
theorem nextM_mk {h : AH} {nn : Nat} {ty : BTy} {m : Nat} {since last : Nat} {seen : List Nat} {K : V → AH → Prop} {kt et : TypeId} {es : List (V × V)} {st : List Nat} {clock : Nat}
    (hi : h.m nn = some (.mit (some m) since seen last)) (hm : h.m m = some (.mps kt et es st clock)) (h1 : since = clock) (h2 : last = clock)
    (k1 : ∀ (i : Nat) (k v : V) (b : Nat), es[i]? = some (k, v) → st[i]? = some b → b ∉ seen → K (.tup [.bool true, k, v]) (h.put nn (.mit (some m) clock (seen ++ [b]) clock)))
    (k2 : (∀ b ∈ st, b ∈ seen) → K (.tup [.bool false]) (h.put m (.mp kt et es))) : vcNextM (.ptr (some ⟨nn, ty, []⟩)) h K := by
  simp only [vcNextM, hi, hm]
  exact ⟨trivial, h1, h2, k1, k2⟩
theorem entry_mk {h : AH} {nn : Nat} {ty : BTy} {m : Nat} {since last : Nat} {seen : List Nat} {K : V → AH → Prop} {kt et : TypeId} {es : List (V × V)} {st : List Nat} {clock : Nat}
    (hi : h.m nn = some (.mit (some m) since seen last)) (hm : h.m m = some (.mps kt et es st clock)) (h2 : last = clock) {i b : Nat} {k v : V} (hs : seen.getLast? = some b) (hb : st[i]? = some b) (he : es[i]? = some (k, v))
    (q : K (.tup [k, v]) h) : vcEntry (.ptr (some ⟨nn, ty, []⟩)) h K := by
  simp only [vcEntry, hi, hm]
  exact ⟨trivial, h2, i, b, k, v, hs, hb, he, q⟩
end Go.Ab
namespace Go.Ab
open Go Go.RowKit
variable {P : Program}
structure Upd (h h' : AH) (n : Nat) (o : AO) : Prop where
  next : h'.next = h.next
  at_ : h'.m n = some o
  other : ∀ k, k ≠ n → h'.m k = h.m k
structure New (h h' : AH) (o : AO) : Prop where
  next : h'.next = h.next + 1
  at_ : h'.m h.next = some o
  other : ∀ k, k < h.next → h'.m k = h.m k
structure Rep (h h' : AH) (n : Nat) (o : AO) : Prop where
  next : h'.next = h.next + 1
  at_ : h'.m h.next = some o
  gone : h'.m n = none
  other : ∀ k, k < h.next → k ≠ n → h'.m k = h.m k
theorem upd_put (h : AH) (n : Nat) (o : AO) : Upd h (h.put n o) n o := ⟨rfl, by rw [put_m, if_pos rfl], fun k hk => by rw [put_m, if_neg hk]⟩
theorem new_make (h : AH) (o : AO) : New h (h.make o) o := ⟨rfl, by rw [make_m, if_pos rfl], fun k hk => by rw [make_m, if_neg (by omega)]⟩
theorem new_at {h : AH} {t : TypeId} {v : V} (hs : hasShape P v t = true) : ∃ h', aNew P h t v = some (.ptr (some ⟨h.next, .one t, []⟩), h') ∧ New h h' (.cells true (.one t) v) :=
  ⟨_, new_mk hs, new_make _ _⟩
theorem al_at {h : AH} {t : TypeId} {z : V} (hz : zeroV P t = some z) (hs : hasShape P z t = true) : ∃ h', aAlloc P h t = some (.ptr (some ⟨h.next, .one t, []⟩), h') ∧ New h h' (.cells true (.one t) z) :=
  ⟨_, al_mk hz hs, new_make _ _⟩
theorem st_at {h : AH} {n : Nat} {ty : BTy} {p : List Nat} {v v' w x : V} {t : TypeId} (hm : h.m n = some (.cells true ty v)) (hc : ldOk P ty p t = true) (hg : getV v p = some w) (hs : hasShape P x t = true) (hv : setV v p x = some v') :
    ∃ h', aStoreV P h t (.ptr (some ⟨n, ty, p⟩)) x = some (hole, h') ∧ Upd h h' n (.cells true ty v') := ⟨_, st_mk hm hc hg hs hv, upd_put _ _ _⟩
theorem tbytes (l : List UInt8) : toBytes (bytesV l) = some l := by
  induction l with
  | nil => rfl
  | cons b l ih =>
    have e : bytesV (b :: l) = .int .u8 b.toNat :: bytesV l := rfl
    rw [e]
    simp only [toBytes, ih]
    simp
theorem cvBS {t d e : TypeId} {h : AH} {x : V} {l : List UInt8} (ht : bsT P t d e = true) (he : aElems P h e x = some (bytesV l)) (hx : (∃ n, x = .slc none n) ∨ ∃ a n, x = .slc (some a) n) : aConv P h t d x = some (.str l) := by
  unfold bsT at ht
  simp only [Bool.and_eq_true] at ht
  obtain ⟨⟨h1, h2⟩, h3⟩ := ht
  have hu : ul P t = some (.slice e) := by
    split at h1
    · rename_i e' hu; simp only [beq_iff_eq] at h1; subst h1; exact hu
    · cases h1
  have hd : ul P d = some .string := by
    split at h2
    · assumption
    · cases h2
  have he' : ul P e = some (.int .u8) := by
    split at h3
    · assumption
    · cases h3
  rcases hx with ⟨n, rfl⟩ | ⟨a, n, rfl⟩ <;> simp [aConv, aBytesStr, hu, hd, he', he, tbytes]
section
variable {t : TypeId} {k k' : IntKind} {a b : Int} {c : Bool}
end
theorem callS {f : FuncId} {args : List V} {h : AH} {v : V} {K X : V → AH → Prop} (c : ACalls P f args h (pureE v h)) (k : K v h) : ACalls P f args h (aEnd K X) := call_mk c k
theorem bindE {r : Option (V × AH)} {v : V} {K : V → AH → Prop} {R : AH → Prop} (e : ∃ h', r = some (v, h') ∧ R h') (k : ∀ h', R h' → K v h') : bindV r K := by
  obtain ⟨h', rfl, hr⟩ := e; exact k h' hr
def BufB (e : TypeId) (h : AH) (x : V) (l : List UInt8) : Prop :=
  (x = .slc none 0 ∧ l = []) ∨ ∃ n, n < h.next ∧ x = .slc (some (⟨n, .row e, []⟩, 0)) l.length ∧ h.m n = some (.cells true (.row e) (.agg (bytesV l)))
theorem bytesV_len (l : List UInt8) : (bytesV l).length = l.length := by simp [bytesV]
theorem BufB.elems {e : TypeId} {h : AH} {x : V} {l : List UInt8} (b : BufB e h x l) : aElems P h e x = some (bytesV l) := by
  rcases b with ⟨rfl, rfl⟩ | ⟨n, h1, rfl, h3⟩
  · rfl
  · rw [← bytesV_len l]; exact elems_row h3
theorem BufB.shape {e : TypeId} {h : AH} {x : V} {l : List UInt8} (b : BufB e h x l) : (∃ n, x = .slc none n) ∨ ∃ a n, x = .slc (some a) n := by
  rcases b with ⟨rfl, rfl⟩ | ⟨n, h1, rfl, h3⟩
  · exact .inl ⟨_, rfl⟩
  · exact .inr ⟨_, _, rfl⟩
theorem BufB.keep {e : TypeId} {h h' : AH} {x : V} {l : List UInt8} (b : BufB e h x l) (hn : h.next ≤ h'.next) (hk : ∀ k, k < h.next → h'.m k = h.m k) : BufB e h' x l := by
  rcases b with ⟨rfl, rfl⟩ | ⟨n, h1, rfl, h3⟩
  · exact .inl ⟨rfl, rfl⟩
  · exact .inr ⟨n, by omega, rfl, (hk n h1).trans h3⟩
theorem BufB.str {t d e : TypeId} {h : AH} {x : V} {l : List UInt8} (b : BufB e h x l) (ht : bsT P t d e = true) : aConv P h t d x = some (.str l) := cvBS ht b.elems b.shape
theorem flat_bytes : ∀ l : List UInt8, flatBs (bytesV l) = true
  | [] => rfl
  | b :: l => by
    have e : bytesV (b :: l) = .int .u8 b.toNat :: bytesV l := rfl
    rw [e]; simp only [flatBs, flatB, flat_bytes l, Bool.and_self]
end Go.Ab
namespace Go.Proofs.YtcglbpjpbjaecaaGreat.Sh
open Go Go.Ab Go.RowKit
open Go.Proofs.YtcglbpjpbjaecaaGreat.Ru (Pg okP)
set_option maxRecDepth 10000
theorem z5 : zeroV Pg 5 = some (.int .u8 0) := by kernel_rfl
def dec (n : Nat) : List UInt8 := if h : n < 10 then [UInt8.ofNat (48 + n)] else dec (n / 10) ++ [UInt8.ofNat (48 + n % 10)]
termination_by n
decreasing_by omega
end Go.Proofs.YtcglbpjpbjaecaaGreat.Sh
namespace Go.Proofs.YtcglbpjpbjaecaaGreat.Sh
open Go Go.Ab Go.RowKit
open Go.Proofs.YtcglbpjpbjaecaaGreat.Ru (Pg okP)
set_option maxRecDepth 10000
def hx (d : Nat) : UInt8 := if d < 10 then UInt8.ofNat (48 + d) else UInt8.ofNat (87 + d)
def hx2 (b : UInt8) : List UInt8 := [hx (b.toNat / 16), hx (b.toNat % 16)]
def hexL (s : List UInt8) : List UInt8 := s.flatMap hx2
def hexS (s : List UInt8) : List UInt8 := if s.isEmpty then [45] else hexL s
theorem b5 : Pg.bytesOf 5 = 1 := by kernel_rfl
def names : List (List UInt8) := [[98, 101, 103, 105, 110], [114, 101, 97, 100], [119, 114, 105, 116, 101], [99, 111, 109, 109, 105, 116], [97, 98, 111, 114, 116], [118, 97, 99, 117, 117, 109], [99, 104, 101, 99, 107, 112, 111, 105, 110, 116], [99, 108, 111, 115, 101]]
def nameOf (k : Nat) : List UInt8 := names.getD k [99, 97, 108, 108]
end Go.Proofs.YtcglbpjpbjaecaaGreat.Sh
namespace Go.Proofs.YtcglbpjpbjaecaaGreat.Sj
open Go Go.Ab Go.RowKit Go.Proofs
open Go.Proofs.YtcglbpjpbjaecaaGreat.Ru (Pg okP)
set_option maxRecDepth 100000
end Go.Proofs.YtcglbpjpbjaecaaGreat.Sj
namespace Go.Proofs.YtcglbpjpbjaecaaGreat.Sh
open Go Go.Ab Go.RowKit
open Go.Proofs.YtcglbpjpbjaecaaGreat.Ru (Pg okP)
set_option maxRecDepth 10000
def jn (ss : List (List UInt8)) : List UInt8 := Go.Lib.join ss [32]
structure Td where
  (who life frm to err : Int)
  (kind txn page off : Int)
  s : List UInt8
  opn : Bool
  (rtxn ts : Int)
  body : List UInt8
def vCall (kind txn page off : Int) (s : List UInt8) : V := .agg [.int .u8 kind, .int .u64 txn, .int .u16 page, .int .i64 off, .str s]
def Td.v (t : Td) : V := .agg [.int .i64 t.who, vCall t.kind t.txn t.page t.off t.s, .int .i64 t.life, .int .i64 t.frm, .int .i64 t.to, .bool t.opn, .agg [.int .i64 t.err, .int .u64 t.rtxn, .int .u32 t.ts, .agg (bytesV t.body)]]
structure Td.ok (t : Td) : Prop where
  kind : 0 ≤ t.kind ∧ t.kind < 256
  rtxn : 0 ≤ t.rtxn ∧ t.rtxn < 18446744073709551616
  ts : 0 ≤ t.ts ∧ t.ts < 4294967296
  body : t.body.length = 64
theorem shapeB {l : List UInt8} : ∀ {n : Nat}, l.length = n → shapesAll Pg (bytesV l) 5 = true := by
  intro n _
  have : ∀ l : List UInt8, shapesAll Pg (bytesV l) 5 = true := by
    intro l
    induction l with
    | nil => rfl
    | cons b l ih =>
      have e : bytesV (b :: l) = .int .u8 b.toNat :: bytesV l := rfl
      have e2 : hasShape Pg (.int .u8 b.toNat) 5 = true := by kernel_rfl
      rw [e]; simp only [shapesAll, e2, ih, Bool.and_self]
  exact this l
theorem s33 {l : List UInt8} (h : l.length = 64) : hasShape Pg (.agg (bytesV l)) 33 = true := by
  have hu : ul Pg 33 = some (.array 64 5) := by kernel_rfl
  simp only [hasShape, hu, bytesV_len, h, shapeB h, Bool.and_self, beq_self_eq_true]
theorem Td.shape (t : Td) (h : t.body.length = 64) : hasShape Pg t.v 94 = true := by
  have h1 := s33 h
  have e : hasShape Pg t.v 94 = ((hasShape Pg (.agg (bytesV t.body)) 33 && true) && true) := by kernel_rfl
  rw [e, h1]; rfl
theorem Td.flat (t : Td) : flatBs [t.v] = true := by
  have h1 := flat_bytes t.body
  simp only [flatBs, Td.v, vCall, flatB, h1, Bool.and_self]
def low (x : Int) : List UInt8 := dec (x % 4294967296).toNat
def trimB (l : List UInt8) : Nat → Nat
  | 0 => 0
  | n + 1 => if l.getD n 0 = 0 then trimB l n else n + 1
def Td.head (t : Td) : List UInt8 := jn [low t.life, low t.who, nameOf t.kind.toNat, low t.frm]
def Td.mid (t : Td) : List UInt8 := jn [t.head, low t.to, low t.err, dec t.rtxn.toNat, dec t.ts.toNat]
def Td.line (t : Td) : List UInt8 :=
  if t.opn then jn [t.head, [111, 112, 101, 110]] else if trimB t.body 64 = 0 then t.mid else jn [t.mid, hexS (t.body.take (trimB t.body 64))]
section
variable (t : Td) (ok : t.ok) {q : AEnd → Prop} (c : q (.ret (.str t.line)))
include ok c
end
end Go.Proofs.YtcglbpjpbjaecaaGreat.Sh
namespace Go.Proofs.YtcglbpjpbjaecaaGreat.Sh
open Go Go.Ab Go.RowKit
open Go.Proofs.YtcglbpjpbjaecaaGreat.Ru (Pg okP)
set_option maxRecDepth 10000
def zeroB : List UInt8 := List.replicate 64 0
theorem z9 : zeroV Pg 9 = some (.str []) := by kernel_rfl
theorem z60 : zeroV Pg 60 = some (.agg [(.int .i64 0), (.int .u64 0), (.int .u32 0), (.agg (List.replicate 64 (.int .u8 0)))]) := by kernel_rfl
section
variable (t : Td) (ok : t.ok) {q : AEnd → Prop} (c : q (.ret (.str t.line)))
include ok c
end
end Go.Proofs.YtcglbpjpbjaecaaGreat.Sh
namespace Go.Proofs.YtcglbpjpbjaecaaGreat.Sh
open Go Go.Ab Go.RowKit
open Go.Proofs.YtcglbpjpbjaecaaGreat.Ru
set_option maxRecDepth 10000
theorem hdOkW : HdOk Pg hd := by
  intro f args v hv
  unfold hd at hv
  split at hv
  · rename_i hf
    obtain rfl := Nat.eq_of_beq_eq_true hf
    split at hv
    · rename_i n s
      obtain ⟨hc, hv⟩ := bif_some hv
      rw [Bool.and_eq_true, Nat.blt_eq, Nat.blt_eq] at hc
      cases hv
      exact ⟨by kernel_rfl, fun h => moreP n hc.1 s hc.2 h⟩
    · cases hv
  · cases hv
theorem lift_nil2 {P : Program} {f : FuncId} {args : List V} {v : V} (ha : oldVs (fun _ => false) args = true) (hv : oldV (fun _ => false) v = true) (c : ACalls P f args AH0 fun e _ => e = .ret v) (h : AH) : ACalls P f args h (pureE v h) := by
  intro B ι W vs F r
  have le : Names.le (fun _ => none) ι := fun n L h => by cases h
  refine (c _ _ W vs (fits0 W) (old_relL (fun n hn => by cases hn) le args vs ha r)).mono ?_
  rintro e w' ⟨ι', h', ae, h1, h2, h3, rfl⟩
  have hold : ∀ b, b < W.heap.size → w'.heap[b]? = W.heap[b]? := fun b hb => (h2.frame b hb).1
  refine ⟨ι, h, .ret v, Names.le_refl _, ?_, ?_, rfl, rfl⟩
  · exact (F.grow (fun _ => False) hold (fun _ h => h.elim) h2.os h2.tape h2.output h2.size).rebase (BaseLe.grow F _ hold h2.os h2.tape h2.output h2.size)
  · cases e with
    | returned x => exact rel_le (ι := fun _ => none) le (old_rel (ι := fun _ => none) (fun n hn => by cases hn) h1 hv h3)
    | panicked c => exact h3.elim
    | outgrown => exact h3.elim
end Go.Proofs.YtcglbpjpbjaecaaGreat.Sh
namespace Go.Proofs.YtcglbpjpbjaecaaGreat.Sh
open Go Go.Ab Go.RowKit
open Go.Proofs.YtcglbpjpbjaecaaGreat.Ru (Pg okP)
set_option maxRecDepth 100000
noncomputable def B246 : Code := (Tryz.f246.body).getD .skip
def R246 : List ResultVar := [.tmp 2]
abbrev N246 : Nat := 20
def K246 : KT := (.seq .leaf (.seq .leaf (.join (.seq .leaf (.one (.loop (.seq .leaf (.join (.two .leaf .leaf) (.one (.seq .leaf .leaf [3, 4, 6])) [3, 6]) [3, 6, 8]) [3, 6])) [3, 6]) (.seq .leaf (.seq .leaf .leaf [2]) [3]) [3]) [0, 3]) [0])
def J246_11010011 (Q : AEnd → AH → Prop) (n : Nat) (x3 x6 : V) (h : AH) : Prop := vcAt Pg N246 B246 K246 [1, 1, 0, 1, 0, 0, 1, 1] [n] (vcRet Pg R246 Q) [(3, x3), (6, x6)] h
def J246_111 (Q : AEnd → AH → Prop) (x3 : V) (h : AH) : Prop := vcAt Pg N246 B246 K246 [1, 1, 1] [] (vcRet Pg R246 Q) [(3, x3)] h
def L246_11010 (Q : AEnd → AH → Prop) (n : Nat) (x3 x6 : V) (h : AH) : Prop := loopAt Pg N246 B246 K246 [1, 1, 0, 1, 0] [] n (vcRet Pg R246 Q) [(3, x3), (6, x6)] h
theorem J246_11010011_eq (Q : AEnd → AH → Prop) (n : Nat) (x3 x6 : V) (h : AH) : J246_11010011 Q n x3 x6 h = (
  vcEntry x6 h fun v9 h10 =>
  bindV (still (aExtract v9 0) h10) fun v11 h12 =>
  bindV (aLoadV Pg h12 193 x3) fun v13 h14 =>
  bindV (aBuildSlice Pg h14 193 1 [(0, v11)]) fun v15 h16 =>
  bindV (aBuiltin Pg h16 .append [193, 193] [v13, v15]) fun v17 h18 =>
  bindV (aStoreV Pg h18 193 x3 v17) fun _ h20 =>
  Meet (L246_11010 Q n x3 x6 h20)) := by kernel_rfl
theorem J246_111_eq (Q : AEnd → AH → Prop) (x3 : V) (h : AH) : J246_111 Q x3 h = (
  bindV (aLoadV Pg h 193 x3) fun v21 h22 =>
  bindV (still (aIface Pg 193 v21) h22) fun v23 h24 =>
  ACalls Pg 161 [v23, (V.fn (.func 286) [] [x3])] h24 (aEnd (fun v25 h26 =>
  bindV (aLoadV Pg h26 193 x3) fun v27 h28 =>
  Q (.ret v27) h28) fun v h => Q (.panic v) h)) := by kernel_rfl
theorem L246_11010_eq (Q : AEnd → AH → Prop) (n : Nat) (x3 x6 : V) (h : AH) : L246_11010 Q (n + 1) x3 x6 h = (
  vcNextM x6 h fun v5 h6 =>
  bindV (still (aExtract v5 0) h6) fun v7 h8 =>
  vcIf v7 (
  Meet (J246_11010011 Q n x3 x6 h8)) (
  Meet (J246_111 Q x3 h8))) := by kernel_rfl
theorem S246 (Q : AEnd → AH → Prop) (a0 : V) (h : AH) : vc Pg N246 B246 K246 (vcRet Pg R246 Q) (initEnv 0 [a0]) h = (
  bindV (aAlloc Pg h 193) fun v1 h2 =>
  vcRange Pg 395 a0 h2 fun v3 h4 =>
  ∃ n, Meet (L246_11010 Q n v1 v3 h4)) := by kernel_rfl
theorem C246 (Q : AEnd → AH → Prop) (a0 : V) (h : AH) (c :
  bindV (aAlloc Pg h 193) fun v1 h2 =>
  vcRange Pg 395 a0 h2 fun v3 h4 =>
  ∃ n, Meet (L246_11010 Q n v1 v3 h4)) : ACalls Pg 246 [a0] h Q :=
  acalls_of_vc okP Tryz.func246 (show Tryz.f246.body = some B246 from by kernel_rfl) K246 (by rw [← S246 Q a0 h] at c; exact c)
end Go.Proofs.YtcglbpjpbjaecaaGreat.Sh
namespace Go.Proofs.YtcglbpjpbjaecaaGreat.Sh
open Go Go.Ab Go.RowKit
open Go.Proofs.YtcglbpjpbjaecaaGreat.Ru (Pg okP)
set_option maxRecDepth 100000
theorem z193 : zeroV Pg 193 = some (.slc none 0) := by kernel_rfl
theorem s193 (a : Option (PA × Nat)) (n : Nat) : hasShape Pg (.slc a n) 193 = true := by kernel_rfl
theorem u395 : ul Pg 395 = some (.map 22 399) := by kernel_rfl
theorem b22 : Pg.bytesOf 22 = 2 := by kernel_rfl
theorem callS {f : FuncId} {args : List V} {h : AH} {v : V} {K X : V → AH → Prop} (c : ACalls Pg f args h (pureE v h)) (k : K v h) : ACalls Pg f args h (aEnd K X) :=
  c.mono fun e h' q => by
    cases e with
    | ret u => obtain ⟨rfl, rfl⟩ := q; exact k
    | panic _ => exact q.elim
theorem tail246 (q : AEnd → AH → Prop) (b : Nat) (a : Option (PA × Nat)) (n : Nat) (hn : n ≤ 1) (h : AH) (hb : h.m b = some (.cells true (.one 193) (.slc a n))) (k : q (.ret (.slc a n)) h) : J246_111 q (.ptr (some ⟨b, .one 193, []⟩)) h := by
  rw [J246_111_eq]
  refine bindV_mk (ld_mk hb (by kernel_rfl) rfl) ?_
  refine bindS_mk (show aIface Pg 193 (.slc a n) = some (.ifc 193 (.slc a n)) by kernel_rfl) ?_
  refine callS (So.sortP2 a n hn _ _ _ h) ?_
  exact bindV_mk (ld_mk hb (by kernel_rfl) rfl) k
theorem sorted0 (n : Nat) (h : AH) (hn : n < h.next) (hm : h.m n = some (.mp 22 399 [])) : ACalls Pg 246 [.map (some n)] h (pureE (.slc none 0) h) := by
  refine acalls_forget (by rfl) (C246 _ _ _ ?_)
  refine bindV_mk (al_mk z193 (s193 _ _)) ?_
  have hm1 : (h.make (.cells true (.one 193) (.slc none 0))).m n = some (.mp 22 399 []) := by rw [make_m, if_neg (by omega), hm]
  refine ⟨⟨22, 399, u395⟩, ?_⟩
  simp only [hm1]
  intro st clock hl hlt hnd
  obtain rfl : st = [] := List.length_eq_zero_iff.1 hl
  refine ⟨1, Meet.of ?_⟩
  rw [L246_11010_eq]
  generalize hg : ((h.make (.cells true (.one 193) (.slc none 0))).put n (.mps 22 399 [] [] clock)).make (.mit (some n) clock [] clock) = h2
  have e2 : h2.next = h.next + 2 := by rw [← hg, make_next, put_next, make_next]
  have g1 : h2.m n = some (.mps 22 399 [] [] clock) := by rw [← hg, make_m, if_neg (by rw [put_next, make_next]; omega), put_m, if_pos rfl]
  have g2 : h2.m h.next = some (.cells true (.one 193) (.slc none 0)) := by rw [← hg, make_m, if_neg (by rw [put_next, make_next]; omega), put_m, if_neg (by omega), make_m, if_pos rfl]
  have g3 : ∀ i, i < h.next → i ≠ n → h2.m i = h.m i := fun i hi hne => by rw [← hg, make_m, if_neg (by rw [put_next, make_next]; omega), put_m, if_neg hne, make_m, if_neg (by omega)]
  have g4 : h2.m (h.next + 1) = some (.mit (some n) clock [] clock) := by rw [← hg, make_m, if_pos (by rw [put_next, make_next])]
  have hit : itV (h.make (.cells true (.one 193) (.slc none 0))).next = .ptr (some ⟨h.next + 1, .one 0, []⟩) := rfl
  show vcNextM (itV (h.make (.cells true (.one 193) (.slc none 0))).next) h2 _
  rw [hit]
  refine nextM_mk g4 g1 rfl rfl (fun i k v b he => by simp at he) fun _ => ?_
  refine bindS_mk (show aExtract _ _ = some (.bool false) from rfl) ?_
  refine i_f (Meet.of ?_)
  refine tail246 _ h.next none 0 (by omega) _ ?_ ?_
  · show (h2.put n (.mp 22 399 [])).m h.next = _
    rw [put_m, if_neg (by omega), g2]
  · refine ⟨rfl, fun i hi => ?_⟩
    by_cases e : i = n
    · subst e; rw [put_m, if_pos rfl, hm]
    · rw [put_m, if_neg e, g3 i hi e]
theorem sorted1 (n : Nat) (h : AH) (hn : n < h.next) (k : Int) (v : V) (hm : h.m n = some (.mp 22 399 [(.int .u16 k, v)])) (h2 : AH) (hx : h2.next = h.next + 4)
    (hs : ∀ i o, h2.m i = some o → (i = h.next + 3 ∧ o = .cells true (.row 22) (.agg [.int .u16 k])) ∨ h.m i = some o) :
    ACalls Pg 246 [.map (some n)] h fun e h' => e = .ret (.slc (some (⟨h.next + 3, .row 22, []⟩, 0)) 1) ∧ h' = h2 := by
  have c : ACalls Pg 246 [.map (some n)] h fun e h' => e = .ret (.slc (some (⟨h.next + 3, .row 22, []⟩, 0)) 1) ∧ (h'.next = h.next + 4 ∧ h'.m (h.next + 3) = some (.cells true (.row 22) (.agg [.int .u16 k])) ∧ ∀ i, i < h.next → h'.m i = h.m i) := by
    refine C246 _ _ _ ?_
    refine bindV_mk (al_mk z193 (s193 _ _)) ?_
    have hm1 : (h.make (.cells true (.one 193) (.slc none 0))).m n = some (.mp 22 399 [(.int .u16 k, v)]) := by rw [make_m, if_neg (by omega), hm]
    refine ⟨⟨22, 399, u395⟩, ?_⟩
    simp only [hm1]
    intro st clock hl hlt hnd
    obtain ⟨b, rfl⟩ : ∃ b, st = [b] := List.length_eq_one_iff.1 hl
    refine ⟨2, Meet.of ?_⟩
    rw [L246_11010_eq]
    generalize hg : ((h.make (.cells true (.one 193) (.slc none 0))).put n (.mps 22 399 [(.int .u16 k, v)] [b] clock)).make (.mit (some n) clock [] clock) = h2
    have e2 : h2.next = h.next + 2 := by rw [← hg, make_next, put_next, make_next]
    have g1 : h2.m n = some (.mps 22 399 [(.int .u16 k, v)] [b] clock) := by rw [← hg, make_m, if_neg (by rw [put_next, make_next]; omega), put_m, if_pos rfl]
    have g2 : h2.m h.next = some (.cells true (.one 193) (.slc none 0)) := by rw [← hg, make_m, if_neg (by rw [put_next, make_next]; omega), put_m, if_neg (by omega), make_m, if_pos rfl]
    have g3 : ∀ i, i < h.next → i ≠ n → h2.m i = h.m i := fun i hi hne => by rw [← hg, make_m, if_neg (by rw [put_next, make_next]; omega), put_m, if_neg hne, make_m, if_neg (by omega)]
    have g4 : h2.m (h.next + 1) = some (.mit (some n) clock [] clock) := by rw [← hg, make_m, if_pos (by rw [put_next, make_next])]
    have hit : itV (h.make (.cells true (.one 193) (.slc none 0))).next = .ptr (some ⟨h.next + 1, .one 0, []⟩) := rfl
    show vcNextM (itV (h.make (.cells true (.one 193) (.slc none 0))).next) h2 _
    rw [hit]
    refine nextM_mk g4 g1 rfl rfl (fun i k' v' b' he hb _ => ?_) (fun hall => absurd (hall b (by simp)) (by simp))
    have hi : i = 0 := by
      cases i with
      | zero => rfl
      | succ i => simp at he
    subst hi
    simp only [List.getElem?_cons_zero, Option.some.injEq, Prod.mk.injEq] at he hb
    obtain ⟨rfl, rfl⟩ := he
    subst hb
    refine bindS_mk (show aExtract _ _ = some (.bool true) from rfl) ?_
    refine i_t (Meet.of ?_)
    rw [J246_11010011_eq]
    refine entry_mk (i := 0) (b := b) (k := .int .u16 k) (v := v) (es := [(.int .u16 k, v)]) (st := [b]) (kt := 22) (et := 399) (clock := clock) (seen := [] ++ [b]) (since := clock) (last := clock) (m := n) ?_ ?_ rfl rfl rfl rfl ?_
    · rw [put_m, if_pos rfl]
    · rw [put_m, if_neg (by omega), g1]
    refine bindS_mk (show aExtract _ _ = some (.int .u16 k) from rfl) ?_
    generalize hg5 : h2.put (h.next + 1) (.mit (some n) clock ([] ++ [b]) clock) = h5
    have e5 : h5.next = h.next + 2 := by rw [← hg5, put_next, e2]
    have f1 : h5.m n = some (.mps 22 399 [(.int .u16 k, v)] [b] clock) := by rw [← hg5, put_m, if_neg (by omega), g1]
    have f2 : h5.m h.next = some (.cells true (.one 193) (.slc none 0)) := by rw [← hg5, put_m, if_neg (by omega), g2]
    have f3 : ∀ i, i < h.next → i ≠ n → h5.m i = h.m i := fun i hi hne => by rw [← hg5, put_m, if_neg (by omega), g3 i hi hne]
    have f4 : h5.m (h.next + 1) = some (.mit (some n) clock [b] clock) := by rw [← hg5, put_m, if_pos rfl]; rfl
    refine bindV_mk (ld_mk f2 (by kernel_rfl) rfl) ?_
    refine bindV_mk (bs_mk (e := 22) (z := .int .u16 0) (l := [.int .u16 k]) (by kernel_rfl) (by kernel_rfl) (by kernel_rfl)) ?_
    refine bindV_mk (appN (e := 22) (ws := [.int .u16 k]) (by kernel_rfl) (elemsR (l := [.int .u16 k]) (own := true) (by rw [make_m, if_pos rfl]) (by simp)) (by simp) (by rw [b22]; simp)) ?_
    have f5 : ((h5.make (.cells true (.row 22) (.agg [.int .u16 k]))).make (.cells true (.row 22) (.agg [.int .u16 k]))).m h.next = some (.cells true (.one 193) (.slc none 0)) := by rw [make_m, if_neg (by rw [make_next]; omega), make_m, if_neg (by omega), f2]
    refine bindV_mk (st_mk (v' := .slc (some (⟨h.next + 3, .row 22, []⟩, 0)) 1) f5 (by kernel_rfl) rfl (s193 _ _) (by rw [make_next, e5]; rfl)) ?_
    refine Meet.of ?_
    rw [L246_11010_eq]
    generalize hg6 : (((h5.make (.cells true (.row 22) (.agg [.int .u16 k]))).make (.cells true (.row 22) (.agg [.int .u16 k]))).put h.next (.cells true (.one 193) (.slc (some (⟨h.next + 3, .row 22, []⟩, 0)) 1))) = h6
    have e6 : h6.next = h.next + 4 := by rw [← hg6, put_next, make_next, make_next, e5]
    have p1 : h6.m n = some (.mps 22 399 [(.int .u16 k, v)] [b] clock) := by rw [← hg6, put_m, if_neg (by omega), make_m, if_neg (by rw [make_next]; omega), make_m, if_neg (by omega), f1]
    have p2 : h6.m h.next = some (.cells true (.one 193) (.slc (some (⟨h.next + 3, .row 22, []⟩, 0)) 1)) := by rw [← hg6, put_m, if_pos rfl]
    have p3 : ∀ i, i < h.next → i ≠ n → h6.m i = h.m i := fun i hi hne => by rw [← hg6, put_m, if_neg (by omega), make_m, if_neg (by rw [make_next]; omega), make_m, if_neg (by omega), f3 i hi hne]
    have p4 : h6.m (h.next + 1) = some (.mit (some n) clock [b] clock) := by rw [← hg6, put_m, if_neg (by omega), make_m, if_neg (by rw [make_next]; omega), make_m, if_neg (by omega), f4]
    have p5 : h6.m (h.next + 3) = some (.cells true (.row 22) (.agg [.int .u16 k])) := by rw [← hg6, put_m, if_neg (by omega), make_m, if_pos (by rw [make_next, e5])]
    refine nextM_mk p4 p1 rfl rfl (fun i k' v' b' he hb hns => ?_) (fun _ => ?_)
    · exfalso
      cases i with
      | zero => simp at hb; subst hb; simp at hns
      | succ i => simp at he
    refine bindS_mk (show aExtract _ _ = some (.bool false) from rfl) ?_
    refine i_f (Meet.of ?_)
    refine tail246 _ h.next (some (⟨h.next + 3, .row 22, []⟩, 0)) 1 (by omega) _ ?_ ?_
    · show (h6.put n (.mp 22 399 [(.int .u16 k, v)])).m h.next = _
      rw [put_m, if_neg (by omega), p2]
    · refine ⟨rfl, by rw [put_next, e6], by rw [put_m, if_neg (by omega), p5], fun i hi => ?_⟩
      by_cases e : i = n
      · subst e; rw [put_m, if_pos rfl, hm]
      · rw [put_m, if_neg e, p3 i hi e]
  intro B ι W vs F r
  refine (c B ι W vs F r).mono ?_
  rintro e w' ⟨ι', h', ae, a1, a2, a3, rfl, b1, b2, b3⟩
  refine ⟨ι', h2, _, a1, a2.sub (by rw [hx, b1]) (fun i o ho => ?_), a3, rfl, rfl⟩
  rcases hs i o ho with ⟨rfl, rfl⟩ | h1
  · exact b2
  · have hi : i < h.next := by
      rcases Nat.lt_or_ge i h.next with k | k
      · exact k
      · obtain ⟨L, g1, _⟩ := F.obj i o h1
        rw [F.fresh i k] at g1; cases g1
    rw [b3 i hi]; exact h1
end Go.Proofs.YtcglbpjpbjaecaaGreat.Sh
namespace Go.Ab
open Go Go.RowKit
def lput {α : Type} (s : List (Nat × α)) (more l : List α) : List α := s.foldr (fun p l => l.set p.1 p.2) l ++ more
noncomputable def killR {R : Type} (n : Nat) : Nat → HT → (HT → R) → R :=
  Nat.rec (motive := fun _ => Nat → HT → (HT → R) → R) (fun _ H k => k H) (fun _ ih a H k => H.kill a fun H => fNat (Nat.succ a) fun a => ih a H k) n
noncomputable def killRs {R : Type} (l : List (Nat × Nat)) : HT → (HT → R) → R :=
  List.rec (motive := fun _ => HT → (HT → R) → R) (fun H k => k H) (fun p _ ih H k => Prod.rec (fun a n => killR n a H fun H => ih H k) p) l
def Less (H H' : HT) : Prop := HT.ext H H' ∧ H'.ah.next = H.ah.next ∧ ∀ n o, H'.ah.m n = some o → H.ah.m n = some o
theorem Less.refl (H : HT) : Less H H := ⟨HT.ext.refl H, rfl, fun _ _ h => h⟩
theorem Less.trans {a b c : HT} (x : Less a b) (y : Less b c) : Less a c := ⟨x.1.trans y.1, y.2.1.trans x.2.1, fun n o h => x.2.2 n o (y.2.2 n o h)⟩
theorem less_kill (H : HT) (n : Nat) : ∃ H', (∀ (R : Type) (k : HT → R), H.kill n k = k H') ∧ Less H H' := by
  obtain ⟨H', h1, h2, h3⟩ := H.kill_spec n
  refine ⟨H', h1, h3, by rw [h2]; rfl, fun m o hm => ?_⟩
  rw [h2] at hm
  simp only [AH.kill] at hm
  split at hm
  · cases hm
  · exact hm
theorem killR_spec : ∀ (n a : Nat) (H : HT), ∃ H', (∀ (R : Type) (k : HT → R), killR n a H k = k H') ∧ Less H H'
  | 0, a, H => ⟨H, fun _ _ => rfl, Less.refl H⟩
  | n + 1, a, H => by
    obtain ⟨H1, h1, h2⟩ := less_kill H a
    obtain ⟨H2, g1, g2⟩ := killR_spec n (Nat.succ a) H1
    refine ⟨H2, fun R k => ?_, h2.trans g2⟩
    have e : killR (n + 1) a H k = H.kill a fun H => fNat (Nat.succ a) fun a => killR n a H k := rfl
    rw [e, h1, fNat_eq, g1]
theorem killRs_spec : ∀ (l : List (Nat × Nat)) (H : HT), ∃ H', (∀ (R : Type) (k : HT → R), killRs l H k = k H') ∧ Less H H'
  | [], H => ⟨H, fun _ _ => rfl, Less.refl H⟩
  | (a, n) :: l, H => by
    obtain ⟨H1, h1, h2⟩ := killR_spec n a H
    obtain ⟨H2, g1, g2⟩ := killRs_spec l H1
    refine ⟨H2, fun R k => ?_, h2.trans g2⟩
    have e : killRs ((a, n) :: l) H k = killR n a H fun H => killRs l H k := rfl
    rw [e, h1, g1]
noncomputable def T8.isNil {α : Type} (t : T8 α) : Bool := T8.rec (motive := fun _ => Bool) true (fun _ _ _ _ _ _ _ _ _ _ _ _ _ _ _ _ _ => false) t
theorem T8.isNil_eq {α : Type} {t : T8 α} (h : t.isNil = true) : t = .nil := by
  cases t with
  | nil => rfl
  | node => cases h
noncomputable def mkN {α : Type} (o : Option α) (a b c d e f g h : T8 α) : T8 α :=
  Option.rec (motive := fun _ => T8 α) (bif a.isNil && (b.isNil && (c.isNil && (d.isNil && (e.isNil && (f.isNil && (g.isNil && h.isNil)))))) then .nil else .node none a b c d e f g h) (fun x => .node (some x) a b c d e f g h) o
noncomputable def cleanT {α : Type} (t : T8 α) : T8 α :=
  T8.rec (motive := fun _ => T8 α) .nil (fun o _ _ _ _ _ _ _ _ a b c d e f g h => mkN o a b c d e f g h) t
theorem mkN_get {α : Type} (o : Option α) (a b c d e f g h : T8 α) (p : List D8) : T8.get p (mkN o a b c d e f g h) = T8.get p (.node o a b c d e f g h) := by
  cases o with
  | some x => rfl
  | none =>
    show T8.get p (bif _ then _ else _) = _
    cases hb : (a.isNil && (b.isNil && (c.isNil && (d.isNil && (e.isNil && (f.isNil && (g.isNil && h.isNil))))))) with
    | false => rfl
    | true =>
      simp only [Bool.and_eq_true] at hb
      obtain ⟨h1, h2, h3, h4, h5, h6, h7, h8⟩ := hb
      rw [T8.isNil_eq h1, T8.isNil_eq h2, T8.isNil_eq h3, T8.isNil_eq h4, T8.isNil_eq h5, T8.isNil_eq h6, T8.isNil_eq h7, T8.isNil_eq h8]
      simp only [cond_true]
      rw [T8.get_nil]
      cases p with
      | nil => rfl
      | cons x p => rw [T8.get_s]; cases x <;> exact (T8.get_nil p).symm
theorem cleanT_get {α : Type} : ∀ (t : T8 α) (p : List D8), T8.get p (cleanT t) = T8.get p t
  | .nil, _ => rfl
  | .node o a b c d e f g h, p => by
    show T8.get p (mkN o (cleanT a) (cleanT b) (cleanT c) (cleanT d) (cleanT e) (cleanT f) (cleanT g) (cleanT h)) = _
    rw [mkN_get]
    cases p with
    | nil => rfl
    | cons x p => rw [T8.get_s, T8.get_s]; cases x <;> exact cleanT_get _ p
theorem clean_ah (lo next : Nat) (tr : T8 AO) : HT.ah ⟨lo, next, cleanT tr⟩ = HT.ah ⟨lo, next, tr⟩ := by
  unfold HT.ah
  simp only [cleanT_get]
theorem less_clean (lo next : Nat) (tr : T8 AO) : Less ⟨lo, next, tr⟩ ⟨lo, next, cleanT tr⟩ := by
  refine ⟨⟨Nat.le_refl _, Nat.le_refl _, fun n _ _ => cleanT_get tr _, fun hw n o hn => hw n o ?_⟩, rfl, fun n o hn => ?_⟩
  · have : T8.get (path n) (cleanT tr) = some o := hn
    rw [cleanT_get] at this; exact this
  · rw [clean_ah] at hn; exact hn
noncomputable def pairP (l : List (Nat × Nat)) : AEnd → HT → Option (V × HT) := fun ae H => match ae with
  | .ret u => killRs l H fun H => HT.rec (motive := fun _ => Option (V × HT)) (fun lo next tr => some (u, ⟨lo, next, cleanT tr⟩)) H
  | .panic _ => none
theorem acalls_less {P : Program} {f : FuncId} {args : List V} {h : AH} {v : V} {H H' : HT} (c : ACalls P f args h fun e h' => e = .ret v ∧ h' = H.ah) (l : Less H H') : ACalls P f args h fun e h' => e = .ret v ∧ h' = H'.ah := by
  intro B ι W vs F r
  refine (c B ι W vs F r).mono ?_
  rintro e w' ⟨ι', h', ae, a1, a2, a3, rfl, rfl⟩
  exact ⟨ι', H'.ah, .ret v, a1, a2.sub l.2.1 l.2.2, a3, rfl, rfl⟩
section
variable {P : Program}
theorem memo_ofP (K0 : Ok P) {T : T8 FD} {hd : HdF} {hm : HmF} {pu : FuncId → Bool} (hT : TabOk P T) (hh : HdOk P hd) (hhm : HmOk P hm) (l : List (Nat × Nat)) {n : Nat} {f : FuncId} {args : List V} {H H' : HT} {v : V} (how : H.Own)
    (h : (exTabM P T hd hm pu n).ex (V × HT) f args ⟨H.next, H.next, H.tr⟩ (pairP l) = some (v, H')) : MemoOk P ⟨f, args, H, v, H'⟩ := by
  obtain ⟨ae, H1, he, h1, hent, c⟩ := (exTabM_ok K0 hT hh hhm n).1 _ _ _ ⟨H.next, H.next, H.tr⟩ _ _ how h
  cases ae with
  | panic _ => cases h1
  | ret u =>
    obtain ⟨H2, g1, g2⟩ := killRs_spec l H1
    have h1 : killRs l H1 (fun H => HT.rec (motive := fun _ => Option (V × HT)) (fun lo next tr => some (u, ⟨lo, next, cleanT tr⟩)) H) = some (v, H') := h1
    rw [g1] at h1
    obtain ⟨lo, next, tr⟩ := H2
    have h1 : some (u, (⟨lo, next, cleanT tr⟩ : HT)) = some (v, H') := h1
    cases h1
    have g3 := g2.trans (less_clean lo next tr)
    exact ⟨hent, he.trans g3.1, acalls_less c g3⟩
end
noncomputable def oneMemoC (m : Memo) : HmF := fun R f args H K z =>
  bif Nat.beq m.f f && (Nat.beq H.next m.H.next && (sameVs args m.args && sameT (cleanT H.tr) m.H.tr)) then goMemo m.v m.H' H K else z
theorem ext_clean {lo next : Nat} {tr : T8 AO} {H' : HT} (e : HT.ext ⟨lo, next, cleanT tr⟩ H') : HT.ext ⟨lo, next, tr⟩ H' :=
  ⟨e.lo, e.next, fun n h1 h2 => (e.same n h1 h2).trans (cleanT_get tr _), fun hw => e.own fun n o hn => hw n o (by
    have hn : T8.get (path n) (cleanT tr) = some o := hn
    rw [cleanT_get] at hn; exact hn)⟩
theorem oneMemoC_ok {P : Program} {m : Memo} (hm : MemoOk P m) : HmOk P (oneMemoC m) := by
  intro R f args H K z r how h
  unfold oneMemoC at h
  cases hb : (Nat.beq m.f f && (Nat.beq H.next m.H.next && (sameVs args m.args && sameT (cleanT H.tr) m.H.tr))) with
  | false => rw [hb] at h; exact .inl h
  | true =>
    rw [hb] at h
    simp only [Bool.and_eq_true] at hb
    obtain ⟨h1, h2, h3, h4⟩ := hb
    have h1 := Nat.eq_of_beq_eq_true h1
    subst h1
    rw [sameVs_eq _ _ h3]
    obtain ⟨lo, next, tr⟩ := H
    have e := clean_ah lo next tr
    have h : goMemo m.v m.H' ⟨lo, next, cleanT tr⟩ K = some r := by
      obtain ⟨f, args, ⟨l0, n0, t0⟩, v, ⟨lo', next', tr'⟩⟩ := m
      rw [goMemo_eq] at h ⊢; exact h
    obtain ⟨v, H', a, b, c, d⟩ := goMemo_ok hm (H := ⟨lo, next, cleanT tr⟩) (Nat.eq_of_beq_eq_true h2) (sameT_eq _ _ h4) h
    rw [e] at d
    exact .inr ⟨v, H', ext_clean a, b, c, d⟩
noncomputable def allMemoC : List Memo → HmF
  | [] => fun R f args H K z => z
  | m :: l => fun R f args H K z => oneMemoC m R f args H K (allMemoC l R f args H K z)
theorem allMemoC_ok {P : Program} : ∀ {l : List Memo}, MemosOk P l → HmOk P (allMemoC l)
  | [], _ => fun R f args H K z r how h => .inl h
  | m :: l, hl => fun R f args H K z r how h => by
    rcases oneMemoC_ok hl.1 R f args H K _ r how h with h | h
    · exact allMemoC_ok hl.2 R f args H K z r how h
    · exact .inr h
noncomputable def HT.leap {R : Type} (H : HT) (d : Nat) (o : AO) (k : Nat → HT → R) : R :=
  HT.rec (fun lo next tr => fNat (next + d) fun r => fNat (Nat.succ r) fun nx => T8.upd (some o) (path r) tr fun tr => k r ⟨lo, nx, tr⟩) H
theorem HT.leap_spec (H : HT) (d : Nat) (o : AO) (ho : o.isOwn = true) : ∃ H', (∀ (R : Type) (k : Nat → HT → R), H.leap d o k = k (H.next + d) H') ∧ H'.ah.next = H.next + d + 1 ∧ (∀ n x, H'.ah.m n = some x → (n = H.next + d ∧ x = o) ∨ H.ah.m n = some x) ∧ HT.ext H H' := by
  obtain ⟨lo, next, tr⟩ := H
  obtain ⟨t', h1, h2, h3⟩ := T8.upd_spec (some o) (path (next + d)) tr
  refine ⟨⟨lo, next + d + 1, t'⟩, fun R k => ?_, rfl, fun n x hx => ?_, Nat.le_refl _, by show next ≤ next + d + 1; omega, fun m _ hm => ?_, fun hw => own_upd h2 h3 (fun x hx => by cases hx; exact ho) hw⟩
  · refine (fNat_eq (next + d) (fun r => fNat (Nat.succ r) fun nx => T8.upd (some o) (path r) tr fun tr => k r ⟨lo, nx, tr⟩)).trans ?_
    refine (fNat_eq (Nat.succ (next + d)) (fun nx => T8.upd (some o) (path (next + d)) tr fun tr => k (next + d) ⟨lo, nx, tr⟩)).trans ?_
    exact h1 R fun tr => k (next + d) ⟨lo, next + d + 1, tr⟩
  · by_cases hn : n = next + d
    · subst hn
      have hx : T8.get (path (next + d)) t' = some x := hx
      rw [h2] at hx; cases hx
      exact .inl ⟨rfl, rfl⟩
    · have hx : T8.get (path n) t' = some x := hx
      rw [h3 _ fun e => hn (path_inj e)] at hx
      exact .inr hx
  · have hne : m ≠ next + d := by
      have hm : m < next := hm
      omega
    exact h3 _ fun e => hne (path_inj e)
end Go.Ab
namespace Go.Proofs.YtcglbpjpbjaecaaGreat.Sh
open Go Go.Ab Go.RowKit
open Go.Proofs.YtcglbpjpbjaecaaGreat.Ru (Pg okP)
set_option maxRecDepth 10000
noncomputable def keysHm : HmF := fun R f args H K z => match Nat.beq f 246 with
  | true => (match args with
    | [.map (some n)] => (match H.get n with
      | some (.mp kt et es) => bif Nat.beq kt 22 && (Nat.beq et 399 && Nat.blt n H.next) then (match es with
        | [] => K (.slc none 0) H
        | [(.int .u16 k, _)] => H.leap 3 (.cells true (.row 22) (.agg [.int .u16 k])) fun r H => K (.slc (some (⟨r, .row 22, []⟩, 0)) 1) H
        | _ => z) else z
      | _ => z)
    | _ => z)
  | false => z
theorem keysHm_ok : HmOk Pg keysHm := by
  intro R f args H K z r how h
  unfold keysHm at h
  split at h
  · rename_i hf
    obtain rfl := Nat.eq_of_beq_eq_true hf
    split at h
    · rename_i n
      split at h
      · rename_i kt et es hm
        have hm' : H.ah.m n = some (.mp kt et es) := hm
        cases hb : (Nat.beq kt 22 && (Nat.beq et 399 && Nat.blt n H.next)) with
        | false => rw [hb] at h; exact .inl h
        | true =>
          rw [hb] at h
          simp only [Bool.and_eq_true] at hb
          obtain ⟨h1, h2, h3⟩ := hb
          have h1 := Nat.eq_of_beq_eq_true h1
          have h2 := Nat.eq_of_beq_eq_true h2
          subst h1; subst h2
          have h3 : n < H.ah.next := by rw [Nat.blt_eq] at h3; exact h3
          simp only [cond_true] at h
          split at h
          · refine .inr ⟨_, H, HT.ext.refl _, h, by kernel_rfl, (sorted0 n H.ah h3 hm').mono fun e h' q => ?_⟩
            cases e with
            | ret u => obtain ⟨rfl, rfl⟩ := q; exact ⟨rfl, rfl⟩
            | panic _ => exact q.elim
          · rename_i k v
            obtain ⟨H', k1, k2, k3, k4⟩ := H.leap_spec 3 (.cells true (.row 22) (.agg [.int .u16 k])) rfl
            rw [k1] at h
            exact .inr ⟨_, H', k4, h, by kernel_rfl, sorted1 n H.ah h3 k v hm' H'.ah k2 k3⟩
          · exact .inl h
      · exact .inl h
    · exact .inl h
  · exact .inl h
end Go.Proofs.YtcglbpjpbjaecaaGreat.Sh
namespace Go.Ab
open Go
def i6_ (n : Int) : V := .int .i64 n
def u6_ (n : Int) : V := .int .u64 n
def u3_ (n : Int) : V := .int .u32 n
def u1_ (n : Int) : V := .int .u16 n
def u8_ (n : Int) : V := .int .u8 n
def k2_ (a b : Int) : V := .agg [.int .i64 a, .int .i64 b]
noncomputable def p0_ : V := .agg (pkV 64 0)
def pt_ (n t : Nat) : V := .ptr (some ⟨n, .one t, []⟩)
def sl_ (n t k : Nat) : V := .slc (some (⟨n, .row t, []⟩, 0)) k
def sn_ : V := .slc none 0
def pn_ : V := .ptr none
def s0_ : V := .str []
def bt_ : V := .bool true
def bf_ : V := .bool false
def co_ (n t : Nat) (v : V) : Nat × Option AO := (n, some (.cells true (.one t) v))
def cr_ (n t : Nat) (l : List V) : Nat × Option AO := (n, some (.cells true (.row t) (.agg l)))
def ag_ (l : List V) : V := .agg l
noncomputable def pv_ (n m : Nat) : V := .agg (pkV n m)
end Go.Ab
