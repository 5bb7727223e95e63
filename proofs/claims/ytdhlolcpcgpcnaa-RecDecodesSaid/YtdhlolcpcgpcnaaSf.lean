import Derived.Test.YtdhlolcpcgpcnaaSa
import Derived.Test.YtdhlolcpcgpcnaaAbE
import Derived.Test.YtdhlolcpcgpcnaaSd
import Derived.Test.YtdhlolcpcgpcnaaSe
set_option linter.unusedVariables false
set_option linter.unusedSimpArgs false
namespace Go.Proofs.Ytdhlolcpcgpcnaa.Sh
open Go Go.Ab Go.RowKit Go.Gr
set_option linter.unusedSimpArgs false
set_option linter.unusedVariables false
set_option maxRecDepth 10000
theorem row67 : rowT Pg 67 5 = true := by kernel_rfl
theorem bs679 : bsT Pg 67 9 5 = true := by kernel_rfl
theorem str9 : strT Pg 9 = true := by kernel_rfl
theorem lit67 (h : AH) (x : Int) : aBuildSlice Pg h 67 1 [(0, .int .u8 x)] = some (.slc (some (⟨h.next, .row 5, []⟩, 0)) 1, h.make (.cells true (.row 5) (.agg [.int .u8 x]))) := by kernel_rfl
theorem shr8 (v : Nat) : shrI .u64 (v : Int) 8 = ((v / 256 : Nat) : Int) := shr_n v 8 (by decide)
theorem shr7 (v : Nat) : shrI .u64 (v : Int) 7 = ((v / 128 : Nat) : Int) := shr_n v 7 (by decide)
theorem loop21 (q : AEnd → Prop) (h : AH) : ∀ (n k v j : Nat), wid v = k → k < n → j + k < 1000 → q (.ret (.int .i64 ((j + k : Nat) : Int))) → L21_1100 (fun e _ => q e) n (.int .u64 (v : Int)) (.int .i64 (j : Int)) h
  | 0, k, v, j, _, hn, _, _ => absurd hn (by omega)
  | n + 1, k, v, j, hk, hn, hj, c => by
    rw [L21_1100_eq]
    refine bindS_mk b_gtr ?_
    by_cases hv : v = 0
    · subst hv
      rw [wid_zero] at hk; subst hk
      refine i_f ?_
      refine Meet.of (cast_p (J21_111_eq _ _ _) ?_)
      exact c
    · have hw := wid_pos (v := v) (by omega)
      rw [show decide ((v : Int) > 0) = true by rw [decide_eq_true_eq]; omega]
      refine i_t ?_
      refine Meet.of (cast_p (J21_110001_eq _ _ _ _ _) ?_)
      refine bindS_mk (c_inc (by omega)) ?_
      refine Meet.of (cast_p (J21_1100011_eq _ _ _ _ _) ?_)
      refine bindS_mk (b_shr (by decide)) ?_
      rw [shr8]
      refine Meet.of (loop21 q h n (k - 1) (v / 256) (j + 1) (by omega) (by omega) (by omega) ?_)
      rw [show j + 1 + (k - 1) = j + k by omega]
      exact c
theorem widthP (v : Nat) (hv : v < 18446744073709551616) (h : AH) : ACalls Pg 21 [.int .u64 (v : Int)] h (pureE (.int .i64 ((wid v : Nat) : Int)) h) := by
  refine pure_lift rfl rfl (C21 _ _ _ ⟨20, ?_⟩) h
  have := wid8 v hv
  refine Meet.of (loop21 (fun e => e = .ret (.int .i64 ((wid v : Nat) : Int))) AH0 20 (wid v) v 0 rfl (by omega) (by omega) ?_)
  rw [Nat.zero_add]
theorem loop24 (q : AEnd → Prop) (h : AH) : ∀ (n k v j : Nat), v < 18446744073709551616 → wid v = k → k < n → j + k < 1000 → q (.ret (.int .i64 ((j + k : Nat) : Int))) → L24_1100 (fun e _ => q e) n (.int .u64 (v : Int)) (.int .i64 (j : Int)) h
  | 0, k, v, j, _, _, hn, _, _ => absurd hn (by omega)
  | n + 1, k, v, j, hb, hk, hn, hj, c => by
    rw [L24_1100_eq]
    refine bindS_mk b_gtr ?_
    by_cases hv : v = 0
    · subst hv
      rw [wid_zero] at hk; subst hk
      refine i_f ?_
      refine Meet.of (cast_p (J24_111_eq _ _ _) ?_)
      exact c
    · have hw := wid_pos (v := v) (by omega)
      rw [show decide ((v : Int) > 0) = true by rw [decide_eq_true_eq]; omega]
      refine i_t ?_
      refine Meet.of (cast_p (J24_110001_eq _ _ _ _ _) ?_)
      refine bindS_mk (c_inc (by omega)) ?_
      
      refine bindS_mk (b_quo (by decide)) ?_
      have e : IntKind.u64.wrap (Int.tdiv (v : Int) 256) = ((v / 256 : Nat) : Int) := by
        rw [wrap_u64, Int.tdiv_eq_ediv_of_nonneg (by omega)]; omega
      rw [e]
      refine Meet.of (loop24 q h n (k - 1) (v / 256) (j + 1) (by omega) (by omega) (by omega) (by omega) ?_)
      rw [show j + 1 + (k - 1) = j + k by omega]
      exact c
theorem widthR (v : Nat) (hv : v < 18446744073709551616) (h : AH) : ACalls Pg 24 [.int .u64 (v : Int)] h (pureE (.int .i64 ((wid v : Nat) : Int)) h) := by
  refine pure_lift rfl rfl (C24 _ _ _ ⟨20, ?_⟩) h
  have := wid8 v hv
  refine Meet.of (loop24 (fun e => e = .ret (.int .i64 ((wid v : Nat) : Int))) AH0 20 (wid v) v 0 hv rfl (by omega) (by omega) ?_)
  rw [Nat.zero_add]
theorem loop20 (q : AEnd → Prop) : ∀ (n v : Nat) (x : V) (h : AH) (l : List Int), (varL v).length ≤ n → l.length + n < 1000 → Buf 5 h x l → q (.ret (.str ((l.map fun n => UInt8.ofNat n.toNat) ++ varB v))) → L20_1100 (fun e _ => q e) n (.int .u64 (v : Int)) x h
  | 0, v, x, h, l, hn, _, _, _ => absurd hn (by have := len_pos v; omega)
  | n + 1, v, x, h, l, hn, hl, hb, c => by
    rw [L20_1100_eq]
    refine bindS_mk b_geq ?_
    by_cases hv : v < 128
    · rw [show decide ((v : Int) ≥ 128) = false by rw [decide_eq_false_iff_not]; omega]
      refine i_f ?_
      refine Meet.of (cast_p (J20_111_eq _ _ _ _) ?_)
      refine bindS_mk (cv_int .u8 (by kernel_rfl)) ?_
      refine bindV_mk (lit67 _ _) ?_
      obtain ⟨y, h', e, b⟩ := hb.push row67 (IntKind.u8.wrap (v : Int)) (by omega)
      refine bindV_mk e ?_
      refine bindS_mk (b.str bs679) ?_
      have e2 : ((l ++ [IntKind.u8.wrap (v : Int)]).map fun n => UInt8.ofNat n.toNat) = (l.map fun n => UInt8.ofNat n.toNat) ++ varB v := by
        have : (IntKind.u8.wrap (v : Int)).toNat = v := by rw [wrap_u8]; omega
        rw [List.map_append, varB, varL_small hv, List.map_singleton, List.map_singleton, this]
      rw [e2]
      exact c
    · rw [show decide ((v : Int) ≥ 128) = true by rw [decide_eq_true_eq]; omega]
      refine i_t ?_
      refine Meet.of (cast_p (J20_110001_eq _ _ _ _ _) ?_)
      refine bindS_mk (cv_int .u8 (by kernel_rfl)) ?_
      refine bindS_mk b_or ?_
      have e1 : bitI .or .u8 (IntKind.u8.wrap (v : Int)) 128 = ((128 + v % 128 : Nat) : Int) := by
        have : IntKind.u8.wrap (v : Int) = ((v % 256 : Nat) : Int) := by rw [wrap_u8]; omega
        rw [this, or8_128 _ (by omega)]
        congr 2; omega
      rw [e1]
      refine bindV_mk (lit67 _ _) ?_
      obtain ⟨y, h', e, b⟩ := hb.push row67 ((128 + v % 128 : Nat) : Int) (by omega)
      refine bindV_mk e ?_
      refine bindS_mk (b_shr (by decide)) ?_
      rw [shr7]
      rw [varL_big (by omega), List.length_cons] at hn
      refine Meet.of (loop20 q n (v / 128) y h' _ (by omega) (by simp; omega) b ?_)
      have e2 : ((l ++ [((128 + v % 128 : Nat) : Int)]).map fun n => UInt8.ofNat n.toNat) ++ varB (v / 128) = (l.map fun n => UInt8.ofNat n.toNat) ++ varB v := by
        rw [varB, varB, varL_big (v := v) (by omega), List.map_append, List.map_singleton, Int.toNat_natCast, List.map_cons, List.append_assoc, List.singleton_append]
      rw [e2]
      exact c
theorem varP (v : Nat) (hv : v < 18446744073709551616) (h : AH) : ACalls Pg 20 [.int .u64 (v : Int)] h (pureE (.str (varB v)) h) := by
  refine pure_lift rfl rfl (C20 _ _ _ ⟨10, ?_⟩) h
  exact Meet.of (loop20 (fun e => e = .ret (.str (varB v))) 10 v (.slc none 0) AH0 [] (varL10 v hv) (by decide) (.inl ⟨rfl, rfl⟩) rfl)
end Go.Proofs.Ytdhlolcpcgpcnaa.Sh
namespace Go.Proofs.Ytdhlolcpcgpcnaa.Sh
open Go Go.Ab Go.RowKit Go.Gr
set_option linter.unusedSimpArgs false
set_option linter.unusedVariables false
set_option maxRecDepth 10000
def rawA (v : Int) (i : Int) : UInt8 := UInt8.ofNat (IntKind.u8.wrap (shrI .u64 v (IntKind.i64.wrap (8 * i)))).toNat
def rawB (v : Int) : UInt8 := UInt8.ofNat (IntKind.u8.wrap (v.tmod 256)).toNat
def nextB (v : Int) : Int := IntKind.u64.wrap (v.tdiv 256)
theorem ev22_0 (q : AEnd → Prop) (v : Int) : vc Pg N22 B22 .leaf (vcRet Pg R22 (fun e _ => q e)) (initEnv 0 [.int .u64 v, .int .i64 0]) AH0 = q (.ret (.str [])) := by kernel_rfl
theorem c22_0 (q : AEnd → Prop) (v : Int) (c : q (.ret (.str []))) : ACalls Pg 22 [.int .u64 v, .int .i64 0] AH0 fun e _ => q e :=
  acalls_vc okP Try.func22 (show Try.f22.body = some B22 from by kernel_rfl) .leaf N22 R22 rfl (by kernel_rfl) (by rw [ev22_0 q v]; exact c)
theorem ev23_0 (q : AEnd → Prop) (v : Int) : vc Pg N23 B23 .leaf (vcRet Pg R23 (fun e _ => q e)) (initEnv 0 [.int .u64 v, .int .i64 0]) AH0 = q (.ret (.str [])) := by kernel_rfl
theorem c23_0 (q : AEnd → Prop) (v : Int) (c : q (.ret (.str []))) : ACalls Pg 23 [.int .u64 v, .int .i64 0] AH0 fun e _ => q e :=
  acalls_vc okP Try.func23 (show Try.f23.body = some B23 from by kernel_rfl) .leaf N23 R23 rfl (by kernel_rfl) (by rw [ev23_0 q v]; exact c)
theorem ev22_1 (q : AEnd → Prop) (v : Int) : vc Pg N22 B22 .leaf (vcRet Pg R22 (fun e _ => q e)) (initEnv 0 [.int .u64 v, .int .i64 1]) AH0 = q (.ret (.str [rawA v 0])) := by kernel_rfl
theorem c22_1 (q : AEnd → Prop) (v : Int) (c : q (.ret (.str [rawA v 0]))) : ACalls Pg 22 [.int .u64 v, .int .i64 1] AH0 fun e _ => q e :=
  acalls_vc okP Try.func22 (show Try.f22.body = some B22 from by kernel_rfl) .leaf N22 R22 rfl (by kernel_rfl) (by rw [ev22_1 q v]; exact c)
theorem ev23_1 (q : AEnd → Prop) (v : Int) : vc Pg N23 B23 .leaf (vcRet Pg R23 (fun e _ => q e)) (initEnv 0 [.int .u64 v, .int .i64 1]) AH0 = q (.ret (.str [rawB v])) := by kernel_rfl
theorem c23_1 (q : AEnd → Prop) (v : Int) (c : q (.ret (.str [rawB v]))) : ACalls Pg 23 [.int .u64 v, .int .i64 1] AH0 fun e _ => q e :=
  acalls_vc okP Try.func23 (show Try.f23.body = some B23 from by kernel_rfl) .leaf N23 R23 rfl (by kernel_rfl) (by rw [ev23_1 q v]; exact c)
theorem ev22_2 (q : AEnd → Prop) (v : Int) : vc Pg N22 B22 .leaf (vcRet Pg R22 (fun e _ => q e)) (initEnv 0 [.int .u64 v, .int .i64 2]) AH0 = q (.ret (.str [rawA v 0, rawA v 1])) := by kernel_rfl
theorem c22_2 (q : AEnd → Prop) (v : Int) (c : q (.ret (.str [rawA v 0, rawA v 1]))) : ACalls Pg 22 [.int .u64 v, .int .i64 2] AH0 fun e _ => q e :=
  acalls_vc okP Try.func22 (show Try.f22.body = some B22 from by kernel_rfl) .leaf N22 R22 rfl (by kernel_rfl) (by rw [ev22_2 q v]; exact c)
theorem ev23_2 (q : AEnd → Prop) (v : Int) : vc Pg N23 B23 .leaf (vcRet Pg R23 (fun e _ => q e)) (initEnv 0 [.int .u64 v, .int .i64 2]) AH0 = q (.ret (.str [rawB v, rawB (nextB v)])) := by kernel_rfl
theorem c23_2 (q : AEnd → Prop) (v : Int) (c : q (.ret (.str [rawB v, rawB (nextB v)]))) : ACalls Pg 23 [.int .u64 v, .int .i64 2] AH0 fun e _ => q e :=
  acalls_vc okP Try.func23 (show Try.f23.body = some B23 from by kernel_rfl) .leaf N23 R23 rfl (by kernel_rfl) (by rw [ev23_2 q v]; exact c)
theorem ev22_3 (q : AEnd → Prop) (v : Int) : vc Pg N22 B22 .leaf (vcRet Pg R22 (fun e _ => q e)) (initEnv 0 [.int .u64 v, .int .i64 3]) AH0 = q (.ret (.str [rawA v 0, rawA v 1, rawA v 2])) := by kernel_rfl
theorem c22_3 (q : AEnd → Prop) (v : Int) (c : q (.ret (.str [rawA v 0, rawA v 1, rawA v 2]))) : ACalls Pg 22 [.int .u64 v, .int .i64 3] AH0 fun e _ => q e :=
  acalls_vc okP Try.func22 (show Try.f22.body = some B22 from by kernel_rfl) .leaf N22 R22 rfl (by kernel_rfl) (by rw [ev22_3 q v]; exact c)
theorem ev23_3 (q : AEnd → Prop) (v : Int) : vc Pg N23 B23 .leaf (vcRet Pg R23 (fun e _ => q e)) (initEnv 0 [.int .u64 v, .int .i64 3]) AH0 = q (.ret (.str [rawB v, rawB (nextB v), rawB (nextB (nextB v))])) := by kernel_rfl
theorem c23_3 (q : AEnd → Prop) (v : Int) (c : q (.ret (.str [rawB v, rawB (nextB v), rawB (nextB (nextB v))]))) : ACalls Pg 23 [.int .u64 v, .int .i64 3] AH0 fun e _ => q e :=
  acalls_vc okP Try.func23 (show Try.f23.body = some B23 from by kernel_rfl) .leaf N23 R23 rfl (by kernel_rfl) (by rw [ev23_3 q v]; exact c)
theorem ev22_4 (q : AEnd → Prop) (v : Int) : vc Pg N22 B22 .leaf (vcRet Pg R22 (fun e _ => q e)) (initEnv 0 [.int .u64 v, .int .i64 4]) AH0 = q (.ret (.str [rawA v 0, rawA v 1, rawA v 2, rawA v 3])) := by kernel_rfl
theorem c22_4 (q : AEnd → Prop) (v : Int) (c : q (.ret (.str [rawA v 0, rawA v 1, rawA v 2, rawA v 3]))) : ACalls Pg 22 [.int .u64 v, .int .i64 4] AH0 fun e _ => q e :=
  acalls_vc okP Try.func22 (show Try.f22.body = some B22 from by kernel_rfl) .leaf N22 R22 rfl (by kernel_rfl) (by rw [ev22_4 q v]; exact c)
theorem ev23_4 (q : AEnd → Prop) (v : Int) : vc Pg N23 B23 .leaf (vcRet Pg R23 (fun e _ => q e)) (initEnv 0 [.int .u64 v, .int .i64 4]) AH0 = q (.ret (.str [rawB v, rawB (nextB v), rawB (nextB (nextB v)), rawB (nextB (nextB (nextB v)))])) := by kernel_rfl
theorem c23_4 (q : AEnd → Prop) (v : Int) (c : q (.ret (.str [rawB v, rawB (nextB v), rawB (nextB (nextB v)), rawB (nextB (nextB (nextB v)))]))) : ACalls Pg 23 [.int .u64 v, .int .i64 4] AH0 fun e _ => q e :=
  acalls_vc okP Try.func23 (show Try.f23.body = some B23 from by kernel_rfl) .leaf N23 R23 rfl (by kernel_rfl) (by rw [ev23_4 q v]; exact c)
theorem ev22_5 (q : AEnd → Prop) (v : Int) : vc Pg N22 B22 .leaf (vcRet Pg R22 (fun e _ => q e)) (initEnv 0 [.int .u64 v, .int .i64 5]) AH0 = q (.ret (.str [rawA v 0, rawA v 1, rawA v 2, rawA v 3, rawA v 4])) := by kernel_rfl
theorem c22_5 (q : AEnd → Prop) (v : Int) (c : q (.ret (.str [rawA v 0, rawA v 1, rawA v 2, rawA v 3, rawA v 4]))) : ACalls Pg 22 [.int .u64 v, .int .i64 5] AH0 fun e _ => q e :=
  acalls_vc okP Try.func22 (show Try.f22.body = some B22 from by kernel_rfl) .leaf N22 R22 rfl (by kernel_rfl) (by rw [ev22_5 q v]; exact c)
theorem ev23_5 (q : AEnd → Prop) (v : Int) : vc Pg N23 B23 .leaf (vcRet Pg R23 (fun e _ => q e)) (initEnv 0 [.int .u64 v, .int .i64 5]) AH0 = q (.ret (.str [rawB v, rawB (nextB v), rawB (nextB (nextB v)), rawB (nextB (nextB (nextB v))), rawB (nextB (nextB (nextB (nextB v))))])) := by kernel_rfl
theorem c23_5 (q : AEnd → Prop) (v : Int) (c : q (.ret (.str [rawB v, rawB (nextB v), rawB (nextB (nextB v)), rawB (nextB (nextB (nextB v))), rawB (nextB (nextB (nextB (nextB v))))]))) : ACalls Pg 23 [.int .u64 v, .int .i64 5] AH0 fun e _ => q e :=
  acalls_vc okP Try.func23 (show Try.f23.body = some B23 from by kernel_rfl) .leaf N23 R23 rfl (by kernel_rfl) (by rw [ev23_5 q v]; exact c)
theorem ev22_6 (q : AEnd → Prop) (v : Int) : vc Pg N22 B22 .leaf (vcRet Pg R22 (fun e _ => q e)) (initEnv 0 [.int .u64 v, .int .i64 6]) AH0 = q (.ret (.str [rawA v 0, rawA v 1, rawA v 2, rawA v 3, rawA v 4, rawA v 5])) := by kernel_rfl
theorem c22_6 (q : AEnd → Prop) (v : Int) (c : q (.ret (.str [rawA v 0, rawA v 1, rawA v 2, rawA v 3, rawA v 4, rawA v 5]))) : ACalls Pg 22 [.int .u64 v, .int .i64 6] AH0 fun e _ => q e :=
  acalls_vc okP Try.func22 (show Try.f22.body = some B22 from by kernel_rfl) .leaf N22 R22 rfl (by kernel_rfl) (by rw [ev22_6 q v]; exact c)
theorem ev23_6 (q : AEnd → Prop) (v : Int) : vc Pg N23 B23 .leaf (vcRet Pg R23 (fun e _ => q e)) (initEnv 0 [.int .u64 v, .int .i64 6]) AH0 = q (.ret (.str [rawB v, rawB (nextB v), rawB (nextB (nextB v)), rawB (nextB (nextB (nextB v))), rawB (nextB (nextB (nextB (nextB v)))), rawB (nextB (nextB (nextB (nextB (nextB v)))))])) := by kernel_rfl
theorem c23_6 (q : AEnd → Prop) (v : Int) (c : q (.ret (.str [rawB v, rawB (nextB v), rawB (nextB (nextB v)), rawB (nextB (nextB (nextB v))), rawB (nextB (nextB (nextB (nextB v)))), rawB (nextB (nextB (nextB (nextB (nextB v)))))]))) : ACalls Pg 23 [.int .u64 v, .int .i64 6] AH0 fun e _ => q e :=
  acalls_vc okP Try.func23 (show Try.f23.body = some B23 from by kernel_rfl) .leaf N23 R23 rfl (by kernel_rfl) (by rw [ev23_6 q v]; exact c)
theorem ev22_7 (q : AEnd → Prop) (v : Int) : vc Pg N22 B22 .leaf (vcRet Pg R22 (fun e _ => q e)) (initEnv 0 [.int .u64 v, .int .i64 7]) AH0 = q (.ret (.str [rawA v 0, rawA v 1, rawA v 2, rawA v 3, rawA v 4, rawA v 5, rawA v 6])) := by kernel_rfl
theorem c22_7 (q : AEnd → Prop) (v : Int) (c : q (.ret (.str [rawA v 0, rawA v 1, rawA v 2, rawA v 3, rawA v 4, rawA v 5, rawA v 6]))) : ACalls Pg 22 [.int .u64 v, .int .i64 7] AH0 fun e _ => q e :=
  acalls_vc okP Try.func22 (show Try.f22.body = some B22 from by kernel_rfl) .leaf N22 R22 rfl (by kernel_rfl) (by rw [ev22_7 q v]; exact c)
theorem ev23_7 (q : AEnd → Prop) (v : Int) : vc Pg N23 B23 .leaf (vcRet Pg R23 (fun e _ => q e)) (initEnv 0 [.int .u64 v, .int .i64 7]) AH0 = q (.ret (.str [rawB v, rawB (nextB v), rawB (nextB (nextB v)), rawB (nextB (nextB (nextB v))), rawB (nextB (nextB (nextB (nextB v)))), rawB (nextB (nextB (nextB (nextB (nextB v))))), rawB (nextB (nextB (nextB (nextB (nextB (nextB v))))))])) := by kernel_rfl
theorem c23_7 (q : AEnd → Prop) (v : Int) (c : q (.ret (.str [rawB v, rawB (nextB v), rawB (nextB (nextB v)), rawB (nextB (nextB (nextB v))), rawB (nextB (nextB (nextB (nextB v)))), rawB (nextB (nextB (nextB (nextB (nextB v))))), rawB (nextB (nextB (nextB (nextB (nextB (nextB v))))))]))) : ACalls Pg 23 [.int .u64 v, .int .i64 7] AH0 fun e _ => q e :=
  acalls_vc okP Try.func23 (show Try.f23.body = some B23 from by kernel_rfl) .leaf N23 R23 rfl (by kernel_rfl) (by rw [ev23_7 q v]; exact c)
theorem ev22_8 (q : AEnd → Prop) (v : Int) : vc Pg N22 B22 .leaf (vcRet Pg R22 (fun e _ => q e)) (initEnv 0 [.int .u64 v, .int .i64 8]) AH0 = q (.ret (.str [rawA v 0, rawA v 1, rawA v 2, rawA v 3, rawA v 4, rawA v 5, rawA v 6, rawA v 7])) := by kernel_rfl
theorem c22_8 (q : AEnd → Prop) (v : Int) (c : q (.ret (.str [rawA v 0, rawA v 1, rawA v 2, rawA v 3, rawA v 4, rawA v 5, rawA v 6, rawA v 7]))) : ACalls Pg 22 [.int .u64 v, .int .i64 8] AH0 fun e _ => q e :=
  acalls_vc okP Try.func22 (show Try.f22.body = some B22 from by kernel_rfl) .leaf N22 R22 rfl (by kernel_rfl) (by rw [ev22_8 q v]; exact c)
theorem ev23_8 (q : AEnd → Prop) (v : Int) : vc Pg N23 B23 .leaf (vcRet Pg R23 (fun e _ => q e)) (initEnv 0 [.int .u64 v, .int .i64 8]) AH0 = q (.ret (.str [rawB v, rawB (nextB v), rawB (nextB (nextB v)), rawB (nextB (nextB (nextB v))), rawB (nextB (nextB (nextB (nextB v)))), rawB (nextB (nextB (nextB (nextB (nextB v))))), rawB (nextB (nextB (nextB (nextB (nextB (nextB v)))))), rawB (nextB (nextB (nextB (nextB (nextB (nextB (nextB v)))))))])) := by kernel_rfl
theorem c23_8 (q : AEnd → Prop) (v : Int) (c : q (.ret (.str [rawB v, rawB (nextB v), rawB (nextB (nextB v)), rawB (nextB (nextB (nextB v))), rawB (nextB (nextB (nextB (nextB v)))), rawB (nextB (nextB (nextB (nextB (nextB v))))), rawB (nextB (nextB (nextB (nextB (nextB (nextB v)))))), rawB (nextB (nextB (nextB (nextB (nextB (nextB (nextB v)))))))]))) : ACalls Pg 23 [.int .u64 v, .int .i64 8] AH0 fun e _ => q e :=
  acalls_vc okP Try.func23 (show Try.f23.body = some B23 from by kernel_rfl) .leaf N23 R23 rfl (by kernel_rfl) (by rw [ev23_8 q v]; exact c)
theorem rawA_n (v i : Nat) (hi : i ≤ 8) : rawA (v : Int) (i : Int) = UInt8.ofNat (v / 256 ^ i % 256) := by
  unfold rawA
  have e : IntKind.i64.wrap (8 * (i : Int)) = ((8 * i : Nat) : Int) := by rw [wrap_i64 (by omega) (by omega)]; rfl
  have e3 : (IntKind.u8.wrap ((v / 2 ^ (8 * i) : Nat) : Int)).toNat = v / 2 ^ (8 * i) % 256 := by
    generalize v / 2 ^ (8 * i) = x
    rw [wrap_u8]; omega
  rw [e, shr_n v (8 * i) (by omega), e3, show (256 : Nat) ^ i = 2 ^ (8 * i) by rw [Nat.pow_mul]]
theorem rawB_n (v : Nat) : rawB (v : Int) = UInt8.ofNat (v % 256) := by
  unfold rawB
  have : (IntKind.u8.wrap (Int.tmod (v : Int) 256)).toNat = v % 256 := by
    rw [wrap_u8, Int.tmod_eq_emod_of_nonneg (by omega)]; omega
  rw [this]
theorem nextB_n (v : Nat) (h : v < 18446744073709551616) : nextB (v : Int) = ((v / 256 : Nat) : Int) := by
  unfold nextB
  rw [wrap_u64, Int.tdiv_eq_ediv_of_nonneg (by omega)]; omega
theorem putB_range (v n : Nat) : putB v n = (List.range n).map fun i => UInt8.ofNat (v / 256 ^ i % 256) := by
  rw [putB, byteL_range, List.map_map]; rfl
theorem putAn (v n : Nat) (hn : n ≤ 8) (hv : v < 18446744073709551616) (h : AH) : ACalls Pg 22 [.int .u64 (v : Int), .int .i64 (n : Int)] h (pureE (.str (putB v n)) h) := by
  refine pure_lift rfl rfl ?_ h
  have hc : n = 0 ∨ n = 1 ∨ n = 2 ∨ n = 3 ∨ n = 4 ∨ n = 5 ∨ n = 6 ∨ n = 7 ∨ n = 8 := by omega
  rcases hc with rfl | rfl | rfl | rfl | rfl | rfl | rfl | rfl | rfl
  · refine c22_0 _ _ ?_
    rw [putB_range]; rfl
  · refine c22_1 _ _ ?_
    have r0 : rawA (v : Int) 0 = UInt8.ofNat (v / 256 ^ 0 % 256) := rawA_n v 0 (by decide)
    rw [r0]
    rw [putB_range]; rfl
  · refine c22_2 _ _ ?_
    have r0 : rawA (v : Int) 0 = UInt8.ofNat (v / 256 ^ 0 % 256) := rawA_n v 0 (by decide)
    have r1 : rawA (v : Int) 1 = UInt8.ofNat (v / 256 ^ 1 % 256) := rawA_n v 1 (by decide)
    rw [r0, r1]
    rw [putB_range]; rfl
  · refine c22_3 _ _ ?_
    have r0 : rawA (v : Int) 0 = UInt8.ofNat (v / 256 ^ 0 % 256) := rawA_n v 0 (by decide)
    have r1 : rawA (v : Int) 1 = UInt8.ofNat (v / 256 ^ 1 % 256) := rawA_n v 1 (by decide)
    have r2 : rawA (v : Int) 2 = UInt8.ofNat (v / 256 ^ 2 % 256) := rawA_n v 2 (by decide)
    rw [r0, r1, r2]
    rw [putB_range]; rfl
  · refine c22_4 _ _ ?_
    have r0 : rawA (v : Int) 0 = UInt8.ofNat (v / 256 ^ 0 % 256) := rawA_n v 0 (by decide)
    have r1 : rawA (v : Int) 1 = UInt8.ofNat (v / 256 ^ 1 % 256) := rawA_n v 1 (by decide)
    have r2 : rawA (v : Int) 2 = UInt8.ofNat (v / 256 ^ 2 % 256) := rawA_n v 2 (by decide)
    have r3 : rawA (v : Int) 3 = UInt8.ofNat (v / 256 ^ 3 % 256) := rawA_n v 3 (by decide)
    rw [r0, r1, r2, r3]
    rw [putB_range]; rfl
  · refine c22_5 _ _ ?_
    have r0 : rawA (v : Int) 0 = UInt8.ofNat (v / 256 ^ 0 % 256) := rawA_n v 0 (by decide)
    have r1 : rawA (v : Int) 1 = UInt8.ofNat (v / 256 ^ 1 % 256) := rawA_n v 1 (by decide)
    have r2 : rawA (v : Int) 2 = UInt8.ofNat (v / 256 ^ 2 % 256) := rawA_n v 2 (by decide)
    have r3 : rawA (v : Int) 3 = UInt8.ofNat (v / 256 ^ 3 % 256) := rawA_n v 3 (by decide)
    have r4 : rawA (v : Int) 4 = UInt8.ofNat (v / 256 ^ 4 % 256) := rawA_n v 4 (by decide)
    rw [r0, r1, r2, r3, r4]
    rw [putB_range]; rfl
  · refine c22_6 _ _ ?_
    have r0 : rawA (v : Int) 0 = UInt8.ofNat (v / 256 ^ 0 % 256) := rawA_n v 0 (by decide)
    have r1 : rawA (v : Int) 1 = UInt8.ofNat (v / 256 ^ 1 % 256) := rawA_n v 1 (by decide)
    have r2 : rawA (v : Int) 2 = UInt8.ofNat (v / 256 ^ 2 % 256) := rawA_n v 2 (by decide)
    have r3 : rawA (v : Int) 3 = UInt8.ofNat (v / 256 ^ 3 % 256) := rawA_n v 3 (by decide)
    have r4 : rawA (v : Int) 4 = UInt8.ofNat (v / 256 ^ 4 % 256) := rawA_n v 4 (by decide)
    have r5 : rawA (v : Int) 5 = UInt8.ofNat (v / 256 ^ 5 % 256) := rawA_n v 5 (by decide)
    rw [r0, r1, r2, r3, r4, r5]
    rw [putB_range]; rfl
  · refine c22_7 _ _ ?_
    have r0 : rawA (v : Int) 0 = UInt8.ofNat (v / 256 ^ 0 % 256) := rawA_n v 0 (by decide)
    have r1 : rawA (v : Int) 1 = UInt8.ofNat (v / 256 ^ 1 % 256) := rawA_n v 1 (by decide)
    have r2 : rawA (v : Int) 2 = UInt8.ofNat (v / 256 ^ 2 % 256) := rawA_n v 2 (by decide)
    have r3 : rawA (v : Int) 3 = UInt8.ofNat (v / 256 ^ 3 % 256) := rawA_n v 3 (by decide)
    have r4 : rawA (v : Int) 4 = UInt8.ofNat (v / 256 ^ 4 % 256) := rawA_n v 4 (by decide)
    have r5 : rawA (v : Int) 5 = UInt8.ofNat (v / 256 ^ 5 % 256) := rawA_n v 5 (by decide)
    have r6 : rawA (v : Int) 6 = UInt8.ofNat (v / 256 ^ 6 % 256) := rawA_n v 6 (by decide)
    rw [r0, r1, r2, r3, r4, r5, r6]
    rw [putB_range]; rfl
  · refine c22_8 _ _ ?_
    have r0 : rawA (v : Int) 0 = UInt8.ofNat (v / 256 ^ 0 % 256) := rawA_n v 0 (by decide)
    have r1 : rawA (v : Int) 1 = UInt8.ofNat (v / 256 ^ 1 % 256) := rawA_n v 1 (by decide)
    have r2 : rawA (v : Int) 2 = UInt8.ofNat (v / 256 ^ 2 % 256) := rawA_n v 2 (by decide)
    have r3 : rawA (v : Int) 3 = UInt8.ofNat (v / 256 ^ 3 % 256) := rawA_n v 3 (by decide)
    have r4 : rawA (v : Int) 4 = UInt8.ofNat (v / 256 ^ 4 % 256) := rawA_n v 4 (by decide)
    have r5 : rawA (v : Int) 5 = UInt8.ofNat (v / 256 ^ 5 % 256) := rawA_n v 5 (by decide)
    have r6 : rawA (v : Int) 6 = UInt8.ofNat (v / 256 ^ 6 % 256) := rawA_n v 6 (by decide)
    have r7 : rawA (v : Int) 7 = UInt8.ofNat (v / 256 ^ 7 % 256) := rawA_n v 7 (by decide)
    rw [r0, r1, r2, r3, r4, r5, r6, r7]
    rw [putB_range]; rfl
theorem putBn (v n : Nat) (hn : n ≤ 8) (hv : v < 18446744073709551616) (h : AH) : ACalls Pg 23 [.int .u64 (v : Int), .int .i64 (n : Int)] h (pureE (.str (putB v n)) h) := by
  refine pure_lift rfl rfl ?_ h
  have hc : n = 0 ∨ n = 1 ∨ n = 2 ∨ n = 3 ∨ n = 4 ∨ n = 5 ∨ n = 6 ∨ n = 7 ∨ n = 8 := by omega
  rcases hc with rfl | rfl | rfl | rfl | rfl | rfl | rfl | rfl | rfl
  · refine c23_0 _ _ ?_
    rfl
  · refine c23_1 _ _ ?_
    rw [rawB_n]
    rfl
  · refine c23_2 _ _ ?_
    rw [nextB_n (v) (by omega), rawB_n, rawB_n]
    rfl
  · refine c23_3 _ _ ?_
    rw [nextB_n (v) (by omega), nextB_n (v / 256) (by omega), rawB_n, rawB_n, rawB_n]
    rfl
  · refine c23_4 _ _ ?_
    rw [nextB_n (v) (by omega), nextB_n (v / 256) (by omega), nextB_n (v / 256 / 256) (by omega), rawB_n, rawB_n, rawB_n, rawB_n]
    rfl
  · refine c23_5 _ _ ?_
    rw [nextB_n (v) (by omega), nextB_n (v / 256) (by omega), nextB_n (v / 256 / 256) (by omega), nextB_n (v / 256 / 256 / 256) (by omega), rawB_n, rawB_n, rawB_n, rawB_n, rawB_n]
    rfl
  · refine c23_6 _ _ ?_
    rw [nextB_n (v) (by omega), nextB_n (v / 256) (by omega), nextB_n (v / 256 / 256) (by omega), nextB_n (v / 256 / 256 / 256) (by omega), nextB_n (v / 256 / 256 / 256 / 256) (by omega), rawB_n, rawB_n, rawB_n, rawB_n, rawB_n, rawB_n]
    rfl
  · refine c23_7 _ _ ?_
    rw [nextB_n (v) (by omega), nextB_n (v / 256) (by omega), nextB_n (v / 256 / 256) (by omega), nextB_n (v / 256 / 256 / 256) (by omega), nextB_n (v / 256 / 256 / 256 / 256) (by omega), nextB_n (v / 256 / 256 / 256 / 256 / 256) (by omega), rawB_n, rawB_n, rawB_n, rawB_n, rawB_n, rawB_n, rawB_n]
    rfl
  · refine c23_8 _ _ ?_
    rw [nextB_n (v) (by omega), nextB_n (v / 256) (by omega), nextB_n (v / 256 / 256) (by omega), nextB_n (v / 256 / 256 / 256) (by omega), nextB_n (v / 256 / 256 / 256 / 256) (by omega), nextB_n (v / 256 / 256 / 256 / 256 / 256) (by omega), nextB_n (v / 256 / 256 / 256 / 256 / 256 / 256) (by omega), rawB_n, rawB_n, rawB_n, rawB_n, rawB_n, rawB_n, rawB_n, rawB_n]
    rfl
theorem putAx (v : Nat) (n : Int) (hn : n < 0 ∨ n > 8) (h : AH) : ACalls Pg 22 [.int .u64 (v : Int), .int .i64 n] h (pureE (.str []) h) := by
  refine pure_lift rfl rfl (C22 _ _ _ _ ?_) h
  by_cases h0 : n < 0
  · refine bindS_mk (b_lss_t (by omega)) ?_
    refine g_tf ?_
    refine Meet.of (cast_p (G22_1001002_eq _ _ _ _ _ _) ?_)
    refine bindV_mk p_t ?_
    refine Meet.of (cast_p (J22_101_eq _ _ _ _ _) ?_)
    refine i_t ?_
    rfl
  · refine bindS_mk (b_lss_f (by omega)) ?_
    refine g_ff ?_
    refine bindS_mk (b_gtr_t (by omega)) ?_
    refine Meet.of (cast_p (G22_1001002_eq _ _ _ _ _ _) ?_)
    refine bindV_mk p_f ?_
    refine Meet.of (cast_p (J22_101_eq _ _ _ _ _) ?_)
    refine i_t ?_
    rfl
theorem putBx (v : Nat) (n : Int) (hn : n < 0 ∨ n > 8) (h : AH) : ACalls Pg 23 [.int .u64 (v : Int), .int .i64 n] h (pureE (.str []) h) := by
  refine pure_lift rfl rfl (C23 _ _ _ _ ?_) h
  by_cases h0 : n < 0
  · refine bindS_mk (b_lss_t (by omega)) ?_
    refine g_tf ?_
    refine Meet.of (cast_p (G23_1001002_eq _ _ _ _ _ _) ?_)
    refine bindV_mk p_t ?_
    refine Meet.of (cast_p (J23_101_eq _ _ _ _ _) ?_)
    refine i_t ?_
    rfl
  · refine bindS_mk (b_lss_f (by omega)) ?_
    refine g_ff ?_
    refine bindS_mk (b_gtr_t (by omega)) ?_
    refine Meet.of (cast_p (G23_1001002_eq _ _ _ _ _ _) ?_)
    refine bindV_mk p_f ?_
    refine Meet.of (cast_p (J23_101_eq _ _ _ _ _) ?_)
    refine i_t ?_
    rfl
end Go.Proofs.Ytdhlolcpcgpcnaa.Sh
namespace Go.Proofs.Ytdhlolcpcgpcnaa.Sh
open Go Go.Ab Go.RowKit Go.Gr
set_option linter.unusedSimpArgs false
set_option linter.unusedVariables false
set_option maxRecDepth 10000
theorem loop18 (q : AEnd → Prop) (h : AH) (s : List UInt8) (at_ n : Nat) (hn : n ≤ 8) (hb : at_ + n ≤ s.length) (hs : s.length < 140737488355328) (c : q (.ret (.tup [.int .u64 ((valB s at_ n : Nat) : Int), .bool true]))) :
    ∀ (i f : Nat), i ≤ n → i < f → L18_111010 (fun e _ => q e) f (.str s) (.int .i64 (at_ : Int)) (.int .u64 ((valB s (at_ + i) (n - i) : Nat) : Int)) (.int .i64 ((i : Int) - 1)) h
  | i, 0, _, hf => absurd hf (by omega)
  | 0, f + 1, _, _ => by
    rw [L18_111010_eq]
    refine bindS_mk (b_geq_f (by omega)) ?_
    refine i_f ?_
    refine Meet.of (cast_p (J18_1111_eq _ _ _) ?_)
    exact c
  | i + 1, f + 1, hi, hf => by
    rw [L18_111010_eq]
    refine bindS_mk (b_geq_t (by omega)) ?_
    refine i_t ?_
    refine Meet.of (cast_p (J18_11101001_eq _ _ _ _ _ _ _) ?_)
    refine bindS_mk (b_shl (by decide)) ?_
    have hv := valB_lt s (n - (i + 1)) (at_ + (i + 1))
    have hp : 256 ^ (n - (i + 1)) ≤ 72057594037927936 := Nat.pow_le_pow_right (n := 256) (by omega) (show n - (i + 1) ≤ 7 by omega)
    have e1 : shlI .u64 ((valB s (at_ + (i + 1)) (n - (i + 1)) : Nat) : Int) 8 = ((valB s (at_ + (i + 1)) (n - (i + 1)) * 2 ^ 8 : Nat) : Int) := shl_n _ 8 (by decide) (by omega)
    rw [e1]
    refine bindS_mk (b_add64 (by omega) (by omega)) ?_
    have e2 : (at_ : Int) + (((i + 1 : Nat) : Int) - 1) = ((at_ + i : Nat) : Int) := by omega
    rw [e2]
    refine bindS_mk (ix_str str9 (by omega)) ?_
    refine bindS_mk (cv_int .u64 (by kernel_rfl)) ?_
    have hbt := (s.getD (at_ + i) 0).toNat_lt
    have e3 : IntKind.u64.wrap ((s.getD (at_ + i) 0).toNat : Int) = ((s.getD (at_ + i) 0).toNat : Int) := by
      generalize (s.getD (at_ + i) 0).toNat = x at hbt ⊢
      rw [wrap_u64]; omega
    rw [e3]
    refine bindS_mk b_or ?_
    rw [or_join 8 _ _ (by omega) (by omega)]
    refine Meet.of (cast_p (J18_111010011_eq _ _ _ _ _ _ _) ?_)
    refine bindS_mk (b_sub64 (by omega) (by omega)) ?_
    have e4 : ((i + 1 : Nat) : Int) - 1 - 1 = (i : Int) - 1 := by omega
    have e5 : valB s (at_ + (i + 1)) (n - (i + 1)) * 2 ^ 8 + (s.getD (at_ + i) 0).toNat = valB s (at_ + i) (n - i) := by
      rw [show n - i = (n - (i + 1)) + 1 by omega, valB, Nat.add_assoc]; omega
    rw [e4, e5]
    exact Meet.of (loop18 q h s at_ n hn hb hs c i f (by omega) (by omega))
theorem getP (s : List UInt8) (at_ n : Nat) (hn : n ≤ 8) (hb : at_ + n ≤ s.length) (hs : s.length < 140737488355328) (h : AH) :
    ACalls Pg 18 [.str s, .int .i64 (at_ : Int), .int .i64 (n : Int)] h (pureE (.tup [.int .u64 ((valB s at_ n : Nat) : Int), .bool true]) h) := by
  refine pure_lift rfl rfl (C18 _ _ _ _ _ ?_) h
  refine bindS_mk (b_lss_f (by omega)) ?_
  refine g_ff ?_
  refine bindS_mk (b_gtr_f (by omega)) ?_
  refine Meet.of (cast_p (G18_1001002_eq _ _ _ _ _ _ _) ?_)
  refine bindV_mk p_f ?_
  refine g_ff ?_
  refine bindS_mk (b_lss_f (by omega)) ?_
  refine Meet.of (cast_p (G18_1001004_eq _ _ _ _ _ _ _) ?_)
  refine bindV_mk p_f ?_
  refine g_ff ?_
  refine bindV_mk (len_str (by kernel_rfl)) ?_
  refine bindS_mk (b_gtr_f (by omega)) ?_
  refine Meet.of (cast_p (G18_1001006_eq _ _ _ _ _ _ _) ?_)
  refine bindV_mk p_f ?_
  refine g_ff ?_
  refine bindV_mk (len_str (by kernel_rfl)) ?_
  refine bindS_mk (b_sub64 (by omega) (by omega)) ?_
  refine bindS_mk (b_gtr_f (by omega)) ?_
  refine Meet.of (cast_p (G18_1001008_eq _ _ _ _ _ _ _) ?_)
  refine bindV_mk p_f ?_
  refine Meet.of (cast_p (J18_101_eq _ _ _ _ _ _) ?_)
  refine i_f ?_
  refine Meet.of (cast_p (J18_11_eq _ _ _ _ _) ?_)
  refine bindS_mk (b_sub64 (by omega) (by omega)) ?_
  have l := loop18 (fun e => e = .ret (.tup [.int .u64 ((valB s at_ n : Nat) : Int), .bool true])) AH0 s at_ n hn hb hs rfl n (n + 1) (Nat.le_refl _) (by omega)
  rw [Nat.sub_self] at l
  exact ⟨n + 1, Meet.of l⟩
theorem p7 (j : Nat) : (128 : Nat) ^ j = 2 ^ (7 * j) := by rw [Nat.pow_mul]
theorem loop25 (q : AEnd → Prop) (h : AH) (s : List UInt8) (at_ k : Nat) (hk : k ≤ 9) (hb : at_ + k < s.length) (hs : s.length < 140737488355328) (c : Nat → Nat) (hc : ∀ i, c i = (s.getD (at_ + i) 0).toNat)
    (h1 : ∀ i, i < k → 128 ≤ c i) (h2 : c k < 128) (h3 : k ≠ 0 → c k ≠ 0) (h9 : k = 9 → c k ≤ 1)
    (cc : q (.ret (.tup [.int .u64 ((pref c (k + 1) : Nat) : Int), .int .i64 ((at_ + k + 1 : Nat) : Int), .bool true]))) :
    ∀ (m j f : Nat), j + m = k → m < f → L25_111010 (fun e _ => q e) f (.str s) (.int .i64 (at_ : Int)) (.int .u64 ((pref c j : Nat) : Int)) (.int .i64 (j : Int)) h
  | m, j, 0, _, hf => absurd hf (by omega)
  | m, j, f + 1, hj, hf => by
    have hcj : c j < 256 := by rw [hc]; exact (s.getD (at_ + j) 0).toNat_lt
    rw [L25_111010_eq]
    refine bindS_mk (b_lss_t (by omega)) ?_
    refine g_tt ?_
    refine bindV_mk (len_str (by kernel_rfl)) ?_
    refine bindS_mk (b_sub64 (by omega) (by omega)) ?_
    refine bindS_mk (b_lss_t (by omega)) ?_
    refine Meet.of (cast_p (G25_1110100001002_eq _ _ _ _ _ _ _ _ _) ?_)
    refine bindV_mk p_t ?_
    refine Meet.of (cast_p (J25_111010001_eq _ _ _ _ _ _ _ _) ?_)
    refine i_t ?_
    refine Meet.of (cast_p (J25_11101001_eq _ _ _ _ _ _ _) ?_)
    refine bindS_mk (c_add (by omega)) ?_
    refine bindS_mk (ix_str str9 (by omega)) ?_
    rw [← hc j]
    refine bindS_mk (v := .bool (decide (j = 9))) (by
      by_cases h : j = 9
      · rw [decide_eq_true h]; exact b_eql_t (by omega)
      · rw [decide_eq_false h]; exact b_eql_f (by omega)) ?_
    have front : J25_111010010011 (fun e _ => q e) f (.str s) (.int .i64 (at_ : Int)) (.int .u64 ((pref c j : Nat) : Int)) (.int .i64 (j : Int)) (.int .u8 (c j : Int)) h := by
      rw [J25_111010010011_eq]
      refine bindS_mk b_and ?_
      rw [and8_127 _ hcj]
      refine bindS_mk (cv_int .u64 (by kernel_rfl)) ?_
      have e3 : IntKind.u64.wrap ((c j % 128 : Nat) : Int) = ((c j % 128 : Nat) : Int) := by
        generalize c j = x at hcj ⊢
        rw [wrap_u64]; omega
      rw [e3]
      refine bindS_mk (b_mul64 (by omega) (by omega)) ?_
      have e4 : (7 : Int) * (j : Int) = ((7 * j : Nat) : Int) := by omega
      rw [e4]
      refine bindS_mk (b_shl (by omega)) ?_
      have fit := pref_fits c j (by omega) (fun h => by
        have : j = k := by omega
        rw [this]; exact h9 (by omega))
      have hlt := pref_lt c j
      rw [p7] at fit hlt
      rw [Nat.mul_comm (2 ^ (7 * j))] at fit
      rw [shl_n _ _ (by omega) (by omega)]
      refine bindS_mk b_or ?_
      rw [or_join' (7 * j) _ _ hlt (by omega)]
      have e5 : c j % 128 * 2 ^ (7 * j) + pref c j = pref c (j + 1) := by
        rw [pref_succ, p7, Nat.mul_comm, Nat.add_comm]
      rw [e5]
      by_cases hl : j = k
      · subst hl
        refine bindS_mk (b_lss_t (by omega)) ?_
        refine i_t ?_
        have tail : J25_1110100100111101 (fun e _ => q e) f (.int .i64 (at_ : Int)) (.int .u64 ((pref c (j + 1) : Nat) : Int)) (.int .i64 (j : Int)) h := by
          rw [J25_1110100100111101_eq]
          refine bindS_mk (c_add (by omega)) ?_
          refine bindS_mk (c_inc (by omega)) ?_
          exact cc
        by_cases hz : c j = 0
        · have hj0 : j = 0 := by
            rcases Nat.eq_zero_or_pos j with h | h
            · exact h
            · exact absurd hz (h3 (by omega))
          refine bindS_mk (b_eql_t (by omega)) ?_
          refine g_tt ?_
          refine bindS_mk (b_gtr_f (by omega)) ?_
          refine Meet.of (cast_p (G25_111010010011110001002_eq _ _ _ _ _ _ _ _) ?_)
          refine bindV_mk p_t ?_
          refine Meet.of (cast_p (J25_11101001001111001_eq _ _ _ _ _ _ _) ?_)
          exact i_f (Meet.of tail)
        · refine bindS_mk (b_eql_f (by omega)) ?_
          refine g_ft ?_
          refine Meet.of (cast_p (G25_111010010011110001002_eq _ _ _ _ _ _ _ _) ?_)
          refine bindV_mk p_f ?_
          refine Meet.of (cast_p (J25_11101001001111001_eq _ _ _ _ _ _ _) ?_)
          exact i_f (Meet.of tail)
      · have := h1 j (by omega)
        refine bindS_mk (b_lss_f (by omega)) ?_
        refine i_f ?_
        refine Meet.of (cast_p (J25_111010011_eq _ _ _ _ _ _ _) ?_)
        refine bindS_mk (c_inc (by omega)) ?_
        exact Meet.of (loop25 q h s at_ k hk hb hs c hc h1 h2 h3 h9 cc (m - 1) (j + 1) f (by omega) (by omega))
    by_cases hj9 : j = 9
    · rw [decide_eq_true hj9]
      have hle : c j ≤ 1 := by
        have e : j = k := by omega
        rw [e]; exact h9 (by omega)
      refine g_tt ?_
      refine bindS_mk (b_gtr_f (by omega)) ?_
      refine Meet.of (cast_p (G25_11101001001001002_eq _ _ _ _ _ _ _ _ _ _) ?_)
      refine bindV_mk p_t ?_
      refine Meet.of (cast_p (J25_1110100100101_eq _ _ _ _ _ _ _ _ _) ?_)
      exact i_f (Meet.of front)
    · rw [decide_eq_false hj9]
      refine g_ft ?_
      refine Meet.of (cast_p (G25_11101001001001002_eq _ _ _ _ _ _ _ _ _ _) ?_)
      refine bindV_mk p_f ?_
      refine Meet.of (cast_p (J25_1110100100101_eq _ _ _ _ _ _ _ _ _) ?_)
      exact i_f (Meet.of front)
theorem varB_at (a b : List UInt8) (L : List Nat) (hL : ∀ y ∈ L, y < 256) (i : Nat) (hi : i < L.length) : ((a ++ L.map UInt8.ofNat ++ b).getD (a.length + i) 0).toNat = L[i] := by
  rw [List.append_assoc, List.getD_eq_getElem?_getD, List.getElem?_append_right (by omega), Nat.add_sub_cancel_left, List.getElem?_append_left (by simpa using hi), List.getElem?_map, List.getElem?_eq_getElem hi]
  exact UInt8.toNat_ofNat_of_lt' (hL _ (List.getElem_mem hi))
theorem takeP (v : Nat) (hv : v < 18446744073709551616) (a b : List UInt8) (ha : a.length ≤ 65536) (hb : b.length ≤ 65536) (h : AH) :
    ACalls Pg 25 [.str (a ++ varB v ++ b), .int .i64 (a.length : Int)] h (pureE (.tup [.int .u64 (v : Int), .int .i64 ((a.length + (varL v).length : Nat) : Int), .bool true]) h) := by
  refine pure_lift rfl rfl (C25 _ _ _ _ ?_) h
  refine bindS_mk (b_lss_f (by omega)) ?_
  refine i_f ?_
  refine Meet.of (cast_p (J25_11_eq _ _ _ _) ?_)
  have hl := varL10 v hv
  obtain ⟨n, hn⟩ : ∃ n, (varL v).length = n + 1 := ⟨(varL v).length - 1, by have := len_pos v; omega⟩
  have hs : (a ++ varB v ++ b).length = a.length + (varL v).length + b.length := by rw [List.length_append, List.length_append, varB_length]
  have hbt := varB_at a b (varL v) (varL_byte v)
  rw [show (varL v).map UInt8.ofNat = varB v from rfl] at hbt
  generalize hsd : a ++ varB v ++ b = s at *
  let c : Nat → Nat := fun i => (s.getD (a.length + i) 0).toNat
  have hrow : varL v = (List.range (n + 1)).map c := by
    apply List.ext_getElem
    · simp [hn]
    · intro i h1 h2
      rw [List.getElem_map, List.getElem_range]
      exact (hbt i h1).symm
  have hr := (varL_row c (fun i => (s.getD (a.length + i) 0).toNat_lt) v n).1 hrow
  have h9 : n = 9 → c n ≤ 1 := by
    rintro rfl
    rcases Nat.lt_or_ge 1 (c 9) with h | h
    · have := pref_fits_not c h hr.1.2.1
      have e : v = pref c 10 := hr.2
      omega
    · exact h
  refine ⟨n + 1, Meet.of ?_⟩
  refine loop25 (fun e => e = .ret (.tup [.int .u64 (v : Int), .int .i64 ((a.length + (varL v).length : Nat) : Int), .bool true])) AH0 s a.length n (by omega) (by omega) (by omega) c (fun _ => rfl) hr.1.1 hr.1.2.1 hr.1.2.2 h9 ?_ n 0 (n + 1) (by omega) (by omega)
  rw [← hr.2, hn]
  rfl
end Go.Proofs.Ytdhlolcpcgpcnaa.Sh
namespace Go.Proofs.Ytdhlolcpcgpcnaa.Sh
open Go Go.Ab Go.RowKit Go.Gr
set_option linter.unusedSimpArgs false
set_option linter.unusedVariables false
set_option maxRecDepth 10000
theorem nil_mk (p : PA) (h : AH) : aNil (.ptr (some p)) h = some (.ptr (some p), h) := rfl
/-- What a reader gives up with. -/
def tooShort : V := .ifc 73 (.agg [])
def panE (v : V) (h' : AH) (e : AEnd) (h'' : AH) : Prop := e = .panic v ∧ h'' = h'
theorem callW_mk {f : FuncId} {args : List V} {h h' : AH} {v : V} {K X : V → AH → Prop} (c : ACalls Pg f args h (pureE v h')) (k : K v h') : ACalls Pg f args h (aEnd K X) :=
  c.mono fun e h'' q => by
    cases e with
    | ret u => obtain ⟨rfl, rfl⟩ := q; exact k
    | panic _ => exact q.elim
theorem callP_mk {f : FuncId} {args : List V} {h h' : AH} {v : V} {K X : V → AH → Prop} (c : ACalls Pg f args h (panE v h')) (k : X v h') : ACalls Pg f args h (aEnd K X) :=
  c.mono fun e h'' q => by
    obtain ⟨rfl, rfl⟩ := q; exact k
theorem sl_lo (h : AH) (s : List UInt8) (l : Nat) (hl : l ≤ s.length) : aSlice Pg h 9 (.str s) (some (.int .i64 (l : Int))) none = some (.str (s.drop l)) := by
  have e : aSlice Pg h 9 (.str s) (some (.int .i64 (l : Int))) none = (match bnd (some (.int .i64 (l : Int))) 0, bnd none s.length with | some l, some k => if l ≤ k ∧ k ≤ s.length then some (.str ((s.drop l).take (k - l))) else none | _, _ => none) := by kernel_rfl
  have e1 : bnd (some (.int .i64 (l : Int))) 0 = some l := by simp [bnd]
  have e2 : bnd none s.length = some s.length := rfl
  rw [e, e1, e2]
  simp only [hl, Nat.le_refl, and_self, if_true]
  rw [List.take_of_length_le (by simp)]
theorem sl_hi (h : AH) (s : List UInt8) (k : Nat) (hk : k ≤ s.length) : aSlice Pg h 9 (.str s) none (some (.int .i64 (k : Int))) = some (.str (s.take k)) := by
  have e : aSlice Pg h 9 (.str s) none (some (.int .i64 (k : Int))) = (match bnd none 0, bnd (some (.int .i64 (k : Int))) s.length with | some l, some k => if l ≤ k ∧ k ≤ s.length then some (.str ((s.drop l).take (k - l))) else none | _, _ => none) := by kernel_rfl
  have e1 : bnd (some (.int .i64 (k : Int))) s.length = some k := by simp [bnd]
  have e2 : bnd none 0 = some 0 := rfl
  rw [e, e1, e2]
  simp only [hk, Nat.zero_le, and_self, if_true, List.drop_zero, Nat.sub_zero]
theorem getP0 (s : List UInt8) (n : Nat) (hn : n ≤ 8) (hb : s.length < n) (h : AH) :
    ACalls Pg 18 [.str s, .int .i64 0, .int .i64 (n : Int)] h (pureE (.tup [.int .u64 0, .bool false]) h) := by
  refine pure_lift rfl rfl (C18 _ _ _ _ _ ?_) h
  refine bindS_mk (b_lss_f (by omega)) ?_
  refine g_ff ?_
  refine bindS_mk (b_gtr_f (by omega)) ?_
  refine Meet.of (cast_p (G18_1001002_eq _ _ _ _ _ _ _) ?_)
  refine bindV_mk p_f ?_
  refine g_ff ?_
  refine bindS_mk (b_lss_f (by omega)) ?_
  refine Meet.of (cast_p (G18_1001004_eq _ _ _ _ _ _ _) ?_)
  refine bindV_mk p_f ?_
  refine g_ff ?_
  refine bindV_mk (len_str (by kernel_rfl)) ?_
  refine bindS_mk (b_gtr_f (by omega)) ?_
  refine Meet.of (cast_p (G18_1001006_eq _ _ _ _ _ _ _) ?_)
  refine bindV_mk p_f ?_
  refine g_ff ?_
  refine bindV_mk (len_str (by kernel_rfl)) ?_
  refine bindS_mk (b_sub64 (by omega) (by omega)) ?_
  refine bindS_mk (b_gtr_t (by omega)) ?_
  refine Meet.of (cast_p (G18_1001008_eq _ _ _ _ _ _ _) ?_)
  refine bindV_mk p_f ?_
  refine Meet.of (cast_p (J18_101_eq _ _ _ _ _ _) ?_)
  refine i_t ?_
  rfl

/-- A reader's text. -/
def rdO (s : List UInt8) : AO := .cells true (.one 77) (.agg [.str s])
theorem shS (s : List UInt8) : hasShape Pg (.str s) 9 = true := by kernel_rfl
theorem build73 : aBuild Pg 73 [] = some (.agg []) := by kernel_rfl
theorem iface73 : aIface Pg 73 (.agg []) = some tooShort := by kernel_rfl
theorem numP (n : Nat) (s : List UInt8) (k : Nat) (hk : k ≤ 8) (hl : k ≤ s.length) (hs : s.length < 140737488355328) (h : AH) (hm : h.m n = some (rdO s)) :
    ACalls Pg 41 [.ptr (some ⟨n, .one 77, []⟩), .int .i64 (k : Int)] h (pureE (.int .u64 ((valB s 0 k : Nat) : Int)) (h.put n (rdO (s.drop k)))) := by
  refine C41 _ _ _ _ ?_
  have g := getP s 0 k hk (by omega) hs
  refine bindV_mk (nil_mk _ _) ?_
  refine bindS_mk (fa_mk (by kernel_rfl)) ?_
  refine bindV_mk (ld_mk hm (by kernel_rfl) (by with_unfolding_all exact rfl)) ?_
  refine call_mk (g _) ?_
  refine bindS_mk (show aExtract _ _ = some _ from rfl) ?_
  refine bindS_mk (show aExtract _ _ = some _ from rfl) ?_
  refine bindS_mk u_not ?_
  refine i_f ?_
  refine Meet.of (cast_p (J41_111_eq _ _ _ _ _) ?_)
  refine bindV_mk (nil_mk _ _) ?_
  refine bindS_mk (fa_mk (by kernel_rfl)) ?_
  refine bindV_mk (ld_mk hm (by kernel_rfl) (by with_unfolding_all exact rfl)) ?_
  refine bindS_mk (sl_lo _ _ _ hl) ?_
  refine bindV_mk (nil_mk _ _) ?_
  refine bindS_mk (fa_mk (by kernel_rfl)) ?_
  refine bindV_mk (st_mk hm (by kernel_rfl) (by with_unfolding_all exact rfl) (shS _) (by with_unfolding_all exact rfl)) ?_
  exact ⟨rfl, rfl⟩
theorem num0 (n : Nat) (s : List UInt8) (k : Nat) (hk : k ≤ 8) (hl : s.length < k) (h : AH) (hm : h.m n = some (rdO s)) :
    ACalls Pg 41 [.ptr (some ⟨n, .one 77, []⟩), .int .i64 (k : Int)] h (panE tooShort h) := by
  refine C41 _ _ _ _ ?_
  refine bindV_mk (nil_mk _ _) ?_
  refine bindS_mk (fa_mk (by kernel_rfl)) ?_
  refine bindV_mk (ld_mk hm (by kernel_rfl) (by with_unfolding_all exact rfl)) ?_
  refine call_mk (getP0 s k hk hl _) ?_
  refine bindS_mk (show aExtract _ _ = some _ from rfl) ?_
  refine bindS_mk (show aExtract _ _ = some _ from rfl) ?_
  refine bindS_mk u_not ?_
  refine i_t ?_
  refine bindS_mk (build73) ?_
  refine bindS_mk (iface73) ?_
  exact ⟨rfl, rfl⟩
theorem put_self {h : AH} {n : Nat} {o : AO} (hm : h.m n = some o) : h.put n o = h := by
  unfold AH.put
  have : (fun i => if i = n then some o else h.m i) = h.m := by
    funext i
    by_cases hi : i = n
    · rw [if_pos hi, hi, hm]
    · rw [if_neg hi]
  rw [this]
theorem put_put {h : AH} {n : Nat} {o o' : AO} : (h.put n o).put n o' = h.put n o' := by
  unfold AH.put
  congr 1
  funext i
  by_cases hi : i = n
  · simp [hi]
  · simp [hi]
theorem put_at {h : AH} {n : Nat} {o : AO} : (h.put n o).m n = some o := by rw [put_m, if_pos rfl]
/-- A number of so many bytes, and the rest. -/
def tk (n : Nat) (s : List UInt8) : Option (Nat × List UInt8) := if n ≤ s.length then some (valB s 0 n, s.drop n) else none
/-- A text with its length ahead, and the rest. -/
def tt (s : List UInt8) : Option (List UInt8 × List UInt8) := (tk 1 s).bind fun p => if p.1 ≤ p.2.length then some (p.2.take p.1, p.2.drop p.1) else none
theorem val1_lt (s : List UInt8) : valB s 0 1 < 256 := by have := valB_lt s 1 0; simpa using this
theorem textP (n : Nat) (s t u : List UInt8) (ht : tt s = some (t, u)) (hs : s.length < 140737488355328) (h : AH) (hm : h.m n = some (rdO s)) :
    ACalls Pg 42 [.ptr (some ⟨n, .one 77, []⟩)] h (pureE (.str t) (h.put n (rdO u))) := by
  unfold tt tk at ht
  by_cases h1 : 1 ≤ s.length
  · rw [if_pos h1, Option.bind_some] at ht
    simp only at ht
    by_cases h2 : valB s 0 1 ≤ (s.drop 1).length
    · rw [if_pos h2] at ht
      cases ht
      refine C42 _ _ _ ?_
      have hv := val1_lt s
      have hd : (s.drop 1).length < 140737488355328 := by simp; omega
      refine callW_mk (numP n s 1 (by decide) h1 hs h hm) ?_
      refine bindS_mk (cv_int (d := 3) .i64 (by kernel_rfl)) ?_
      rw [wrap_i64n _ (by omega)]
      have hm' : (h.put n (rdO (s.drop 1))).m n = some (rdO (s.drop 1)) := put_at
      refine bindV_mk (nil_mk _ _) ?_
      refine bindS_mk (fa_mk (by kernel_rfl)) ?_
      refine bindV_mk (ld_mk hm' (by kernel_rfl) (by with_unfolding_all exact rfl)) ?_
      refine bindV_mk (len_str (by kernel_rfl)) ?_
      refine bindS_mk (b_gtr_f (by omega)) ?_
      refine i_f ?_
      refine Meet.of (cast_p (J42_111_eq _ _ _ _) ?_)
      refine bindV_mk (nil_mk _ _) ?_
      refine bindS_mk (fa_mk (by kernel_rfl)) ?_
      refine bindV_mk (ld_mk hm' (by kernel_rfl) (by with_unfolding_all exact rfl)) ?_
      refine bindS_mk (sl_hi _ _ _ h2) ?_
      refine bindV_mk (nil_mk _ _) ?_
      refine bindS_mk (fa_mk (by kernel_rfl)) ?_
      refine bindV_mk (ld_mk hm' (by kernel_rfl) (by with_unfolding_all exact rfl)) ?_
      refine bindS_mk (sl_lo _ _ _ h2) ?_
      refine bindV_mk (nil_mk _ _) ?_
      refine bindS_mk (fa_mk (by kernel_rfl)) ?_
      refine bindV_mk (st_mk hm' (by kernel_rfl) (by with_unfolding_all exact rfl) (shS _) (by with_unfolding_all exact rfl)) ?_
      refine ⟨rfl, ?_⟩
      exact put_put
    · rw [if_neg h2] at ht; cases ht
  · rw [if_neg h1] at ht; cases ht
theorem text0 (n : Nat) (s : List UInt8) (ht : tt s = none) (hs : s.length < 140737488355328) (h : AH) (hm : h.m n = some (rdO s)) :
    ∃ u, ACalls Pg 42 [.ptr (some ⟨n, .one 77, []⟩)] h (panE tooShort (h.put n (rdO u))) := by
  unfold tt tk at ht
  by_cases h1 : 1 ≤ s.length
  · rw [if_pos h1, Option.bind_some] at ht
    simp only at ht
    by_cases h2 : valB s 0 1 ≤ (s.drop 1).length
    · rw [if_pos h2] at ht; cases ht
    · refine ⟨s.drop 1, C42 _ _ _ ?_⟩
      have hv := val1_lt s
      refine callW_mk (numP n s 1 (by decide) h1 hs h hm) ?_
      refine bindS_mk (cv_int (d := 3) .i64 (by kernel_rfl)) ?_
      rw [wrap_i64n _ (by omega)]
      have hm' : (h.put n (rdO (s.drop 1))).m n = some (rdO (s.drop 1)) := put_at
      refine bindV_mk (nil_mk _ _) ?_
      refine bindS_mk (fa_mk (by kernel_rfl)) ?_
      refine bindV_mk (ld_mk hm' (by kernel_rfl) (by with_unfolding_all exact rfl)) ?_
      refine bindV_mk (len_str (by kernel_rfl)) ?_
      refine bindS_mk (b_gtr_t (by omega)) ?_
      refine i_t ?_
      refine bindS_mk build73 ?_
      refine bindS_mk iface73 ?_
      exact ⟨rfl, rfl⟩
  · refine ⟨s, C42 _ _ _ ?_⟩
    refine callP_mk (num0 n s 1 (by decide) (by omega) h hm) ?_
    exact ⟨rfl, (put_self hm).symm⟩
theorem zero47 : zeroV Pg 47 = some (vRef 0 0) := by kernel_rfl
theorem build47' (p s : Int) : aBuild Pg 47 [(0, .int .u16 p), (1, .int .u8 s)] = some (vRef p s) := by kernel_rfl
/-- Where a reference was laid by. -/
def refH (h : AH) (n : Nat) (u : List UInt8) (p s : Int) : AH := (((h.make (.cells true (.one 47) (vRef 0 0))).put n (rdO u)).put h.next (.cells true (.one 47) (vRef p s)))
theorem refRP (n : Nat) (s : List UInt8) (hl : 3 ≤ s.length) (hs : s.length < 140737488355328) (h : AH) (hn : n < h.next) (hm : h.m n = some (rdO s)) :
    ACalls Pg 43 [.ptr (some ⟨n, .one 77, []⟩)] h (pureE (vRef ((valB s 0 2 : Nat) : Int) ((valB (s.drop 2) 0 1 : Nat) : Int)) (refH h n (s.drop 3) ((valB s 0 2 : Nat) : Int) ((valB (s.drop 2) 0 1 : Nat) : Int))) := by
  refine C43 _ _ _ ?_
  have hv := valB_lt s 2 0
  have hv1 := val1_lt (s.drop 2)
  have hm1 : (h.make (.cells true (.one 47) (vRef 0 0))).m n = some (rdO s) := by rw [make_m, if_neg (by omega)]; exact hm
  refine bindV_mk (al_mk zero47 (shRef 0 0)) ?_
  refine callW_mk (numP n s 2 (by decide) (by omega) hs _ hm1) ?_
  refine bindS_mk (cv_int (d := 40) .u16 (by kernel_rfl)) ?_
  have e1 : IntKind.u16.wrap ((valB s 0 2 : Nat) : Int) = ((valB s 0 2 : Nat) : Int) := by rw [wrap_u16]; omega
  rw [e1]
  refine callW_mk (numP n (s.drop 2) 1 (by decide) (by simp; omega) (by simp; omega) _ put_at) ?_
  refine bindS_mk (cv_int (d := 5) .u8 (by kernel_rfl)) ?_
  have e2 : IntKind.u8.wrap ((valB (s.drop 2) 0 1 : Nat) : Int) = ((valB (s.drop 2) 0 1 : Nat) : Int) := by rw [wrap_u8]; omega
  rw [e2]
  refine bindS_mk (build47' _ _) ?_
  have hne : h.next ≠ n := by omega
  rw [put_put, List.drop_drop]
  have hc : ((h.make (.cells true (.one 47) (vRef 0 0))).put n (rdO (s.drop (2 + 1)))).m h.next = some (.cells true (.one 47) (vRef 0 0)) := by
    rw [put_m, if_neg hne, make_m, if_pos rfl]
  refine bindV_mk (st_mk hc (by kernel_rfl) (by with_unfolding_all exact rfl) (shRef _ _) (by with_unfolding_all exact rfl)) ?_
  refine bindR_mk (l := [vRef ((valB s 0 2 : Nat) : Int) ((valB (s.drop 2) 0 1 : Nat) : Int)]) ?_ ⟨rfl, rfl⟩
  have hq : ∀ (h2 : AH), h2.m h.next = some (.cells true (.one 47) (vRef ((valB s 0 2 : Nat) : Int) ((valB (s.drop 2) 0 1 : Nat) : Int))) → aRes Pg [(2, .ptr (some ⟨h.next, .one 47, []⟩))] h2 R43 = some [vRef ((valB s 0 2 : Nat) : Int) ((valB (s.drop 2) 0 1 : Nat) : Int)] := by
    intro h2 hh
    have e1 := ld_mk (P := Pg) (t := 47) (p := []) hh (by kernel_rfl) (w := vRef ((valB s 0 2 : Nat) : Int) ((valB (s.drop 2) 0 1 : Nat) : Int)) rfl
    simp only [aLoadV] at e1
    have e2 := (still_some e1).1
    simp only [R43, aRes, Env.get, if_true, e2]
  exact hq _ put_at
theorem refR0 (n : Nat) (s : List UInt8) (hl : s.length < 3) (h : AH) (hn : n < h.next) (hm : h.m n = some (rdO s)) :
    ∃ u, ACalls Pg 43 [.ptr (some ⟨n, .one 77, []⟩)] h (panE tooShort ((h.make (.cells true (.one 47) (vRef 0 0))).put n (rdO u))) := by
  have hm1 : (h.make (.cells true (.one 47) (vRef 0 0))).m n = some (rdO s) := by rw [make_m, if_neg (by omega)]; exact hm
  by_cases h2 : 2 ≤ s.length
  · refine ⟨s.drop 2, C43 _ _ _ ?_⟩
    refine bindV_mk (al_mk zero47 (shRef 0 0)) ?_
    refine callW_mk (numP n s 2 (by decide) h2 (by omega) _ hm1) ?_
    refine bindS_mk (cv_int (d := 40) .u16 (by kernel_rfl)) ?_
    refine callP_mk (num0 n (s.drop 2) 1 (by decide) (by simp; omega) _ put_at) ?_
    exact ⟨rfl, rfl⟩
  · refine ⟨s, C43 _ _ _ ?_⟩
    refine bindV_mk (al_mk zero47 (shRef 0 0)) ?_
    refine callP_mk (num0 n s 2 (by decide) (by omega) _ hm1) ?_
    exact ⟨rfl, (put_self hm1).symm⟩
end Go.Proofs.Ytdhlolcpcgpcnaa.Sh
