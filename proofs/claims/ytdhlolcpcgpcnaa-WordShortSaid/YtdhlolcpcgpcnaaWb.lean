import Derived.Test.YtdhlolcpcgpcnaaWa
set_option linter.unusedVariables false
set_option linter.unusedSimpArgs false
namespace Go.Proofs.Ytdhlolcpcgpcnaa.Sh
open Go Go.Ab Go.RowKit Go.Gr
set_option linter.unusedSimpArgs false
set_option linter.unusedVariables false
set_option maxRecDepth 10000
def rawA (v : Int) (i : Int) : UInt8 := UInt8.ofNat (IntKind.u8.wrap (shrI .u64 v (IntKind.i64.wrap (8 * i)))).toNat
def rawB (v : Int) : UInt8 := UInt8.ofNat (IntKind.u8.wrap (v.tmod 256)).toNat
def nextB (v : Int) : Int := IntKind.u64.wrap (v.tdiv 256)
theorem ev22_0 (q : AEnd → Prop) (v : Int) : vc Pg N22 B22 .leaf (vcRet Pg R22 (fun e _ => q e)) (initEnv 0 [.int .u64 v, .int .i64 0]) AH0 = q (.ret (.str [])) := by kernel_rfl
theorem c22_0 (q : AEnd → Prop) (v : Int) (c : q (.ret (.str []))) : ACalls Pg 22 [.int .u64 v, .int .i64 0] AH0 fun e _ => q e :=
  acalls_vc okP Try.func22 (show Try.f22.body = some B22 from by kernel_rfl) .leaf N22 R22 rfl (by kernel_rfl) (by rw [ev22_0 q v]; exact c)
theorem ev23_0 (q : AEnd → Prop) (v : Int) : vc Pg N23 B23 .leaf (vcRet Pg R23 (fun e _ => q e)) (initEnv 0 [.int .u64 v, .int .i64 0]) AH0 = q (.ret (.str [])) := by kernel_rfl
theorem c23_0 (q : AEnd → Prop) (v : Int) (c : q (.ret (.str []))) : ACalls Pg 23 [.int .u64 v, .int .i64 0] AH0 fun e _ => q e :=
  acalls_vc okP Try.func23 (show Try.f23.body = some B23 from by kernel_rfl) .leaf N23 R23 rfl (by kernel_rfl) (by rw [ev23_0 q v]; exact c)
theorem ev22_1 (q : AEnd → Prop) (v : Int) : vc Pg N22 B22 .leaf (vcRet Pg R22 (fun e _ => q e)) (initEnv 0 [.int .u64 v, .int .i64 1]) AH0 = q (.ret (.str [rawA v 0])) := by kernel_rfl
theorem c22_1 (q : AEnd → Prop) (v : Int) (c : q (.ret (.str [rawA v 0]))) : ACalls Pg 22 [.int .u64 v, .int .i64 1] AH0 fun e _ => q e :=
  acalls_vc okP Try.func22 (show Try.f22.body = some B22 from by kernel_rfl) .leaf N22 R22 rfl (by kernel_rfl) (by rw [ev22_1 q v]; exact c)
theorem ev23_1 (q : AEnd → Prop) (v : Int) : vc Pg N23 B23 .leaf (vcRet Pg R23 (fun e _ => q e)) (initEnv 0 [.int .u64 v, .int .i64 1]) AH0 = q (.ret (.str [rawB v])) := by kernel_rfl
theorem c23_1 (q : AEnd → Prop) (v : Int) (c : q (.ret (.str [rawB v]))) : ACalls Pg 23 [.int .u64 v, .int .i64 1] AH0 fun e _ => q e :=
  acalls_vc okP Try.func23 (show Try.f23.body = some B23 from by kernel_rfl) .leaf N23 R23 rfl (by kernel_rfl) (by rw [ev23_1 q v]; exact c)
theorem ev22_2 (q : AEnd → Prop) (v : Int) : vc Pg N22 B22 .leaf (vcRet Pg R22 (fun e _ => q e)) (initEnv 0 [.int .u64 v, .int .i64 2]) AH0 = q (.ret (.str [rawA v 0, rawA v 1])) := by kernel_rfl
theorem c22_2 (q : AEnd → Prop) (v : Int) (c : q (.ret (.str [rawA v 0, rawA v 1]))) : ACalls Pg 22 [.int .u64 v, .int .i64 2] AH0 fun e _ => q e :=
  acalls_vc okP Try.func22 (show Try.f22.body = some B22 from by kernel_rfl) .leaf N22 R22 rfl (by kernel_rfl) (by rw [ev22_2 q v]; exact c)
theorem ev23_2 (q : AEnd → Prop) (v : Int) : vc Pg N23 B23 .leaf (vcRet Pg R23 (fun e _ => q e)) (initEnv 0 [.int .u64 v, .int .i64 2]) AH0 = q (.ret (.str [rawB v, rawB (nextB v)])) := by kernel_rfl
theorem c23_2 (q : AEnd → Prop) (v : Int) (c : q (.ret (.str [rawB v, rawB (nextB v)]))) : ACalls Pg 23 [.int .u64 v, .int .i64 2] AH0 fun e _ => q e :=
  acalls_vc okP Try.func23 (show Try.f23.body = some B23 from by kernel_rfl) .leaf N23 R23 rfl (by kernel_rfl) (by rw [ev23_2 q v]; exact c)
theorem ev22_3 (q : AEnd → Prop) (v : Int) : vc Pg N22 B22 .leaf (vcRet Pg R22 (fun e _ => q e)) (initEnv 0 [.int .u64 v, .int .i64 3]) AH0 = q (.ret (.str [rawA v 0, rawA v 1, rawA v 2])) := by kernel_rfl
theorem c22_3 (q : AEnd → Prop) (v : Int) (c : q (.ret (.str [rawA v 0, rawA v 1, rawA v 2]))) : ACalls Pg 22 [.int .u64 v, .int .i64 3] AH0 fun e _ => q e :=
  acalls_vc okP Try.func22 (show Try.f22.body = some B22 from by kernel_rfl) .leaf N22 R22 rfl (by kernel_rfl) (by rw [ev22_3 q v]; exact c)
theorem ev23_3 (q : AEnd → Prop) (v : Int) : vc Pg N23 B23 .leaf (vcRet Pg R23 (fun e _ => q e)) (initEnv 0 [.int .u64 v, .int .i64 3]) AH0 = q (.ret (.str [rawB v, rawB (nextB v), rawB (nextB (nextB v))])) := by kernel_rfl
theorem c23_3 (q : AEnd → Prop) (v : Int) (c : q (.ret (.str [rawB v, rawB (nextB v), rawB (nextB (nextB v))]))) : ACalls Pg 23 [.int .u64 v, .int .i64 3] AH0 fun e _ => q e :=
  acalls_vc okP Try.func23 (show Try.f23.body = some B23 from by kernel_rfl) .leaf N23 R23 rfl (by kernel_rfl) (by rw [ev23_3 q v]; exact c)
theorem ev22_4 (q : AEnd → Prop) (v : Int) : vc Pg N22 B22 .leaf (vcRet Pg R22 (fun e _ => q e)) (initEnv 0 [.int .u64 v, .int .i64 4]) AH0 = q (.ret (.str [rawA v 0, rawA v 1, rawA v 2, rawA v 3])) := by kernel_rfl
theorem c22_4 (q : AEnd → Prop) (v : Int) (c : q (.ret (.str [rawA v 0, rawA v 1, rawA v 2, rawA v 3]))) : ACalls Pg 22 [.int .u64 v, .int .i64 4] AH0 fun e _ => q e :=
  acalls_vc okP Try.func22 (show Try.f22.body = some B22 from by kernel_rfl) .leaf N22 R22 rfl (by kernel_rfl) (by rw [ev22_4 q v]; exact c)
theorem ev23_4 (q : AEnd → Prop) (v : Int) : vc Pg N23 B23 .leaf (vcRet Pg R23 (fun e _ => q e)) (initEnv 0 [.int .u64 v, .int .i64 4]) AH0 = q (.ret (.str [rawB v, rawB (nextB v), rawB (nextB (nextB v)), rawB (nextB (nextB (nextB v)))])) := by kernel_rfl
theorem c23_4 (q : AEnd → Prop) (v : Int) (c : q (.ret (.str [rawB v, rawB (nextB v), rawB (nextB (nextB v)), rawB (nextB (nextB (nextB v)))]))) : ACalls Pg 23 [.int .u64 v, .int .i64 4] AH0 fun e _ => q e :=
  acalls_vc okP Try.func23 (show Try.f23.body = some B23 from by kernel_rfl) .leaf N23 R23 rfl (by kernel_rfl) (by rw [ev23_4 q v]; exact c)
theorem ev22_5 (q : AEnd → Prop) (v : Int) : vc Pg N22 B22 .leaf (vcRet Pg R22 (fun e _ => q e)) (initEnv 0 [.int .u64 v, .int .i64 5]) AH0 = q (.ret (.str [rawA v 0, rawA v 1, rawA v 2, rawA v 3, rawA v 4])) := by kernel_rfl
theorem c22_5 (q : AEnd → Prop) (v : Int) (c : q (.ret (.str [rawA v 0, rawA v 1, rawA v 2, rawA v 3, rawA v 4]))) : ACalls Pg 22 [.int .u64 v, .int .i64 5] AH0 fun e _ => q e :=
  acalls_vc okP Try.func22 (show Try.f22.body = some B22 from by kernel_rfl) .leaf N22 R22 rfl (by kernel_rfl) (by rw [ev22_5 q v]; exact c)
theorem ev23_5 (q : AEnd → Prop) (v : Int) : vc Pg N23 B23 .leaf (vcRet Pg R23 (fun e _ => q e)) (initEnv 0 [.int .u64 v, .int .i64 5]) AH0 = q (.ret (.str [rawB v, rawB (nextB v), rawB (nextB (nextB v)), rawB (nextB (nextB (nextB v))), rawB (nextB (nextB (nextB (nextB v))))])) := by kernel_rfl
theorem c23_5 (q : AEnd → Prop) (v : Int) (c : q (.ret (.str [rawB v, rawB (nextB v), rawB (nextB (nextB v)), rawB (nextB (nextB (nextB v))), rawB (nextB (nextB (nextB (nextB v))))]))) : ACalls Pg 23 [.int .u64 v, .int .i64 5] AH0 fun e _ => q e :=
  acalls_vc okP Try.func23 (show Try.f23.body = some B23 from by kernel_rfl) .leaf N23 R23 rfl (by kernel_rfl) (by rw [ev23_5 q v]; exact c)
theorem ev22_6 (q : AEnd → Prop) (v : Int) : vc Pg N22 B22 .leaf (vcRet Pg R22 (fun e _ => q e)) (initEnv 0 [.int .u64 v, .int .i64 6]) AH0 = q (.ret (.str [rawA v 0, rawA v 1, rawA v 2, rawA v 3, rawA v 4, rawA v 5])) := by kernel_rfl
theorem c22_6 (q : AEnd → Prop) (v : Int) (c : q (.ret (.str [rawA v 0, rawA v 1, rawA v 2, rawA v 3, rawA v 4, rawA v 5]))) : ACalls Pg 22 [.int .u64 v, .int .i64 6] AH0 fun e _ => q e :=
  acalls_vc okP Try.func22 (show Try.f22.body = some B22 from by kernel_rfl) .leaf N22 R22 rfl (by kernel_rfl) (by rw [ev22_6 q v]; exact c)
theorem ev23_6 (q : AEnd → Prop) (v : Int) : vc Pg N23 B23 .leaf (vcRet Pg R23 (fun e _ => q e)) (initEnv 0 [.int .u64 v, .int .i64 6]) AH0 = q (.ret (.str [rawB v, rawB (nextB v), rawB (nextB (nextB v)), rawB (nextB (nextB (nextB v))), rawB (nextB (nextB (nextB (nextB v)))), rawB (nextB (nextB (nextB (nextB (nextB v)))))])) := by kernel_rfl
theorem c23_6 (q : AEnd → Prop) (v : Int) (c : q (.ret (.str [rawB v, rawB (nextB v), rawB (nextB (nextB v)), rawB (nextB (nextB (nextB v))), rawB (nextB (nextB (nextB (nextB v)))), rawB (nextB (nextB (nextB (nextB (nextB v)))))]))) : ACalls Pg 23 [.int .u64 v, .int .i64 6] AH0 fun e _ => q e :=
  acalls_vc okP Try.func23 (show Try.f23.body = some B23 from by kernel_rfl) .leaf N23 R23 rfl (by kernel_rfl) (by rw [ev23_6 q v]; exact c)
theorem ev22_7 (q : AEnd → Prop) (v : Int) : vc Pg N22 B22 .leaf (vcRet Pg R22 (fun e _ => q e)) (initEnv 0 [.int .u64 v, .int .i64 7]) AH0 = q (.ret (.str [rawA v 0, rawA v 1, rawA v 2, rawA v 3, rawA v 4, rawA v 5, rawA v 6])) := by kernel_rfl
theorem c22_7 (q : AEnd → Prop) (v : Int) (c : q (.ret (.str [rawA v 0, rawA v 1, rawA v 2, rawA v 3, rawA v 4, rawA v 5, rawA v 6]))) : ACalls Pg 22 [.int .u64 v, .int .i64 7] AH0 fun e _ => q e :=
  acalls_vc okP Try.func22 (show Try.f22.body = some B22 from by kernel_rfl) .leaf N22 R22 rfl (by kernel_rfl) (by rw [ev22_7 q v]; exact c)
theorem ev23_7 (q : AEnd → Prop) (v : Int) : vc Pg N23 B23 .leaf (vcRet Pg R23 (fun e _ => q e)) (initEnv 0 [.int .u64 v, .int .i64 7]) AH0 = q (.ret (.str [rawB v, rawB (nextB v), rawB (nextB (nextB v)), rawB (nextB (nextB (nextB v))), rawB (nextB (nextB (nextB (nextB v)))), rawB (nextB (nextB (nextB (nextB (nextB v))))), rawB (nextB (nextB (nextB (nextB (nextB (nextB v))))))])) := by kernel_rfl
theorem c23_7 (q : AEnd → Prop) (v : Int) (c : q (.ret (.str [rawB v, rawB (nextB v), rawB (nextB (nextB v)), rawB (nextB (nextB (nextB v))), rawB (nextB (nextB (nextB (nextB v)))), rawB (nextB (nextB (nextB (nextB (nextB v))))), rawB (nextB (nextB (nextB (nextB (nextB (nextB v))))))]))) : ACalls Pg 23 [.int .u64 v, .int .i64 7] AH0 fun e _ => q e :=
  acalls_vc okP Try.func23 (show Try.f23.body = some B23 from by kernel_rfl) .leaf N23 R23 rfl (by kernel_rfl) (by rw [ev23_7 q v]; exact c)
theorem ev22_8 (q : AEnd → Prop) (v : Int) : vc Pg N22 B22 .leaf (vcRet Pg R22 (fun e _ => q e)) (initEnv 0 [.int .u64 v, .int .i64 8]) AH0 = q (.ret (.str [rawA v 0, rawA v 1, rawA v 2, rawA v 3, rawA v 4, rawA v 5, rawA v 6, rawA v 7])) := by kernel_rfl
theorem c22_8 (q : AEnd → Prop) (v : Int) (c : q (.ret (.str [rawA v 0, rawA v 1, rawA v 2, rawA v 3, rawA v 4, rawA v 5, rawA v 6, rawA v 7]))) : ACalls Pg 22 [.int .u64 v, .int .i64 8] AH0 fun e _ => q e :=
  acalls_vc okP Try.func22 (show Try.f22.body = some B22 from by kernel_rfl) .leaf N22 R22 rfl (by kernel_rfl) (by rw [ev22_8 q v]; exact c)
theorem ev23_8 (q : AEnd → Prop) (v : Int) : vc Pg N23 B23 .leaf (vcRet Pg R23 (fun e _ => q e)) (initEnv 0 [.int .u64 v, .int .i64 8]) AH0 = q (.ret (.str [rawB v, rawB (nextB v), rawB (nextB (nextB v)), rawB (nextB (nextB (nextB v))), rawB (nextB (nextB (nextB (nextB v)))), rawB (nextB (nextB (nextB (nextB (nextB v))))), rawB (nextB (nextB (nextB (nextB (nextB (nextB v)))))), rawB (nextB (nextB (nextB (nextB (nextB (nextB (nextB v)))))))])) := by kernel_rfl
theorem c23_8 (q : AEnd → Prop) (v : Int) (c : q (.ret (.str [rawB v, rawB (nextB v), rawB (nextB (nextB v)), rawB (nextB (nextB (nextB v))), rawB (nextB (nextB (nextB (nextB v)))), rawB (nextB (nextB (nextB (nextB (nextB v))))), rawB (nextB (nextB (nextB (nextB (nextB (nextB v)))))), rawB (nextB (nextB (nextB (nextB (nextB (nextB (nextB v)))))))]))) : ACalls Pg 23 [.int .u64 v, .int .i64 8] AH0 fun e _ => q e :=
  acalls_vc okP Try.func23 (show Try.f23.body = some B23 from by kernel_rfl) .leaf N23 R23 rfl (by kernel_rfl) (by rw [ev23_8 q v]; exact c)
theorem rawA_n (v i : Nat) (hi : i ≤ 8) : rawA (v : Int) (i : Int) = UInt8.ofNat (v / 256 ^ i % 256) := by
  unfold rawA
  have e : IntKind.i64.wrap (8 * (i : Int)) = ((8 * i : Nat) : Int) := by rw [wrap_i64 (by omega) (by omega)]; rfl
  have e3 : (IntKind.u8.wrap ((v / 2 ^ (8 * i) : Nat) : Int)).toNat = v / 2 ^ (8 * i) % 256 := by
    generalize v / 2 ^ (8 * i) = x
    rw [wrap_u8]; omega
  rw [e, shr_n v (8 * i) (by omega), e3, show (256 : Nat) ^ i = 2 ^ (8 * i) by rw [Nat.pow_mul]]
theorem rawB_n (v : Nat) : rawB (v : Int) = UInt8.ofNat (v % 256) := by
  unfold rawB
  have : (IntKind.u8.wrap (Int.tmod (v : Int) 256)).toNat = v % 256 := by
    rw [wrap_u8, Int.tmod_eq_emod_of_nonneg (by omega)]; omega
  rw [this]
theorem nextB_n (v : Nat) (h : v < 18446744073709551616) : nextB (v : Int) = ((v / 256 : Nat) : Int) := by
  unfold nextB
  rw [wrap_u64, Int.tdiv_eq_ediv_of_nonneg (by omega)]; omega
theorem putB_range (v n : Nat) : putB v n = (List.range n).map fun i => UInt8.ofNat (v / 256 ^ i % 256) := by
  rw [putB, byteL_range, List.map_map]; rfl
theorem putAn (v n : Nat) (hn : n ≤ 8) (hv : v < 18446744073709551616) (h : AH) : ACalls Pg 22 [.int .u64 (v : Int), .int .i64 (n : Int)] h (pureE (.str (putB v n)) h) := by
  refine pure_lift rfl rfl ?_ h
  have hc : n = 0 ∨ n = 1 ∨ n = 2 ∨ n = 3 ∨ n = 4 ∨ n = 5 ∨ n = 6 ∨ n = 7 ∨ n = 8 := by omega
  rcases hc with rfl | rfl | rfl | rfl | rfl | rfl | rfl | rfl | rfl
  · refine c22_0 _ _ ?_
    rw [putB_range]; rfl
  · refine c22_1 _ _ ?_
    have r0 : rawA (v : Int) 0 = UInt8.ofNat (v / 256 ^ 0 % 256) := rawA_n v 0 (by decide)
    rw [r0]
    rw [putB_range]; rfl
  · refine c22_2 _ _ ?_
    have r0 : rawA (v : Int) 0 = UInt8.ofNat (v / 256 ^ 0 % 256) := rawA_n v 0 (by decide)
    have r1 : rawA (v : Int) 1 = UInt8.ofNat (v / 256 ^ 1 % 256) := rawA_n v 1 (by decide)
    rw [r0, r1]
    rw [putB_range]; rfl
  · refine c22_3 _ _ ?_
    have r0 : rawA (v : Int) 0 = UInt8.ofNat (v / 256 ^ 0 % 256) := rawA_n v 0 (by decide)
    have r1 : rawA (v : Int) 1 = UInt8.ofNat (v / 256 ^ 1 % 256) := rawA_n v 1 (by decide)
    have r2 : rawA (v : Int) 2 = UInt8.ofNat (v / 256 ^ 2 % 256) := rawA_n v 2 (by decide)
    rw [r0, r1, r2]
    rw [putB_range]; rfl
  · refine c22_4 _ _ ?_
    have r0 : rawA (v : Int) 0 = UInt8.ofNat (v / 256 ^ 0 % 256) := rawA_n v 0 (by decide)
    have r1 : rawA (v : Int) 1 = UInt8.ofNat (v / 256 ^ 1 % 256) := rawA_n v 1 (by decide)
    have r2 : rawA (v : Int) 2 = UInt8.ofNat (v / 256 ^ 2 % 256) := rawA_n v 2 (by decide)
    have r3 : rawA (v : Int) 3 = UInt8.ofNat (v / 256 ^ 3 % 256) := rawA_n v 3 (by decide)
    rw [r0, r1, r2, r3]
    rw [putB_range]; rfl
  · refine c22_5 _ _ ?_
    have r0 : rawA (v : Int) 0 = UInt8.ofNat (v / 256 ^ 0 % 256) := rawA_n v 0 (by decide)
    have r1 : rawA (v : Int) 1 = UInt8.ofNat (v / 256 ^ 1 % 256) := rawA_n v 1 (by decide)
    have r2 : rawA (v : Int) 2 = UInt8.ofNat (v / 256 ^ 2 % 256) := rawA_n v 2 (by decide)
    have r3 : rawA (v : Int) 3 = UInt8.ofNat (v / 256 ^ 3 % 256) := rawA_n v 3 (by decide)
    have r4 : rawA (v : Int) 4 = UInt8.ofNat (v / 256 ^ 4 % 256) := rawA_n v 4 (by decide)
    rw [r0, r1, r2, r3, r4]
    rw [putB_range]; rfl
  · refine c22_6 _ _ ?_
    have r0 : rawA (v : Int) 0 = UInt8.ofNat (v / 256 ^ 0 % 256) := rawA_n v 0 (by decide)
    have r1 : rawA (v : Int) 1 = UInt8.ofNat (v / 256 ^ 1 % 256) := rawA_n v 1 (by decide)
    have r2 : rawA (v : Int) 2 = UInt8.ofNat (v / 256 ^ 2 % 256) := rawA_n v 2 (by decide)
    have r3 : rawA (v : Int) 3 = UInt8.ofNat (v / 256 ^ 3 % 256) := rawA_n v 3 (by decide)
    have r4 : rawA (v : Int) 4 = UInt8.ofNat (v / 256 ^ 4 % 256) := rawA_n v 4 (by decide)
    have r5 : rawA (v : Int) 5 = UInt8.ofNat (v / 256 ^ 5 % 256) := rawA_n v 5 (by decide)
    rw [r0, r1, r2, r3, r4, r5]
    rw [putB_range]; rfl
  · refine c22_7 _ _ ?_
    have r0 : rawA (v : Int) 0 = UInt8.ofNat (v / 256 ^ 0 % 256) := rawA_n v 0 (by decide)
    have r1 : rawA (v : Int) 1 = UInt8.ofNat (v / 256 ^ 1 % 256) := rawA_n v 1 (by decide)
    have r2 : rawA (v : Int) 2 = UInt8.ofNat (v / 256 ^ 2 % 256) := rawA_n v 2 (by decide)
    have r3 : rawA (v : Int) 3 = UInt8.ofNat (v / 256 ^ 3 % 256) := rawA_n v 3 (by decide)
    have r4 : rawA (v : Int) 4 = UInt8.ofNat (v / 256 ^ 4 % 256) := rawA_n v 4 (by decide)
    have r5 : rawA (v : Int) 5 = UInt8.ofNat (v / 256 ^ 5 % 256) := rawA_n v 5 (by decide)
    have r6 : rawA (v : Int) 6 = UInt8.ofNat (v / 256 ^ 6 % 256) := rawA_n v 6 (by decide)
    rw [r0, r1, r2, r3, r4, r5, r6]
    rw [putB_range]; rfl
  · refine c22_8 _ _ ?_
    have r0 : rawA (v : Int) 0 = UInt8.ofNat (v / 256 ^ 0 % 256) := rawA_n v 0 (by decide)
    have r1 : rawA (v : Int) 1 = UInt8.ofNat (v / 256 ^ 1 % 256) := rawA_n v 1 (by decide)
    have r2 : rawA (v : Int) 2 = UInt8.ofNat (v / 256 ^ 2 % 256) := rawA_n v 2 (by decide)
    have r3 : rawA (v : Int) 3 = UInt8.ofNat (v / 256 ^ 3 % 256) := rawA_n v 3 (by decide)
    have r4 : rawA (v : Int) 4 = UInt8.ofNat (v / 256 ^ 4 % 256) := rawA_n v 4 (by decide)
    have r5 : rawA (v : Int) 5 = UInt8.ofNat (v / 256 ^ 5 % 256) := rawA_n v 5 (by decide)
    have r6 : rawA (v : Int) 6 = UInt8.ofNat (v / 256 ^ 6 % 256) := rawA_n v 6 (by decide)
    have r7 : rawA (v : Int) 7 = UInt8.ofNat (v / 256 ^ 7 % 256) := rawA_n v 7 (by decide)
    rw [r0, r1, r2, r3, r4, r5, r6, r7]
    rw [putB_range]; rfl
theorem putBn (v n : Nat) (hn : n ≤ 8) (hv : v < 18446744073709551616) (h : AH) : ACalls Pg 23 [.int .u64 (v : Int), .int .i64 (n : Int)] h (pureE (.str (putB v n)) h) := by
  refine pure_lift rfl rfl ?_ h
  have hc : n = 0 ∨ n = 1 ∨ n = 2 ∨ n = 3 ∨ n = 4 ∨ n = 5 ∨ n = 6 ∨ n = 7 ∨ n = 8 := by omega
  rcases hc with rfl | rfl | rfl | rfl | rfl | rfl | rfl | rfl | rfl
  · refine c23_0 _ _ ?_
    rfl
  · refine c23_1 _ _ ?_
    rw [rawB_n]
    rfl
  · refine c23_2 _ _ ?_
    rw [nextB_n (v) (by omega), rawB_n, rawB_n]
    rfl
  · refine c23_3 _ _ ?_
    rw [nextB_n (v) (by omega), nextB_n (v / 256) (by omega), rawB_n, rawB_n, rawB_n]
    rfl
  · refine c23_4 _ _ ?_
    rw [nextB_n (v) (by omega), nextB_n (v / 256) (by omega), nextB_n (v / 256 / 256) (by omega), rawB_n, rawB_n, rawB_n, rawB_n]
    rfl
  · refine c23_5 _ _ ?_
    rw [nextB_n (v) (by omega), nextB_n (v / 256) (by omega), nextB_n (v / 256 / 256) (by omega), nextB_n (v / 256 / 256 / 256) (by omega), rawB_n, rawB_n, rawB_n, rawB_n, rawB_n]
    rfl
  · refine c23_6 _ _ ?_
    rw [nextB_n (v) (by omega), nextB_n (v / 256) (by omega), nextB_n (v / 256 / 256) (by omega), nextB_n (v / 256 / 256 / 256) (by omega), nextB_n (v / 256 / 256 / 256 / 256) (by omega), rawB_n, rawB_n, rawB_n, rawB_n, rawB_n, rawB_n]
    rfl
  · refine c23_7 _ _ ?_
    rw [nextB_n (v) (by omega), nextB_n (v / 256) (by omega), nextB_n (v / 256 / 256) (by omega), nextB_n (v / 256 / 256 / 256) (by omega), nextB_n (v / 256 / 256 / 256 / 256) (by omega), nextB_n (v / 256 / 256 / 256 / 256 / 256) (by omega), rawB_n, rawB_n, rawB_n, rawB_n, rawB_n, rawB_n, rawB_n]
    rfl
  · refine c23_8 _ _ ?_
    rw [nextB_n (v) (by omega), nextB_n (v / 256) (by omega), nextB_n (v / 256 / 256) (by omega), nextB_n (v / 256 / 256 / 256) (by omega), nextB_n (v / 256 / 256 / 256 / 256) (by omega), nextB_n (v / 256 / 256 / 256 / 256 / 256) (by omega), nextB_n (v / 256 / 256 / 256 / 256 / 256 / 256) (by omega), rawB_n, rawB_n, rawB_n, rawB_n, rawB_n, rawB_n, rawB_n, rawB_n]
    rfl
theorem putAx (v : Nat) (n : Int) (hn : n < 0 ∨ n > 8) (h : AH) : ACalls Pg 22 [.int .u64 (v : Int), .int .i64 n] h (pureE (.str []) h) := by
  refine pure_lift rfl rfl (C22 _ _ _ _ ?_) h
  by_cases h0 : n < 0
  · refine bindS_mk (b_lss_t (by omega)) ?_
    refine g_tf ?_
    refine Meet.of (cast_p (G22_1001002_eq _ _ _ _ _ _) ?_)
    refine bindV_mk p_t ?_
    refine Meet.of (cast_p (J22_101_eq _ _ _ _ _) ?_)
    refine i_t ?_
    rfl
  · refine bindS_mk (b_lss_f (by omega)) ?_
    refine g_ff ?_
    refine bindS_mk (b_gtr_t (by omega)) ?_
    refine Meet.of (cast_p (G22_1001002_eq _ _ _ _ _ _) ?_)
    refine bindV_mk p_f ?_
    refine Meet.of (cast_p (J22_101_eq _ _ _ _ _) ?_)
    refine i_t ?_
    rfl
theorem putBx (v : Nat) (n : Int) (hn : n < 0 ∨ n > 8) (h : AH) : ACalls Pg 23 [.int .u64 (v : Int), .int .i64 n] h (pureE (.str []) h) := by
  refine pure_lift rfl rfl (C23 _ _ _ _ ?_) h
  by_cases h0 : n < 0
  · refine bindS_mk (b_lss_t (by omega)) ?_
    refine g_tf ?_
    refine Meet.of (cast_p (G23_1001002_eq _ _ _ _ _ _) ?_)
    refine bindV_mk p_t ?_
    refine Meet.of (cast_p (J23_101_eq _ _ _ _ _) ?_)
    refine i_t ?_
    rfl
  · refine bindS_mk (b_lss_f (by omega)) ?_
    refine g_ff ?_
    refine bindS_mk (b_gtr_t (by omega)) ?_
    refine Meet.of (cast_p (G23_1001002_eq _ _ _ _ _ _) ?_)
    refine bindV_mk p_f ?_
    refine Meet.of (cast_p (J23_101_eq _ _ _ _ _) ?_)
    refine i_t ?_
    rfl
end Go.Proofs.Ytdhlolcpcgpcnaa.Sh
namespace Go.Proofs.Ytdhlolcpcgpcnaa.Sh
open Go Go.Ab Go.RowKit Go.Gr
set_option linter.unusedSimpArgs false
set_option linter.unusedVariables false
set_option maxRecDepth 10000
theorem loop18 (q : AEnd → Prop) (h : AH) (s : List UInt8) (at_ n : Nat) (hn : n ≤ 8) (hb : at_ + n ≤ s.length) (hs : s.length < 140737488355328) (c : q (.ret (.tup [.int .u64 ((valB s at_ n : Nat) : Int), .bool true]))) :
    ∀ (i f : Nat), i ≤ n → i < f → L18_111010 (fun e _ => q e) f (.str s) (.int .i64 (at_ : Int)) (.int .u64 ((valB s (at_ + i) (n - i) : Nat) : Int)) (.int .i64 ((i : Int) - 1)) h
  | i, 0, _, hf => absurd hf (by omega)
  | 0, f + 1, _, _ => by
    rw [L18_111010_eq]
    refine bindS_mk (b_geq_f (by omega)) ?_
    refine i_f ?_
    refine Meet.of (cast_p (J18_1111_eq _ _ _) ?_)
    exact c
  | i + 1, f + 1, hi, hf => by
    rw [L18_111010_eq]
    refine bindS_mk (b_geq_t (by omega)) ?_
    refine i_t ?_
    refine Meet.of (cast_p (J18_11101001_eq _ _ _ _ _ _ _) ?_)
    refine bindS_mk (b_shl (by decide)) ?_
    have hv := valB_lt s (n - (i + 1)) (at_ + (i + 1))
    have hp : 256 ^ (n - (i + 1)) ≤ 72057594037927936 := Nat.pow_le_pow_right (n := 256) (by omega) (show n - (i + 1) ≤ 7 by omega)
    have e1 : shlI .u64 ((valB s (at_ + (i + 1)) (n - (i + 1)) : Nat) : Int) 8 = ((valB s (at_ + (i + 1)) (n - (i + 1)) * 2 ^ 8 : Nat) : Int) := shl_n _ 8 (by decide) (by omega)
    rw [e1]
    refine bindS_mk (b_add64 (by omega) (by omega)) ?_
    have e2 : (at_ : Int) + (((i + 1 : Nat) : Int) - 1) = ((at_ + i : Nat) : Int) := by omega
    rw [e2]
    refine bindS_mk (ix_str str9 (by omega)) ?_
    refine bindS_mk (cv_int .u64 (by kernel_rfl)) ?_
    have hbt := (s.getD (at_ + i) 0).toNat_lt
    have e3 : IntKind.u64.wrap ((s.getD (at_ + i) 0).toNat : Int) = ((s.getD (at_ + i) 0).toNat : Int) := by
      generalize (s.getD (at_ + i) 0).toNat = x at hbt ⊢
      rw [wrap_u64]; omega
    rw [e3]
    refine bindS_mk b_or ?_
    rw [or_join 8 _ _ (by omega) (by omega)]
    refine Meet.of (cast_p (J18_111010011_eq _ _ _ _ _ _ _) ?_)
    refine bindS_mk (b_sub64 (by omega) (by omega)) ?_
    have e4 : ((i + 1 : Nat) : Int) - 1 - 1 = (i : Int) - 1 := by omega
    have e5 : valB s (at_ + (i + 1)) (n - (i + 1)) * 2 ^ 8 + (s.getD (at_ + i) 0).toNat = valB s (at_ + i) (n - i) := by
      rw [show n - i = (n - (i + 1)) + 1 by omega, valB, Nat.add_assoc]; omega
    rw [e4, e5]
    exact Meet.of (loop18 q h s at_ n hn hb hs c i f (by omega) (by omega))
theorem getP (s : List UInt8) (at_ n : Nat) (hn : n ≤ 8) (hb : at_ + n ≤ s.length) (hs : s.length < 140737488355328) (h : AH) :
    ACalls Pg 18 [.str s, .int .i64 (at_ : Int), .int .i64 (n : Int)] h (pureE (.tup [.int .u64 ((valB s at_ n : Nat) : Int), .bool true]) h) := by
  refine pure_lift rfl rfl (C18 _ _ _ _ _ ?_) h
  refine bindS_mk (b_lss_f (by omega)) ?_
  refine g_ff ?_
  refine bindS_mk (b_gtr_f (by omega)) ?_
  refine Meet.of (cast_p (G18_1001002_eq _ _ _ _ _ _ _) ?_)
  refine bindV_mk p_f ?_
  refine g_ff ?_
  refine bindS_mk (b_lss_f (by omega)) ?_
  refine Meet.of (cast_p (G18_1001004_eq _ _ _ _ _ _ _) ?_)
  refine bindV_mk p_f ?_
  refine g_ff ?_
  refine bindV_mk (len_str (by kernel_rfl)) ?_
  refine bindS_mk (b_gtr_f (by omega)) ?_
  refine Meet.of (cast_p (G18_1001006_eq _ _ _ _ _ _ _) ?_)
  refine bindV_mk p_f ?_
  refine g_ff ?_
  refine bindV_mk (len_str (by kernel_rfl)) ?_
  refine bindS_mk (b_sub64 (by omega) (by omega)) ?_
  refine bindS_mk (b_gtr_f (by omega)) ?_
  refine Meet.of (cast_p (G18_1001008_eq _ _ _ _ _ _ _) ?_)
  refine bindV_mk p_f ?_
  refine Meet.of (cast_p (J18_101_eq _ _ _ _ _ _) ?_)
  refine i_f ?_
  refine Meet.of (cast_p (J18_11_eq _ _ _ _ _) ?_)
  refine bindS_mk (b_sub64 (by omega) (by omega)) ?_
  have l := loop18 (fun e => e = .ret (.tup [.int .u64 ((valB s at_ n : Nat) : Int), .bool true])) AH0 s at_ n hn hb hs rfl n (n + 1) (Nat.le_refl _) (by omega)
  rw [Nat.sub_self] at l
  exact ⟨n + 1, Meet.of l⟩
theorem p7 (j : Nat) : (128 : Nat) ^ j = 2 ^ (7 * j) := by rw [Nat.pow_mul]
theorem loop25 (q : AEnd → Prop) (h : AH) (s : List UInt8) (at_ k : Nat) (hk : k ≤ 9) (hb : at_ + k < s.length) (hs : s.length < 140737488355328) (c : Nat → Nat) (hc : ∀ i, c i = (s.getD (at_ + i) 0).toNat)
    (h1 : ∀ i, i < k → 128 ≤ c i) (h2 : c k < 128) (h3 : k ≠ 0 → c k ≠ 0) (h9 : k = 9 → c k ≤ 1)
    (cc : q (.ret (.tup [.int .u64 ((pref c (k + 1) : Nat) : Int), .int .i64 ((at_ + k + 1 : Nat) : Int), .bool true]))) :
    ∀ (m j f : Nat), j + m = k → m < f → L25_111010 (fun e _ => q e) f (.str s) (.int .i64 (at_ : Int)) (.int .u64 ((pref c j : Nat) : Int)) (.int .i64 (j : Int)) h
  | m, j, 0, _, hf => absurd hf (by omega)
  | m, j, f + 1, hj, hf => by
    have hcj : c j < 256 := by rw [hc]; exact (s.getD (at_ + j) 0).toNat_lt
    rw [L25_111010_eq]
    refine bindS_mk (b_lss_t (by omega)) ?_
    refine g_tt ?_
    refine bindV_mk (len_str (by kernel_rfl)) ?_
    refine bindS_mk (b_sub64 (by omega) (by omega)) ?_
    refine bindS_mk (b_lss_t (by omega)) ?_
    refine Meet.of (cast_p (G25_1110100001002_eq _ _ _ _ _ _ _ _ _) ?_)
    refine bindV_mk p_t ?_
    refine Meet.of (cast_p (J25_111010001_eq _ _ _ _ _ _ _ _) ?_)
    refine i_t ?_
    refine Meet.of (cast_p (J25_11101001_eq _ _ _ _ _ _ _) ?_)
    refine bindS_mk (c_add (by omega)) ?_
    refine bindS_mk (ix_str str9 (by omega)) ?_
    rw [← hc j]
    refine bindS_mk (v := .bool (decide (j = 9))) (by
      by_cases h : j = 9
      · rw [decide_eq_true h]; exact b_eql_t (by omega)
      · rw [decide_eq_false h]; exact b_eql_f (by omega)) ?_
    have front : J25_111010010011 (fun e _ => q e) f (.str s) (.int .i64 (at_ : Int)) (.int .u64 ((pref c j : Nat) : Int)) (.int .i64 (j : Int)) (.int .u8 (c j : Int)) h := by
      rw [J25_111010010011_eq]
      refine bindS_mk b_and ?_
      rw [and8_127 _ hcj]
      refine bindS_mk (cv_int .u64 (by kernel_rfl)) ?_
      have e3 : IntKind.u64.wrap ((c j % 128 : Nat) : Int) = ((c j % 128 : Nat) : Int) := by
        generalize c j = x at hcj ⊢
        rw [wrap_u64]; omega
      rw [e3]
      refine bindS_mk (b_mul64 (by omega) (by omega)) ?_
      have e4 : (7 : Int) * (j : Int) = ((7 * j : Nat) : Int) := by omega
      rw [e4]
      refine bindS_mk (b_shl (by omega)) ?_
      have fit := pref_fits c j (by omega) (fun h => by
        have : j = k := by omega
        rw [this]; exact h9 (by omega))
      have hlt := pref_lt c j
      rw [p7] at fit hlt
      rw [Nat.mul_comm (2 ^ (7 * j))] at fit
      rw [shl_n _ _ (by omega) (by omega)]
      refine bindS_mk b_or ?_
      rw [or_join' (7 * j) _ _ hlt (by omega)]
      have e5 : c j % 128 * 2 ^ (7 * j) + pref c j = pref c (j + 1) := by
        rw [pref_succ, p7, Nat.mul_comm, Nat.add_comm]
      rw [e5]
      by_cases hl : j = k
      · subst hl
        refine bindS_mk (b_lss_t (by omega)) ?_
        refine i_t ?_
        have tail : J25_1110100100111101 (fun e _ => q e) f (.int .i64 (at_ : Int)) (.int .u64 ((pref c (j + 1) : Nat) : Int)) (.int .i64 (j : Int)) h := by
          rw [J25_1110100100111101_eq]
          refine bindS_mk (c_add (by omega)) ?_
          refine bindS_mk (c_inc (by omega)) ?_
          exact cc
        by_cases hz : c j = 0
        · have hj0 : j = 0 := by
            rcases Nat.eq_zero_or_pos j with h | h
            · exact h
            · exact absurd hz (h3 (by omega))
          refine bindS_mk (b_eql_t (by omega)) ?_
          refine g_tt ?_
          refine bindS_mk (b_gtr_f (by omega)) ?_
          refine Meet.of (cast_p (G25_111010010011110001002_eq _ _ _ _ _ _ _ _) ?_)
          refine bindV_mk p_t ?_
          refine Meet.of (cast_p (J25_11101001001111001_eq _ _ _ _ _ _ _) ?_)
          exact i_f (Meet.of tail)
        · refine bindS_mk (b_eql_f (by omega)) ?_
          refine g_ft ?_
          refine Meet.of (cast_p (G25_111010010011110001002_eq _ _ _ _ _ _ _ _) ?_)
          refine bindV_mk p_f ?_
          refine Meet.of (cast_p (J25_11101001001111001_eq _ _ _ _ _ _ _) ?_)
          exact i_f (Meet.of tail)
      · have := h1 j (by omega)
        refine bindS_mk (b_lss_f (by omega)) ?_
        refine i_f ?_
        refine Meet.of (cast_p (J25_111010011_eq _ _ _ _ _ _ _) ?_)
        refine bindS_mk (c_inc (by omega)) ?_
        exact Meet.of (loop25 q h s at_ k hk hb hs c hc h1 h2 h3 h9 cc (m - 1) (j + 1) f (by omega) (by omega))
    by_cases hj9 : j = 9
    · rw [decide_eq_true hj9]
      have hle : c j ≤ 1 := by
        have e : j = k := by omega
        rw [e]; exact h9 (by omega)
      refine g_tt ?_
      refine bindS_mk (b_gtr_f (by omega)) ?_
      refine Meet.of (cast_p (G25_11101001001001002_eq _ _ _ _ _ _ _ _ _ _) ?_)
      refine bindV_mk p_t ?_
      refine Meet.of (cast_p (J25_1110100100101_eq _ _ _ _ _ _ _ _ _) ?_)
      exact i_f (Meet.of front)
    · rw [decide_eq_false hj9]
      refine g_ft ?_
      refine Meet.of (cast_p (G25_11101001001001002_eq _ _ _ _ _ _ _ _ _ _) ?_)
      refine bindV_mk p_f ?_
      refine Meet.of (cast_p (J25_1110100100101_eq _ _ _ _ _ _ _ _ _) ?_)
      exact i_f (Meet.of front)
theorem varB_at (a b : List UInt8) (L : List Nat) (hL : ∀ y ∈ L, y < 256) (i : Nat) (hi : i < L.length) : ((a ++ L.map UInt8.ofNat ++ b).getD (a.length + i) 0).toNat = L[i] := by
  rw [List.append_assoc, List.getD_eq_getElem?_getD, List.getElem?_append_right (by omega), Nat.add_sub_cancel_left, List.getElem?_append_left (by simpa using hi), List.getElem?_map, List.getElem?_eq_getElem hi]
  exact UInt8.toNat_ofNat_of_lt' (hL _ (List.getElem_mem hi))
theorem takeP (v : Nat) (hv : v < 18446744073709551616) (a b : List UInt8) (ha : a.length ≤ 65536) (hb : b.length ≤ 65536) (h : AH) :
    ACalls Pg 25 [.str (a ++ varB v ++ b), .int .i64 (a.length : Int)] h (pureE (.tup [.int .u64 (v : Int), .int .i64 ((a.length + (varL v).length : Nat) : Int), .bool true]) h) := by
  refine pure_lift rfl rfl (C25 _ _ _ _ ?_) h
  refine bindS_mk (b_lss_f (by omega)) ?_
  refine i_f ?_
  refine Meet.of (cast_p (J25_11_eq _ _ _ _) ?_)
  have hl := varL10 v hv
  obtain ⟨n, hn⟩ : ∃ n, (varL v).length = n + 1 := ⟨(varL v).length - 1, by have := len_pos v; omega⟩
  have hs : (a ++ varB v ++ b).length = a.length + (varL v).length + b.length := by rw [List.length_append, List.length_append, varB_length]
  have hbt := varB_at a b (varL v) (varL_byte v)
  rw [show (varL v).map UInt8.ofNat = varB v from rfl] at hbt
  generalize hsd : a ++ varB v ++ b = s at *
  let c : Nat → Nat := fun i => (s.getD (a.length + i) 0).toNat
  have hrow : varL v = (List.range (n + 1)).map c := by
    apply List.ext_getElem
    · simp [hn]
    · intro i h1 h2
      rw [List.getElem_map, List.getElem_range]
      exact (hbt i h1).symm
  have hr := (varL_row c (fun i => (s.getD (a.length + i) 0).toNat_lt) v n).1 hrow
  have h9 : n = 9 → c n ≤ 1 := by
    rintro rfl
    rcases Nat.lt_or_ge 1 (c 9) with h | h
    · have := pref_fits_not c h hr.1.2.1
      have e : v = pref c 10 := hr.2
      omega
    · exact h
  refine ⟨n + 1, Meet.of ?_⟩
  refine loop25 (fun e => e = .ret (.tup [.int .u64 (v : Int), .int .i64 ((a.length + (varL v).length : Nat) : Int), .bool true])) AH0 s a.length n (by omega) (by omega) (by omega) c (fun _ => rfl) hr.1.1 hr.1.2.1 hr.1.2.2 h9 ?_ n 0 (n + 1) (by omega) (by omega)
  rw [← hr.2, hn]
  rfl
end Go.Proofs.Ytdhlolcpcgpcnaa.Sh
namespace Go.Proofs.Ytdhlolcpcgpcnaa.Sh
open Go Go.Ab Go.RowKit Go.Gr
set_option linter.unusedSimpArgs false
set_option linter.unusedVariables false
set_option maxRecDepth 10000
theorem short11 (q : AEnd → Prop) (v w : Nat) (hw : w < 18446744073709551616) (hvw : v ≤ w) (h : AH) (c : q (.ret (.bool true))) : J5_11 (fun e _ => q e) (.int .u64 (v : Int)) (.int .u64 (w : Int)) h := by
  have hv : v < 18446744073709551616 := by omega
  have a1 := varB_length v
  have a2 := varB_length w
  have a3 := len_pos v
  have a4 := len_mono hvw
  have a5 := varL10 w hw
  have a6 := wid_mono hvw
  have a7 := wid8 w hw
  have a8 := wid_len w
  have a9 := len_wid w
  rw [J5_11_eq]
  refine call_mk (varP v hv _) ?_
  refine bindV_mk (len_str (by kernel_rfl)) ?_
  refine call_mk (varP w hw _) ?_
  refine bindV_mk (len_str (by kernel_rfl)) ?_
  refine bindS_mk (b_geq_t (by omega)) ?_
  refine g_tt ?_
  refine bindS_mk (b_leq_t (by omega)) ?_
  refine Meet.of (cast_p (G5_11101002_eq _ _ _ _ _ _ _) ?_)
  refine bindV_mk p_t ?_
  refine g_tt ?_
  refine bindS_mk (b_leq_t (by omega)) ?_
  refine Meet.of (cast_p (G5_11101004_eq _ _ _ _ _ _ _) ?_)
  refine bindV_mk p_t ?_
  refine g_tt ?_
  refine call_mk (widthP v hv _) ?_
  refine call_mk (widthP w hw _) ?_
  refine bindS_mk (b_leq_t (by omega)) ?_
  refine Meet.of (cast_p (G5_11101006_eq _ _ _ _ _ _) ?_)
  refine bindV_mk p_t ?_
  refine g_tt ?_
  refine call_mk (widthP w hw _) ?_
  refine bindS_mk (b_leq_t (by omega)) ?_
  refine Meet.of (cast_p (G5_11101008_eq _ _ _ _ _ _) ?_)
  refine bindV_mk p_t ?_
  refine g_tt ?_
  refine bindS_mk (b_mul64 (by omega) (by omega)) ?_
  refine call_mk (widthP w hw _) ?_
  refine bindS_mk (b_mul64 (by omega) (by omega)) ?_
  refine bindS_mk (b_sub64 (by omega) (by omega)) ?_
  refine bindS_mk (b_geq_t (by omega)) ?_
  refine Meet.of (cast_p (G5_11101010_eq _ _ _ _ _ _) ?_)
  refine bindV_mk p_t ?_
  refine g_tt ?_
  refine bindS_mk (b_sub64 (by omega) (by omega)) ?_
  refine bindS_mk (b_mul64 (by omega) (by omega)) ?_
  refine call_mk (widthP w hw _) ?_
  refine bindS_mk (b_mul64 (by omega) (by omega)) ?_
  refine bindS_mk (b_leq_t (by omega)) ?_
  refine Meet.of (cast_p (G5_11101012_eq _ _ _ _) ?_)
  refine bindV_mk p_t ?_
  refine Meet.of (cast_p (J5_1111_eq _ _ _) ?_)
  exact c
theorem shortLaw (v w : Nat) (hv : v < 18446744073709551616) (hw : w < 18446744073709551616) : ACalls Pg 5 [.int .u64 (v : Int), .int .u64 (w : Int)] AH0 fun e _ => e = .ret (.bool true) := by
  refine C5 _ _ _ AH0 ?_
  by_cases h : v ≤ w
  · refine bindS_mk (b_gtr_f (by omega)) ?_
    refine i_f ?_
    exact Meet.of (short11 (fun e => e = .ret (.bool true)) v w hw h AH0 rfl)
  · refine bindS_mk (b_gtr_t (by omega)) ?_
    refine i_t ?_
    exact Meet.of (short11 (fun e => e = .ret (.bool true)) w v hv (by omega) AH0 rfl)
theorem eqRefl {t : TypeId} {s : List UInt8} {c : Bool} : aBin Pg .eql t (.str s) (.str s) c = some (.bool true) := t_eql_t rfl
theorem eqReflI {t : TypeId} {k : IntKind} {s : Int} {c : Bool} : aBin Pg .eql t (.int k s) (.int k s) c = some (.bool true) := b_eql_t rfl
theorem neReflI {t : TypeId} {k : IntKind} {s : Int} {c : Bool} : aBin Pg .neq t (.int k s) (.int k s) c = some (.bool false) := b_neq_f rfl
/-- What Put gives, whatever the number of bytes. -/
def putZ (v : Nat) (n : Int) : List UInt8 := if n < 0 ∨ n > 8 then [] else putB v n.toNat
theorem putZA (v : Nat) (n : Int) (hv : v < 18446744073709551616) (h : AH) : ACalls Pg 22 [.int .u64 (v : Int), .int .i64 n] h (pureE (.str (putZ v n)) h) := by
  unfold putZ
  by_cases hn : n < 0 ∨ n > 8
  · rw [if_pos hn]; exact putAx v n hn h
  · rw [if_neg hn]
    obtain ⟨m, rfl⟩ := Int.eq_ofNat_of_zero_le (show 0 ≤ n by omega)
    exact putAn v m (by omega) hv h
theorem putZB (v : Nat) (n : Int) (hv : v < 18446744073709551616) (h : AH) : ACalls Pg 23 [.int .u64 (v : Int), .int .i64 n] h (pureE (.str (putZ v n)) h) := by
  unfold putZ
  by_cases hn : n < 0 ∨ n > 8
  · rw [if_pos hn]; exact putBx v n hn h
  · rw [if_neg hn]
    obtain ⟨m, rfl⟩ := Int.eq_ofNat_of_zero_le (show 0 ≤ n by omega)
    exact putBn v m (by omega) hv h
theorem putsLaw (v : Nat) (n : Int) (hv : v < 18446744073709551616) : ACalls Pg 6 [.int .u64 (v : Int), .int .i64 n] AH0 fun e _ => e = .ret (.bool true) := by
  refine C6 _ _ _ AH0 ?_
  refine call_mk (putZA v n hv _) ?_
  refine call_mk (putZB v n hv _) ?_
  refine bindS_mk eqRefl ?_
  refine g_tt ?_
  refine call_mk (widthP v hv _) ?_
  refine call_mk (widthR v hv _) ?_
  refine bindS_mk eqReflI ?_
  refine Meet.of (cast_p (G6_101002_eq _ _ _ _) ?_)
  refine bindV_mk p_t ?_
  refine Meet.of (cast_p (J6_11_eq _ _ _) ?_)
  rfl
theorem ev15 (q : AEnd → Prop) : vc Pg N15 B15 .leaf (vcRet Pg R15 (fun e _ => q e)) (initEnv 0 [.int .i64 (-1)]) AH0 = q (.ret (.int .u64 1)) := by kernel_rfl
theorem c15 (q : AEnd → Prop) (c : q (.ret (.int .u64 1))) : ACalls Pg 15 [.int .i64 (-1)] AH0 fun e _ => q e :=
  acalls_vc okP Try.func15 (show Try.f15.body = some B15 from by kernel_rfl) .leaf N15 R15 rfl (by kernel_rfl) (by rw [ev15 q]; exact c)
theorem zigM1 (h : AH) : ACalls Pg 15 [.int .i64 (-1)] h (pureE (.int .u64 1) h) := pure_lift rfl rfl (c15 (fun e => e = .ret (.int .u64 1)) rfl) h
theorem awakeC (h : AH) : ACalls Pg 28 [] h (pureE (.bool true) h) := by
  have g1 : ∀ h, ACalls Pg 18 [.str [2, 1], .int .i64 0, .int .i64 2] h (pureE (.tup [.int .u64 258, .bool true]) h) := fun h => getP [2, 1] 0 2 (by decide) (by decide) (by decide) h
  have g2 : ∀ h, ACalls Pg 22 [.int .u64 258, .int .i64 2] h (pureE (.str [2, 1]) h) := fun h => putAn 258 2 (by decide) (by decide) h
  have g3 : ∀ h, ACalls Pg 20 [.int .u64 128] h (pureE (.str [128, 1]) h) := fun h => by
    have e : varB 128 = [128, 1] := by rw [varB, varL_big (by decide), varL_small (by decide)]; rfl
    have := varP 128 (by decide) h
    rw [e] at this
    exact this
  refine pure_lift rfl rfl (C28 _ _ ?_) h
  refine call_mk (g1 _) ?_
  refine bindS_mk (show aExtract _ _ = some _ from rfl) ?_
  refine bindS_mk (show aExtract _ _ = some _ from rfl) ?_
  refine call_mk (g2 _) ?_
  refine bindS_mk eqRefl ?_
  refine g_tt ?_
  refine bindS_mk eqReflI ?_
  refine Meet.of (cast_p (G28_1101002_eq _ _ _ _ _) ?_)
  refine bindV_mk p_t ?_
  refine g_tt ?_
  refine Meet.of (cast_p (G28_1101004_eq _ _ _ _) ?_)
  refine bindV_mk p_t ?_
  refine g_tt ?_
  refine call_mk (g3 _) ?_
  refine bindS_mk eqRefl ?_
  refine Meet.of (cast_p (G28_1101006_eq _ _ _ _) ?_)
  refine bindV_mk p_t ?_
  refine g_tt ?_
  refine call_mk (zigM1 _) ?_
  refine bindS_mk eqReflI ?_
  refine Meet.of (cast_p (G28_1101008_eq _ _ _ _) ?_)
  refine bindV_mk p_t ?_
  refine Meet.of (cast_p (J28_111_eq _ _ _) ?_)
  rfl
theorem joined11 (v n m : Nat) (hv : v < 18446744073709551616) (hnm : n + m ≤ 8) (h : AH) (q : AEnd → Prop) (c : q (.ret (.bool true))) : J8_11 (fun e _ => q e) (.int .u64 (v : Int)) (.int .i64 (n : Int)) (.int .i64 (m : Int)) h := by
  rw [J8_11_eq]
  have e1 : (4 : Int) * (n : Int) = ((4 * n : Nat) : Int) := by omega
  have e3 : v / 2 ^ (4 * n) / 2 ^ (4 * n) = v / 256 ^ n := by
    rw [Nat.div_div_eq_div_mul, ← Nat.pow_add, show 4 * n + 4 * n = 8 * n by omega, Nat.pow_mul]
  have hlt : v / 256 ^ n < 18446744073709551616 := Nat.lt_of_le_of_lt (Nat.div_le_self _ _) hv
  refine ⟨_, putAn v n (by omega) hv _, ?_⟩
  refine bindSO_mk (b_mul64 (by omega) (by omega)) ?_
  rw [e1]
  refine bindSO_mk (b_shr (by omega)) ?_
  rw [shr_n _ _ (by omega)]
  refine bindSO_mk (b_mul64 (by omega) (by omega)) ?_
  rw [e1]
  refine bindSO_mk (b_shr (by omega)) ?_
  rw [shr_n _ _ (by omega), e3]
  refine ⟨_, putAn _ m (by omega) hlt _, ?_⟩
  refine bindSO_mk (t_add (by rw [putB_length, putB_length]; omega)) ?_
  refine bindSO_mk (c_add (by omega)) ?_
  refine ⟨_, putAn v (n + m) hnm hv _, ?_⟩
  refine bindSO_mk (t_eql_t (putB_join n m v).symm) ?_
  refine g_tt ?_
  refine ⟨_, awakeC _, ?_⟩
  refine Meet.of (cast_p (G8_1101002_eq _ _ _ _) ?_)
  refine bindVO_mk p_t ?_
  refine Meet.of (cast_p (J8_111_eq _ _ _) ?_)
  exact c
theorem joinedLaw (v : Nat) (n m : Int) (hv : v < 18446744073709551616) (hm64 : -9223372036854775808 ≤ n ∧ n < 9223372036854775808) : ACalls Pg 8 [.int .u64 (v : Int), .int .i64 n, .int .i64 m] AH0 fun e _ => e = .ret (.bool true) := by
  refine C8 _ _ _ _ AH0 ?_
  have wake : ∀ h, J8_101 (fun e _ => e = .ret (.bool true)) (.int .u64 (v : Int)) (.int .i64 n) (.int .i64 m) (.bool true) h := by
    intro h
    rw [J8_101_eq]
    refine i_t ?_
    refine call_mk (awakeC _) ?_
    rfl
  by_cases c1 : n < 0
  · refine bindS_mk (b_lss_t (by omega)) ?_
    refine g_tf ?_
    refine Meet.of (cast_p (G8_1001002_eq _ _ _ _ _ _ _) ?_)
    refine bindV_mk p_t ?_
    refine g_tf ?_
    refine Meet.of (cast_p (G8_1001004_eq _ _ _ _ _ _ _) ?_)
    refine bindV_mk p_t ?_
    refine g_tf ?_
    refine Meet.of (cast_p (G8_1001006_eq _ _ _ _ _ _ _) ?_)
    refine bindV_mk p_t ?_
    exact Meet.of (wake _)
  by_cases c2 : m < 0
  · refine bindS_mk (b_lss_f (by omega)) ?_
    refine g_ff ?_
    refine bindS_mk (b_lss_t (by omega)) ?_
    refine Meet.of (cast_p (G8_1001002_eq _ _ _ _ _ _ _) ?_)
    refine bindV_mk p_f ?_
    refine g_tf ?_
    refine Meet.of (cast_p (G8_1001004_eq _ _ _ _ _ _ _) ?_)
    refine bindV_mk p_t ?_
    refine g_tf ?_
    refine Meet.of (cast_p (G8_1001006_eq _ _ _ _ _ _ _) ?_)
    refine bindV_mk p_t ?_
    exact Meet.of (wake _)
  by_cases c3 : n > 8
  · refine bindS_mk (b_lss_f (by omega)) ?_
    refine g_ff ?_
    refine bindS_mk (b_lss_f (by omega)) ?_
    refine Meet.of (cast_p (G8_1001002_eq _ _ _ _ _ _ _) ?_)
    refine bindV_mk p_f ?_
    refine g_ff ?_
    refine bindS_mk (b_gtr_t (by omega)) ?_
    refine Meet.of (cast_p (G8_1001004_eq _ _ _ _ _ _ _) ?_)
    refine bindV_mk p_f ?_
    refine g_tf ?_
    refine Meet.of (cast_p (G8_1001006_eq _ _ _ _ _ _ _) ?_)
    refine bindV_mk p_t ?_
    exact Meet.of (wake _)
  by_cases c4 : m > 8 - n
  · refine bindS_mk (b_lss_f (by omega)) ?_
    refine g_ff ?_
    refine bindS_mk (b_lss_f (by omega)) ?_
    refine Meet.of (cast_p (G8_1001002_eq _ _ _ _ _ _ _) ?_)
    refine bindV_mk p_f ?_
    refine g_ff ?_
    refine bindS_mk (b_gtr_f (by omega)) ?_
    refine Meet.of (cast_p (G8_1001004_eq _ _ _ _ _ _ _) ?_)
    refine bindV_mk p_f ?_
    refine g_ff ?_
    refine bindS_mk (b_sub64 (by omega) (by omega)) ?_
    refine bindS_mk (b_gtr_t (by omega)) ?_
    refine Meet.of (cast_p (G8_1001006_eq _ _ _ _ _ _ _) ?_)
    refine bindV_mk p_f ?_
    exact Meet.of (wake _)
  obtain ⟨n, rfl⟩ := Int.eq_ofNat_of_zero_le (show 0 ≤ n by omega)
  obtain ⟨m, rfl⟩ := Int.eq_ofNat_of_zero_le (show 0 ≤ m by omega)
  refine bindS_mk (b_lss_f (by omega)) ?_
  refine g_ff ?_
  refine bindS_mk (b_lss_f (by omega)) ?_
  refine Meet.of (cast_p (G8_1001002_eq _ _ _ _ _ _ _) ?_)
  refine bindV_mk p_f ?_
  refine g_ff ?_
  refine bindS_mk (b_gtr_f (by omega)) ?_
  refine Meet.of (cast_p (G8_1001004_eq _ _ _ _ _ _ _) ?_)
  refine bindV_mk p_f ?_
  refine g_ff ?_
  refine bindS_mk (b_sub64 (by omega) (by omega)) ?_
  refine bindS_mk (b_gtr_f (by omega)) ?_
  refine Meet.of (cast_p (G8_1001006_eq _ _ _ _ _ _ _) ?_)
  refine bindV_mk p_f ?_
  refine Meet.of (cast_p (J8_101_eq _ _ _ _ _ _) ?_)
  refine i_f ?_
  exact Meet.of (joined11 v n m hv (by omega) _ _ rfl)
theorem backLaw (v : Nat) (n : Int) (a b : List UInt8) (hv : v < 18446744073709551616) (ha : a.length < 140737488355328) (hb : b.length < 140737488355328) : ACalls Pg 9 [.int .u64 (v : Int), .int .i64 n, .str a, .str b] AH0 fun e _ => e = .ret (.bool true) := by
  refine C9 _ _ _ _ _ AH0 ?_
  have wake : ∀ h, J9_101 (fun e _ => e = .ret (.bool true)) (.int .u64 (v : Int)) (.int .i64 n) (.str a) (.str b) (.bool true) h := by
    intro h
    rw [J9_101_eq]
    refine i_t ?_
    refine call_mk (awakeC _) ?_
    rfl
  have wake2 : ∀ h, J9_1111101 (fun e _ => e = .ret (.bool true)) (.int .u64 (v : Int)) (.int .i64 n) (.str a) (.str b) (.bool true) h := by
    intro h
    rw [J9_1111101_eq]
    refine i_t ?_
    refine call_mk (awakeC _) ?_
    rfl
  refine bindV_mk (len_str (by kernel_rfl)) ?_
  by_cases c1 : (a.length : Int) > 65536
  · refine bindS_mk (b_gtr_t (by omega)) ?_
    refine g_tf ?_
    refine Meet.of (cast_p (G9_1001002_eq _ _ _ _ _ _ _ _) ?_)
    refine bindV_mk p_t ?_
    exact Meet.of (wake _)
  refine bindS_mk (b_gtr_f c1) ?_
  refine g_ff ?_
  refine bindV_mk (len_str (by kernel_rfl)) ?_
  by_cases c2 : (b.length : Int) > 65536
  · refine bindS_mk (b_gtr_t (by omega)) ?_
    refine Meet.of (cast_p (G9_1001002_eq _ _ _ _ _ _ _ _) ?_)
    refine bindV_mk p_f ?_
    exact Meet.of (wake _)
  have a1 := varB_length v
  have a2 := varL10 v hv
  refine bindS_mk (b_gtr_f (by omega)) ?_
  refine Meet.of (cast_p (G9_1001002_eq _ _ _ _ _ _ _ _) ?_)
  refine bindV_mk p_f ?_
  refine Meet.of (cast_p (J9_101_eq _ _ _ _ _ _ _) ?_)
  refine i_f ?_
  refine Meet.of (cast_p (J9_11_eq _ _ _ _ _ _) ?_)
  refine call_mk (varP v hv _) ?_
  refine bindS_mk (t_add (by omega)) ?_
  refine bindS_mk (t_add (by rw [List.length_append]; omega)) ?_
  refine bindV_mk (len_str (by kernel_rfl)) ?_
  refine call_mk (takeP v hv a b (by omega) (by omega) _) ?_
  refine bindS_mk (show aExtract _ _ = some _ from rfl) ?_
  refine bindS_mk (show aExtract _ _ = some _ from rfl) ?_
  refine bindS_mk (show aExtract _ _ = some _ from rfl) ?_
  refine bindS_mk u_not ?_
  refine g_ff ?_
  refine bindS_mk neReflI ?_
  refine Meet.of (cast_p (G9_1111001002_eq _ _ _ _ _ _ _ _ _ _) ?_)
  refine bindV_mk p_f ?_
  refine g_ff ?_
  refine bindV_mk (len_str (by kernel_rfl)) ?_
  refine bindV_mk (len_str (by kernel_rfl)) ?_
  refine bindS_mk (c_add (by omega)) ?_
  refine bindS_mk (b_neq_f (by omega)) ?_
  refine Meet.of (cast_p (G9_1111001004_eq _ _ _ _ _ _ _ _) ?_)
  refine bindV_mk p_f ?_
  refine Meet.of (cast_p (J9_111101_eq _ _ _ _ _ _ _) ?_)
  refine i_f ?_
  refine Meet.of (cast_p (J9_11111_eq _ _ _ _ _ _) ?_)
  refine call_mk (widthP v hv _) ?_
  by_cases c3 : n < ((wid v : Nat) : Int)
  · refine bindS_mk (b_lss_t (by omega)) ?_
    refine g_tf ?_
    refine Meet.of (cast_p (G9_11111001002_eq _ _ _ _ _ _ _ _) ?_)
    refine bindV_mk p_t ?_
    exact Meet.of (wake2 _)
  by_cases c4 : n > 8
  · refine bindS_mk (b_lss_f (by omega)) ?_
    refine g_ff ?_
    refine bindS_mk (b_gtr_t (by omega)) ?_
    refine Meet.of (cast_p (G9_11111001002_eq _ _ _ _ _ _ _ _) ?_)
    refine bindV_mk p_f ?_
    exact Meet.of (wake2 _)
  obtain ⟨m, rfl⟩ := Int.eq_ofNat_of_zero_le (show 0 ≤ n by omega)
  have hvm : v < 256 ^ m := (wid_le m v).1 (by omega)
  have a3 := putB_length v m
  have hval : valB (a ++ putB v m ++ b) a.length m = v := by
    rw [valB_mid a b m v a.length _ rfl rfl, Nat.mod_eq_of_lt hvm]
  have get := getP (a ++ putB v m ++ b) a.length m (by omega) (by rw [List.length_append, List.length_append]; omega) (by rw [List.length_append, List.length_append]; omega)
  rw [hval] at get
  refine bindS_mk (b_lss_f (by omega)) ?_
  refine g_ff ?_
  refine bindS_mk (b_gtr_f (by omega)) ?_
  refine Meet.of (cast_p (G9_11111001002_eq _ _ _ _ _ _ _ _) ?_)
  refine bindV_mk p_f ?_
  refine Meet.of (cast_p (J9_1111101_eq _ _ _ _ _ _ _) ?_)
  refine i_f ?_
  refine Meet.of (cast_p (J9_111111_eq _ _ _ _ _ _) ?_)
  refine call_mk (putAn v m (by omega) hv _) ?_
  refine bindS_mk (t_add (by omega)) ?_
  refine bindS_mk (t_add (by rw [List.length_append]; omega)) ?_
  refine bindV_mk (len_str (by kernel_rfl)) ?_
  refine call_mk (get _) ?_
  refine bindS_mk (show aExtract _ _ = some _ from rfl) ?_
  refine bindS_mk (show aExtract _ _ = some _ from rfl) ?_
  refine g_tt ?_
  refine bindS_mk eqReflI ?_
  refine Meet.of (cast_p (G9_111111101002_eq _ _ _ _) ?_)
  refine bindV_mk p_t ?_
  refine Meet.of (cast_p (J9_11111111_eq _ _ _) ?_)
  rfl
end Go.Proofs.Ytdhlolcpcgpcnaa.Sh
