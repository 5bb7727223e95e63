import Derived.Test.YtdhlolcpcgpcnaaAbE
import Derived.Test.YtdhlolcpcgpcnaaProg
set_option linter.unusedVariables false
set_option linter.unusedSimpArgs false
namespace Go.Proofs.Ytdhlolcpcgpcnaa.Sh
open Go Go.Ab Go.RowKit
noncomputable abbrev Pg : Program := Try.prog
theorem okAll : ((List.range Pg.types.size).all fun t => layAt Pg t && zeroAt Pg t) = true := by kernel_rfl
theorem okP : Ok Pg := ok_of Pg fun t ht => List.all_eq_true.1 okAll t (List.mem_range.2 ht)
end Go.Proofs.Ytdhlolcpcgpcnaa.Sh
namespace Go.Proofs.Ytdhlolcpcgpcnaa.Sh
open Go Go.Ab Go.RowKit
-- 5 varve/varvelaw01.WordShort
noncomputable def B5 : Code := (Try.f5.body).getD .skip
def R5 : List ResultVar := [.tmp 4]
abbrev N5 : Nat := 59
def K5 : KT := (.seq .leaf (.join (.seq .leaf (.two .leaf .leaf) [0, 1, 9]) (.seq .leaf (.join (.reg [[0, 1, 6, 20, 23], [0, 1, 6, 25, 27], [1, 6, 29, 34], [1, 6, 36, 39], [1, 6, 41, 48], [50, 57]]) .leaf [4]) [0, 1, 5, 6]) [0, 1]) [0, 1])
def J5_1111 (Q : AEnd → AH → Prop) (x4 : V) (h : AH) : Prop := vcAt Pg N5 B5 K5 [1, 1, 1, 1] [] (vcRet Pg R5 Q) [(4, x4)] h
def G5_11101012 (Q : AEnd → AH → Prop) (x50 x57 : V) (h : AH) : Prop := segAt Pg N5 B5 K5 [1, 1, 1, 0] 12 6 [] (vcRet Pg R5 Q) [(50, x50), (57, x57)] h
def G5_11101010 (Q : AEnd → AH → Prop) (x1 x6 x41 x48 : V) (h : AH) : Prop := segAt Pg N5 B5 K5 [1, 1, 1, 0] 10 5 [] (vcRet Pg R5 Q) [(1, x1), (6, x6), (41, x41), (48, x48)] h
def G5_11101008 (Q : AEnd → AH → Prop) (x1 x6 x36 x39 : V) (h : AH) : Prop := segAt Pg N5 B5 K5 [1, 1, 1, 0] 8 4 [] (vcRet Pg R5 Q) [(1, x1), (6, x6), (36, x36), (39, x39)] h
def G5_11101006 (Q : AEnd → AH → Prop) (x1 x6 x29 x34 : V) (h : AH) : Prop := segAt Pg N5 B5 K5 [1, 1, 1, 0] 6 3 [] (vcRet Pg R5 Q) [(1, x1), (6, x6), (29, x29), (34, x34)] h
def G5_11101004 (Q : AEnd → AH → Prop) (x0 x1 x6 x25 x27 : V) (h : AH) : Prop := segAt Pg N5 B5 K5 [1, 1, 1, 0] 4 2 [] (vcRet Pg R5 Q) [(0, x0), (1, x1), (6, x6), (25, x25), (27, x27)] h
def G5_11101002 (Q : AEnd → AH → Prop) (x0 x1 x6 x20 x23 : V) (h : AH) : Prop := segAt Pg N5 B5 K5 [1, 1, 1, 0] 2 1 [] (vcRet Pg R5 Q) [(0, x0), (1, x1), (6, x6), (20, x20), (23, x23)] h
def J5_11 (Q : AEnd → AH → Prop) (x0 x1 : V) (h : AH) : Prop := vcAt Pg N5 B5 K5 [1, 1] [] (vcRet Pg R5 Q) [(0, x0), (1, x1)] h
theorem J5_1111_eq (Q : AEnd → AH → Prop) (x4 : V) (h : AH) : J5_1111 Q x4 h = (
  Q (.ret x4) h) := by kernel_rfl
theorem G5_11101012_eq (Q : AEnd → AH → Prop) (x50 x57 : V) (h : AH) : G5_11101012 Q x50 x57 h = (
  bindV (aPick x50 x57 (V.bool false) h) fun v23 h24 =>
  Meet (J5_1111 Q v23 h24)) := by kernel_rfl
theorem G5_11101010_eq (Q : AEnd → AH → Prop) (x1 x6 x41 x48 : V) (h : AH) : G5_11101010 Q x1 x6 x41 x48 h = (
  bindV (aPick x41 x48 (V.bool false) h) fun v21 h22 =>
  vcG v21 true (
  bindV (still (aBin Pg .sub 3 x6 (V.int .i64 1) true) h22) fun v25 h26 =>
  bindV (still (aBin Pg .mul 3 (V.int .i64 7) v25 true) h26) fun v27 h28 =>
  ACalls Pg 21 [x1] h28 (aEnd (fun v29 h30 =>
  bindV (still (aBin Pg .mul 3 (V.int .i64 8) v29 true) h30) fun v31 h32 =>
  bindV (still (aBin Pg .leq 3 v27 v31 false) h32) fun v33 h34 =>
  Meet (G5_11101012 Q v21 v33 h34)) fun v h => Q (.panic v) h)) (Meet (G5_11101012 Q v21 hole h22))) := by kernel_rfl
theorem G5_11101008_eq (Q : AEnd → AH → Prop) (x1 x6 x36 x39 : V) (h : AH) : G5_11101008 Q x1 x6 x36 x39 h = (
  bindV (aPick x36 x39 (V.bool false) h) fun v19 h20 =>
  vcG v19 true (
  bindV (still (aBin Pg .mul 3 (V.int .i64 7) x6 true) h20) fun v35 h36 =>
  ACalls Pg 21 [x1] h36 (aEnd (fun v37 h38 =>
  bindV (still (aBin Pg .mul 3 (V.int .i64 8) v37 true) h38) fun v39 h40 =>
  bindV (still (aBin Pg .sub 3 v39 (V.int .i64 7) true) h40) fun v41 h42 =>
  bindV (still (aBin Pg .geq 3 v35 v41 false) h42) fun v43 h44 =>
  Meet (G5_11101010 Q x1 x6 v19 v43 h44)) fun v h => Q (.panic v) h)) (Meet (G5_11101010 Q x1 x6 v19 hole h20))) := by kernel_rfl
theorem G5_11101006_eq (Q : AEnd → AH → Prop) (x1 x6 x29 x34 : V) (h : AH) : G5_11101006 Q x1 x6 x29 x34 h = (
  bindV (aPick x29 x34 (V.bool false) h) fun v17 h18 =>
  vcG v17 true (
  ACalls Pg 21 [x1] h18 (aEnd (fun v45 h46 =>
  bindV (still (aBin Pg .leq 3 v45 (V.int .i64 8) true) h46) fun v47 h48 =>
  Meet (G5_11101008 Q x1 x6 v17 v47 h48)) fun v h => Q (.panic v) h)) (Meet (G5_11101008 Q x1 x6 v17 hole h18))) := by kernel_rfl
theorem G5_11101004_eq (Q : AEnd → AH → Prop) (x0 x1 x6 x25 x27 : V) (h : AH) : G5_11101004 Q x0 x1 x6 x25 x27 h = (
  bindV (aPick x25 x27 (V.bool false) h) fun v15 h16 =>
  vcG v15 true (
  ACalls Pg 21 [x0] h16 (aEnd (fun v49 h50 =>
  ACalls Pg 21 [x1] h50 (aEnd (fun v51 h52 =>
  bindV (still (aBin Pg .leq 3 v49 v51 false) h52) fun v53 h54 =>
  Meet (G5_11101006 Q x1 x6 v15 v53 h54)) fun v h => Q (.panic v) h)) fun v h => Q (.panic v) h)) (Meet (G5_11101006 Q x1 x6 v15 hole h16))) := by kernel_rfl
theorem G5_11101002_eq (Q : AEnd → AH → Prop) (x0 x1 x6 x20 x23 : V) (h : AH) : G5_11101002 Q x0 x1 x6 x20 x23 h = (
  bindV (aPick x20 x23 (V.bool false) h) fun v13 h14 =>
  vcG v13 true (
  bindV (still (aBin Pg .leq 3 x6 (V.int .i64 10) true) h14) fun v55 h56 =>
  Meet (G5_11101004 Q x0 x1 x6 v13 v55 h56)) (Meet (G5_11101004 Q x0 x1 x6 v13 hole h14))) := by kernel_rfl
theorem J5_11_eq (Q : AEnd → AH → Prop) (x0 x1 : V) (h : AH) : J5_11 Q x0 x1 h = (
  ACalls Pg 20 [x0] h (aEnd (fun v3 h4 =>
  bindV (aBuiltin Pg h4 .len [9] [v3]) fun v5 h6 =>
  ACalls Pg 20 [x1] h6 (aEnd (fun v7 h8 =>
  bindV (aBuiltin Pg h8 .len [9] [v7]) fun v9 h10 =>
  bindV (still (aBin Pg .geq 3 v5 (V.int .i64 1) true) h10) fun v11 h12 =>
  vcG v11 true (
  bindV (still (aBin Pg .leq 3 v5 v9 false) h12) fun v57 h58 =>
  Meet (G5_11101002 Q x0 x1 v9 v11 v57 h58)) (Meet (G5_11101002 Q x0 x1 v9 v11 hole h12))) fun v h => Q (.panic v) h)) fun v h => Q (.panic v) h)) := by kernel_rfl
theorem S5 (Q : AEnd → AH → Prop) (a0 a1 : V) (h : AH) : vc Pg N5 B5 K5 (vcRet Pg R5 Q) (initEnv 0 [a0, a1]) h = (
  bindV (still (aBin Pg .gtr 22 a0 a1 false) h) fun v1 h2 =>
  vcIf v1 (
  Meet (J5_11 Q a1 a0 h2)) (
  Meet (J5_11 Q a0 a1 h2))) := by kernel_rfl
theorem C5 (Q : AEnd → AH → Prop) (a0 a1 : V) (h : AH) (c :
  bindV (still (aBin Pg .gtr 22 a0 a1 false) h) fun v1 h2 =>
  vcIf v1 (
  Meet (J5_11 Q a1 a0 h2)) (
  Meet (J5_11 Q a0 a1 h2))) : ACalls Pg 5 [a0, a1] h Q :=
  acalls_of_vc okP Try.func5 (show Try.f5.body = some B5 from by kernel_rfl) K5 (by rw [← S5 Q a0 a1 h] at c; exact c)

-- 6 varve/varvelaw01.WordPuts
noncomputable def B6 : Code := (Try.f6.body).getD .skip
def R6 : List ResultVar := [.tmp 4]
abbrev N6 : Nat := 19
def K6 : KT := (.seq .leaf (.join (.reg [[12, 17]]) .leaf [4]) [0, 1])
def J6_11 (Q : AEnd → AH → Prop) (x4 : V) (h : AH) : Prop := vcAt Pg N6 B6 K6 [1, 1] [] (vcRet Pg R6 Q) [(4, x4)] h
def G6_101002 (Q : AEnd → AH → Prop) (x12 x17 : V) (h : AH) : Prop := segAt Pg N6 B6 K6 [1, 0] 2 1 [] (vcRet Pg R6 Q) [(12, x12), (17, x17)] h
theorem J6_11_eq (Q : AEnd → AH → Prop) (x4 : V) (h : AH) : J6_11 Q x4 h = (
  Q (.ret x4) h) := by kernel_rfl
theorem G6_101002_eq (Q : AEnd → AH → Prop) (x12 x17 : V) (h : AH) : G6_101002 Q x12 x17 h = (
  bindV (aPick x12 x17 (V.bool false) h) fun v7 h8 =>
  Meet (J6_11 Q v7 h8)) := by kernel_rfl
theorem S6 (Q : AEnd → AH → Prop) (a0 a1 : V) (h : AH) : vc Pg N6 B6 K6 (vcRet Pg R6 Q) (initEnv 0 [a0, a1]) h = (
  ACalls Pg 22 [a0, a1] h (aEnd (fun v1 h2 =>
  ACalls Pg 23 [a0, a1] h2 (aEnd (fun v3 h4 =>
  bindV (still (aBin Pg .eql 9 v1 v3 false) h4) fun v5 h6 =>
  vcG v5 true (
  ACalls Pg 21 [a0] h6 (aEnd (fun v9 h10 =>
  ACalls Pg 24 [a0] h10 (aEnd (fun v11 h12 =>
  bindV (still (aBin Pg .eql 3 v9 v11 false) h12) fun v13 h14 =>
  Meet (G6_101002 Q v5 v13 h14)) fun v h => Q (.panic v) h)) fun v h => Q (.panic v) h)) (Meet (G6_101002 Q v5 hole h6))) fun v h => Q (.panic v) h)) fun v h => Q (.panic v) h)) := by kernel_rfl
theorem C6 (Q : AEnd → AH → Prop) (a0 a1 : V) (h : AH) (c :
  ACalls Pg 22 [a0, a1] h (aEnd (fun v1 h2 =>
  ACalls Pg 23 [a0, a1] h2 (aEnd (fun v3 h4 =>
  bindV (still (aBin Pg .eql 9 v1 v3 false) h4) fun v5 h6 =>
  vcG v5 true (
  ACalls Pg 21 [a0] h6 (aEnd (fun v9 h10 =>
  ACalls Pg 24 [a0] h10 (aEnd (fun v11 h12 =>
  bindV (still (aBin Pg .eql 3 v9 v11 false) h12) fun v13 h14 =>
  Meet (G6_101002 Q v5 v13 h14)) fun v h => Q (.panic v) h)) fun v h => Q (.panic v) h)) (Meet (G6_101002 Q v5 hole h6))) fun v h => Q (.panic v) h)) fun v h => Q (.panic v) h)) : ACalls Pg 6 [a0, a1] h Q :=
  acalls_of_vc okP Try.func6 (show Try.f6.body = some B6 from by kernel_rfl) K6 (by rw [← S6 Q a0 a1 h] at c; exact c)

-- 8 varve/varvelaw01.WordJoined
noncomputable def B8 : Code := (Try.f8.body).getD .skip
def R8 : List ResultVar := [.tmp 6]
abbrev N8 : Nat := 46
def K8 : KT := (.seq .leaf (.join (.join (.reg [[0, 1, 2, 9, 11], [0, 1, 2, 13, 15], [0, 1, 2, 17, 21]]) (.two (.seq .leaf .leaf [6]) .leaf) [0, 1, 2, 22]) (.join (.reg [[43, 44]]) .leaf [6]) [0, 1, 2]) [0, 1, 2])
def J8_111 (Q : AEnd → AH → Prop) (x6 : V) (h : AH) : Prop := vcAt Pg N8 B8 K8 [1, 1, 1] [] (vcRet Pg R8 Q) [(6, x6)] h
def G8_1101002 (Q : AEnd → AH → Prop) (x43 x44 : V) (h : AH) : Prop := segAtD Pg N8 B8 K8 [1, 1, 0] 2 1 21 [] (vcRet Pg R8 Q) [(43, x43), (44, x44)] h
def J8_11 (Q : AEnd → AH → Prop) (x0 x1 x2 : V) (h : AH) : Prop := vcAt Pg N8 B8 K8 [1, 1] [] (vcRet Pg R8 Q) [(0, x0), (1, x1), (2, x2)] h
def J8_101 (Q : AEnd → AH → Prop) (x0 x1 x2 x22 : V) (h : AH) : Prop := vcAt Pg N8 B8 K8 [1, 0, 1] [] (vcRet Pg R8 Q) [(0, x0), (1, x1), (2, x2), (22, x22)] h
def G8_1001006 (Q : AEnd → AH → Prop) (x0 x1 x2 x17 x21 : V) (h : AH) : Prop := segAt Pg N8 B8 K8 [1, 0, 0] 6 3 [] (vcRet Pg R8 Q) [(0, x0), (1, x1), (2, x2), (17, x17), (21, x21)] h
def G8_1001004 (Q : AEnd → AH → Prop) (x0 x1 x2 x13 x15 : V) (h : AH) : Prop := segAt Pg N8 B8 K8 [1, 0, 0] 4 2 [] (vcRet Pg R8 Q) [(0, x0), (1, x1), (2, x2), (13, x13), (15, x15)] h
def G8_1001002 (Q : AEnd → AH → Prop) (x0 x1 x2 x9 x11 : V) (h : AH) : Prop := segAt Pg N8 B8 K8 [1, 0, 0] 2 1 [] (vcRet Pg R8 Q) [(0, x0), (1, x1), (2, x2), (9, x9), (11, x11)] h
theorem J8_111_eq (Q : AEnd → AH → Prop) (x6 : V) (h : AH) : J8_111 Q x6 h = (
  Q (.ret x6) h) := by kernel_rfl
theorem G8_1101002_eq (Q : AEnd → AH → Prop) (x43 x44 : V) (h : AH) : G8_1101002 Q x43 x44 h = (
  bindO (fstV (aPick x43 x44 (V.bool false) h)) fun v21 =>
  Meet (J8_111 Q v21 h)) := by kernel_rfl
theorem J8_11_eq (Q : AEnd → AH → Prop) (x0 x1 x2 : V) (h : AH) : J8_11 Q x0 x1 x2 h = (
  ∃ v11, ACalls Pg 22 [x0, x1] h (pureE v11 h) ∧ (
  bindO (fstV (still (aBin Pg .mul 3 (V.int .i64 4) x1 true) h)) fun v12 =>
  bindO (fstV (still (aBin Pg .shr 22 x0 v12 false) h)) fun v13 =>
  bindO (fstV (still (aBin Pg .mul 3 (V.int .i64 4) x1 true) h)) fun v14 =>
  bindO (fstV (still (aBin Pg .shr 22 v13 v14 false) h)) fun v15 =>
  ∃ v16, ACalls Pg 22 [v15, x2] h (pureE v16 h) ∧ (
  bindO (fstV (still (aBin Pg .add 9 v11 v16 false) h)) fun v17 =>
  bindO (fstV (still (aBin Pg .add 3 x1 x2 false) h)) fun v18 =>
  ∃ v19, ACalls Pg 22 [x0, v18] h (pureE v19 h) ∧ (
  bindO (fstV (still (aBin Pg .eql 9 v17 v19 false) h)) fun v20 =>
  vcG v20 true (
  ∃ v22, ACalls Pg 28 [] h (pureE v22 h) ∧ (
  Meet (G8_1101002 Q v20 v22 h))) (Meet (G8_1101002 Q v20 hole h)))))) := by kernel_rfl
theorem J8_101_eq (Q : AEnd → AH → Prop) (x0 x1 x2 x22 : V) (h : AH) : J8_101 Q x0 x1 x2 x22 h = (
  vcIf x22 (
  ACalls Pg 28 [] h (aEnd (fun v9 h10 =>
  Q (.ret v9) h10) fun v h => Q (.panic v) h)) (
  Meet (J8_11 Q x0 x1 x2 h))) := by kernel_rfl
theorem G8_1001006_eq (Q : AEnd → AH → Prop) (x0 x1 x2 x17 x21 : V) (h : AH) : G8_1001006 Q x0 x1 x2 x17 x21 h = (
  bindV (aPick x17 (V.bool true) x21 h) fun v7 h8 =>
  Meet (J8_101 Q x0 x1 x2 v7 h8)) := by kernel_rfl
theorem G8_1001004_eq (Q : AEnd → AH → Prop) (x0 x1 x2 x13 x15 : V) (h : AH) : G8_1001004 Q x0 x1 x2 x13 x15 h = (
  bindV (aPick x13 (V.bool true) x15 h) fun v5 h6 =>
  vcG v5 false (
  bindV (still (aBin Pg .sub 3 (V.int .i64 8) x1 true) h6) fun v23 h24 =>
  bindV (still (aBin Pg .gtr 3 x2 v23 false) h24) fun v25 h26 =>
  Meet (G8_1001006 Q x0 x1 x2 v5 v25 h26)) (Meet (G8_1001006 Q x0 x1 x2 v5 hole h6))) := by kernel_rfl
theorem G8_1001002_eq (Q : AEnd → AH → Prop) (x0 x1 x2 x9 x11 : V) (h : AH) : G8_1001002 Q x0 x1 x2 x9 x11 h = (
  bindV (aPick x9 (V.bool true) x11 h) fun v3 h4 =>
  vcG v3 false (
  bindV (still (aBin Pg .gtr 3 x1 (V.int .i64 8) true) h4) fun v27 h28 =>
  Meet (G8_1001004 Q x0 x1 x2 v3 v27 h28)) (Meet (G8_1001004 Q x0 x1 x2 v3 hole h4))) := by kernel_rfl
theorem S8 (Q : AEnd → AH → Prop) (a0 a1 a2 : V) (h : AH) : vc Pg N8 B8 K8 (vcRet Pg R8 Q) (initEnv 0 [a0, a1, a2]) h = (
  bindV (still (aBin Pg .lss 3 a1 (V.int .i64 0) true) h) fun v1 h2 =>
  vcG v1 false (
  bindV (still (aBin Pg .lss 3 a2 (V.int .i64 0) true) h2) fun v29 h30 =>
  Meet (G8_1001002 Q a0 a1 a2 v1 v29 h30)) (Meet (G8_1001002 Q a0 a1 a2 v1 hole h2))) := by kernel_rfl
theorem C8 (Q : AEnd → AH → Prop) (a0 a1 a2 : V) (h : AH) (c :
  bindV (still (aBin Pg .lss 3 a1 (V.int .i64 0) true) h) fun v1 h2 =>
  vcG v1 false (
  bindV (still (aBin Pg .lss 3 a2 (V.int .i64 0) true) h2) fun v29 h30 =>
  Meet (G8_1001002 Q a0 a1 a2 v1 v29 h30)) (Meet (G8_1001002 Q a0 a1 a2 v1 hole h2))) : ACalls Pg 8 [a0, a1, a2] h Q :=
  acalls_of_vc okP Try.func8 (show Try.f8.body = some B8 from by kernel_rfl) K8 (by rw [← S8 Q a0 a1 a2 h] at c; exact c)

-- 9 varve/varvelaw01.WordBack
noncomputable def B9 : Code := (Try.f9.body).getD .skip
def R9 : List ResultVar := [.tmp 8]
abbrev N9 : Nat := 83
def K9 : KT := (.seq .leaf (.join (.join (.reg [[0, 1, 2, 3, 18, 21]]) (.two (.seq .leaf .leaf [8]) .leaf) [0, 1, 2, 3, 22]) (.seq .leaf (.seq .leaf (.join (.join (.reg [[0, 1, 2, 3, 9, 11, 40, 43], [0, 1, 2, 3, 45, 52]]) (.two (.seq .leaf .leaf [8]) .leaf) [0, 1, 2, 3, 53]) (.join (.join (.reg [[0, 1, 2, 3, 58, 60]]) (.two (.seq .leaf .leaf [8]) .leaf) [0, 1, 2, 3, 61]) (.seq .leaf (.join (.reg [[78, 81]]) .leaf [8]) [0, 13, 14]) [0, 1, 2, 3]) [0, 1, 2, 3]) [0, 1, 2, 3, 9, 10, 11, 12]) [0, 1, 2, 3, 9]) [0, 1, 2, 3]) [0, 1, 2, 3])
def J9_11111111 (Q : AEnd → AH → Prop) (x8 : V) (h : AH) : Prop := vcAt Pg N9 B9 K9 [1, 1, 1, 1, 1, 1, 1, 1] [] (vcRet Pg R9 Q) [(8, x8)] h
def G9_111111101002 (Q : AEnd → AH → Prop) (x78 x81 : V) (h : AH) : Prop := segAt Pg N9 B9 K9 [1, 1, 1, 1, 1, 1, 1, 0] 2 1 [] (vcRet Pg R9 Q) [(78, x78), (81, x81)] h
def J9_111111 (Q : AEnd → AH → Prop) (x0 x1 x2 x3 : V) (h : AH) : Prop := vcAt Pg N9 B9 K9 [1, 1, 1, 1, 1, 1] [] (vcRet Pg R9 Q) [(0, x0), (1, x1), (2, x2), (3, x3)] h
def J9_1111101 (Q : AEnd → AH → Prop) (x0 x1 x2 x3 x61 : V) (h : AH) : Prop := vcAt Pg N9 B9 K9 [1, 1, 1, 1, 1, 0, 1] [] (vcRet Pg R9 Q) [(0, x0), (1, x1), (2, x2), (3, x3), (61, x61)] h
def G9_11111001002 (Q : AEnd → AH → Prop) (x0 x1 x2 x3 x58 x60 : V) (h : AH) : Prop := segAt Pg N9 B9 K9 [1, 1, 1, 1, 1, 0, 0] 2 1 [] (vcRet Pg R9 Q) [(0, x0), (1, x1), (2, x2), (3, x3), (58, x58), (60, x60)] h
def J9_11111 (Q : AEnd → AH → Prop) (x0 x1 x2 x3 : V) (h : AH) : Prop := vcAt Pg N9 B9 K9 [1, 1, 1, 1, 1] [] (vcRet Pg R9 Q) [(0, x0), (1, x1), (2, x2), (3, x3)] h
def J9_111101 (Q : AEnd → AH → Prop) (x0 x1 x2 x3 x53 : V) (h : AH) : Prop := vcAt Pg N9 B9 K9 [1, 1, 1, 1, 0, 1] [] (vcRet Pg R9 Q) [(0, x0), (1, x1), (2, x2), (3, x3), (53, x53)] h
def G9_1111001004 (Q : AEnd → AH → Prop) (x0 x1 x2 x3 x45 x52 : V) (h : AH) : Prop := segAt Pg N9 B9 K9 [1, 1, 1, 1, 0, 0] 4 2 [] (vcRet Pg R9 Q) [(0, x0), (1, x1), (2, x2), (3, x3), (45, x45), (52, x52)] h
def G9_1111001002 (Q : AEnd → AH → Prop) (x0 x1 x2 x3 x9 x11 x40 x43 : V) (h : AH) : Prop := segAt Pg N9 B9 K9 [1, 1, 1, 1, 0, 0] 2 1 [] (vcRet Pg R9 Q) [(0, x0), (1, x1), (2, x2), (3, x3), (9, x9), (11, x11), (40, x40), (43, x43)] h
def J9_11 (Q : AEnd → AH → Prop) (x0 x1 x2 x3 : V) (h : AH) : Prop := vcAt Pg N9 B9 K9 [1, 1] [] (vcRet Pg R9 Q) [(0, x0), (1, x1), (2, x2), (3, x3)] h
def J9_101 (Q : AEnd → AH → Prop) (x0 x1 x2 x3 x22 : V) (h : AH) : Prop := vcAt Pg N9 B9 K9 [1, 0, 1] [] (vcRet Pg R9 Q) [(0, x0), (1, x1), (2, x2), (3, x3), (22, x22)] h
def G9_1001002 (Q : AEnd → AH → Prop) (x0 x1 x2 x3 x18 x21 : V) (h : AH) : Prop := segAt Pg N9 B9 K9 [1, 0, 0] 2 1 [] (vcRet Pg R9 Q) [(0, x0), (1, x1), (2, x2), (3, x3), (18, x18), (21, x21)] h
theorem J9_11111111_eq (Q : AEnd → AH → Prop) (x8 : V) (h : AH) : J9_11111111 Q x8 h = (
  Q (.ret x8) h) := by kernel_rfl
theorem G9_111111101002_eq (Q : AEnd → AH → Prop) (x78 x81 : V) (h : AH) : G9_111111101002 Q x78 x81 h = (
  bindV (aPick x78 x81 (V.bool false) h) fun v53 h54 =>
  Meet (J9_11111111 Q v53 h54)) := by kernel_rfl
theorem J9_111111_eq (Q : AEnd → AH → Prop) (x0 x1 x2 x3 : V) (h : AH) : J9_111111 Q x0 x1 x2 x3 h = (
  ACalls Pg 22 [x0, x1] h (aEnd (fun v39 h40 =>
  bindV (still (aBin Pg .add 9 x2 v39 false) h40) fun v41 h42 =>
  bindV (still (aBin Pg .add 9 v41 x3 false) h42) fun v43 h44 =>
  bindV (aBuiltin Pg h44 .len [9] [x2]) fun v45 h46 =>
  ACalls Pg 18 [v43, v45, x1] h46 (aEnd (fun v47 h48 =>
  bindV (still (aExtract v47 0) h48) fun v49 h50 =>
  bindV (still (aExtract v47 1) h50) fun v51 h52 =>
  vcG v51 true (
  bindV (still (aBin Pg .eql 22 v49 x0 false) h52) fun v55 h56 =>
  Meet (G9_111111101002 Q v51 v55 h56)) (Meet (G9_111111101002 Q v51 hole h52))) fun v h => Q (.panic v) h)) fun v h => Q (.panic v) h)) := by kernel_rfl
theorem J9_1111101_eq (Q : AEnd → AH → Prop) (x0 x1 x2 x3 x61 : V) (h : AH) : J9_1111101 Q x0 x1 x2 x3 x61 h = (
  vcIf x61 (
  ACalls Pg 28 [] h (aEnd (fun v37 h38 =>
  Q (.ret v37) h38) fun v h => Q (.panic v) h)) (
  Meet (J9_111111 Q x0 x1 x2 x3 h))) := by kernel_rfl
theorem G9_11111001002_eq (Q : AEnd → AH → Prop) (x0 x1 x2 x3 x58 x60 : V) (h : AH) : G9_11111001002 Q x0 x1 x2 x3 x58 x60 h = (
  bindV (aPick x58 (V.bool true) x60 h) fun v35 h36 =>
  Meet (J9_1111101 Q x0 x1 x2 x3 v35 h36)) := by kernel_rfl
theorem J9_11111_eq (Q : AEnd → AH → Prop) (x0 x1 x2 x3 : V) (h : AH) : J9_11111 Q x0 x1 x2 x3 h = (
  ACalls Pg 21 [x0] h (aEnd (fun v31 h32 =>
  bindV (still (aBin Pg .lss 3 x1 v31 false) h32) fun v33 h34 =>
  vcG v33 false (
  bindV (still (aBin Pg .gtr 3 x1 (V.int .i64 8) true) h34) fun v57 h58 =>
  Meet (G9_11111001002 Q x0 x1 x2 x3 v33 v57 h58)) (Meet (G9_11111001002 Q x0 x1 x2 x3 v33 hole h34))) fun v h => Q (.panic v) h)) := by kernel_rfl
theorem J9_111101_eq (Q : AEnd → AH → Prop) (x0 x1 x2 x3 x53 : V) (h : AH) : J9_111101 Q x0 x1 x2 x3 x53 h = (
  vcIf x53 (
  Q (.ret (V.bool false)) h) (
  Meet (J9_11111 Q x0 x1 x2 x3 h))) := by kernel_rfl
theorem G9_1111001004_eq (Q : AEnd → AH → Prop) (x0 x1 x2 x3 x45 x52 : V) (h : AH) : G9_1111001004 Q x0 x1 x2 x3 x45 x52 h = (
  bindV (aPick x45 (V.bool true) x52 h) fun v29 h30 =>
  Meet (J9_111101 Q x0 x1 x2 x3 v29 h30)) := by kernel_rfl
theorem G9_1111001002_eq (Q : AEnd → AH → Prop) (x0 x1 x2 x3 x9 x11 x40 x43 : V) (h : AH) : G9_1111001002 Q x0 x1 x2 x3 x9 x11 x40 x43 h = (
  bindV (aPick x40 (V.bool true) x43 h) fun v27 h28 =>
  vcG v27 false (
  bindV (aBuiltin Pg h28 .len [9] [x2]) fun v59 h60 =>
  bindV (aBuiltin Pg h60 .len [9] [x9]) fun v61 h62 =>
  bindV (still (aBin Pg .add 3 v59 v61 false) h62) fun v63 h64 =>
  bindV (still (aBin Pg .neq 3 x11 v63 false) h64) fun v65 h66 =>
  Meet (G9_1111001004 Q x0 x1 x2 x3 v27 v65 h66)) (Meet (G9_1111001004 Q x0 x1 x2 x3 v27 hole h28))) := by kernel_rfl
theorem J9_11_eq (Q : AEnd → AH → Prop) (x0 x1 x2 x3 : V) (h : AH) : J9_11 Q x0 x1 x2 x3 h = (
  ACalls Pg 20 [x0] h (aEnd (fun v9 h10 =>
  bindV (still (aBin Pg .add 9 x2 v9 false) h10) fun v11 h12 =>
  bindV (still (aBin Pg .add 9 v11 x3 false) h12) fun v13 h14 =>
  bindV (aBuiltin Pg h14 .len [9] [x2]) fun v15 h16 =>
  ACalls Pg 25 [v13, v15] h16 (aEnd (fun v17 h18 =>
  bindV (still (aExtract v17 0) h18) fun v19 h20 =>
  bindV (still (aExtract v17 1) h20) fun v21 h22 =>
  bindV (still (aExtract v17 2) h22) fun v23 h24 =>
  bindV (still (aUn .not v23) h24) fun v25 h26 =>
  vcG v25 false (
  bindV (still (aBin Pg .neq 22 v19 x0 false) h26) fun v67 h68 =>
  Meet (G9_1111001002 Q x0 x1 x2 x3 v9 v21 v25 v67 h68)) (Meet (G9_1111001002 Q x0 x1 x2 x3 v9 v21 v25 hole h26))) fun v h => Q (.panic v) h)) fun v h => Q (.panic v) h)) := by kernel_rfl
theorem J9_101_eq (Q : AEnd → AH → Prop) (x0 x1 x2 x3 x22 : V) (h : AH) : J9_101 Q x0 x1 x2 x3 x22 h = (
  vcIf x22 (
  ACalls Pg 28 [] h (aEnd (fun v7 h8 =>
  Q (.ret v7) h8) fun v h => Q (.panic v) h)) (
  Meet (J9_11 Q x0 x1 x2 x3 h))) := by kernel_rfl
theorem G9_1001002_eq (Q : AEnd → AH → Prop) (x0 x1 x2 x3 x18 x21 : V) (h : AH) : G9_1001002 Q x0 x1 x2 x3 x18 x21 h = (
  bindV (aPick x18 (V.bool true) x21 h) fun v5 h6 =>
  Meet (J9_101 Q x0 x1 x2 x3 v5 h6)) := by kernel_rfl
theorem S9 (Q : AEnd → AH → Prop) (a0 a1 a2 a3 : V) (h : AH) : vc Pg N9 B9 K9 (vcRet Pg R9 Q) (initEnv 0 [a0, a1, a2, a3]) h = (
  bindV (aBuiltin Pg h .len [9] [a2]) fun v1 h2 =>
  bindV (still (aBin Pg .gtr 3 v1 (V.int .i64 65536) true) h2) fun v3 h4 =>
  vcG v3 false (
  bindV (aBuiltin Pg h4 .len [9] [a3]) fun v69 h70 =>
  bindV (still (aBin Pg .gtr 3 v69 (V.int .i64 65536) true) h70) fun v71 h72 =>
  Meet (G9_1001002 Q a0 a1 a2 a3 v3 v71 h72)) (Meet (G9_1001002 Q a0 a1 a2 a3 v3 hole h4))) := by kernel_rfl
theorem C9 (Q : AEnd → AH → Prop) (a0 a1 a2 a3 : V) (h : AH) (c :
  bindV (aBuiltin Pg h .len [9] [a2]) fun v1 h2 =>
  bindV (still (aBin Pg .gtr 3 v1 (V.int .i64 65536) true) h2) fun v3 h4 =>
  vcG v3 false (
  bindV (aBuiltin Pg h4 .len [9] [a3]) fun v69 h70 =>
  bindV (still (aBin Pg .gtr 3 v69 (V.int .i64 65536) true) h70) fun v71 h72 =>
  Meet (G9_1001002 Q a0 a1 a2 a3 v3 v71 h72)) (Meet (G9_1001002 Q a0 a1 a2 a3 v3 hole h4))) : ACalls Pg 9 [a0, a1, a2, a3] h Q :=
  acalls_of_vc okP Try.func9 (show Try.f9.body = some B9 from by kernel_rfl) K9 (by rw [← S9 Q a0 a1 a2 a3 h] at c; exact c)

-- 15 varve/word.Zig
noncomputable def B15 : Code := (Try.f15.body).getD .skip
def R15 : List ResultVar := [.tmp 2]
abbrev N15 : Nat := 10
def K15 : KT := (.seq .leaf (.seq .leaf .leaf [2]) [0])
theorem S15 (Q : AEnd → AH → Prop) (a0 : V) (h : AH) : vc Pg N15 B15 K15 (vcRet Pg R15 Q) (initEnv 0 [a0]) h = (
  bindV (still (aBin Pg .shl 2 a0 (V.int .u64 1) true) h) fun v1 h2 =>
  bindV (still (aConv Pg h2 2 22 v1) h2) fun v3 h4 =>
  bindV (still (aBin Pg .shr 2 a0 (V.int .u64 63) true) h4) fun v5 h6 =>
  bindV (still (aConv Pg h6 2 22 v5) h6) fun v7 h8 =>
  bindV (still (aBin Pg .xor 22 v3 v7 false) h8) fun v9 h10 =>
  Q (.ret v9) h10) := by kernel_rfl
theorem C15 (Q : AEnd → AH → Prop) (a0 : V) (h : AH) (c :
  bindV (still (aBin Pg .shl 2 a0 (V.int .u64 1) true) h) fun v1 h2 =>
  bindV (still (aConv Pg h2 2 22 v1) h2) fun v3 h4 =>
  bindV (still (aBin Pg .shr 2 a0 (V.int .u64 63) true) h4) fun v5 h6 =>
  bindV (still (aConv Pg h6 2 22 v5) h6) fun v7 h8 =>
  bindV (still (aBin Pg .xor 22 v3 v7 false) h8) fun v9 h10 =>
  Q (.ret v9) h10) : ACalls Pg 15 [a0] h Q :=
  acalls_of_vc okP Try.func15 (show Try.f15.body = some B15 from by kernel_rfl) K15 (by rw [← S15 Q a0 h] at c; exact c)

-- 18 varve/word.Get
noncomputable def B18 : Code := (Try.f18.body).getD .skip
def R18 : List ResultVar := [.tmp 6, .tmp 7]
abbrev N18 : Nat := 50
def K18 : KT := (.seq .leaf (.join (.join (.reg [[0, 1, 2, 12, 14], [0, 1, 2, 16, 18], [0, 1, 2, 20, 24], [0, 1, 2, 26, 32]]) (.two (.seq .leaf .leaf [6, 7]) .leaf) [0, 1, 2, 33]) (.seq .leaf (.join (.seq .leaf (.one (.loop (.join (.seq .leaf (.two .leaf .leaf) [0, 1, 8, 9, 37]) (.join (.one .leaf) .leaf [0, 1, 8, 9]) [0, 1, 8, 9]) [0, 1, 8, 9])) [0, 1, 8, 9]) (.seq .leaf .leaf [6, 7]) [8]) [0, 1, 2, 8]) [0, 1, 2]) [0, 1, 2])
def J18_111010011 (Q : AEnd → AH → Prop) (n : Nat) (x0 x1 x8 x9 : V) (h : AH) : Prop := vcAt Pg N18 B18 K18 [1, 1, 1, 0, 1, 0, 0, 1, 1] [n] (vcRet Pg R18 Q) [(0, x0), (1, x1), (8, x8), (9, x9)] h
def J18_11101001 (Q : AEnd → AH → Prop) (n : Nat) (x0 x1 x8 x9 : V) (h : AH) : Prop := vcAt Pg N18 B18 K18 [1, 1, 1, 0, 1, 0, 0, 1] [n] (vcRet Pg R18 Q) [(0, x0), (1, x1), (8, x8), (9, x9)] h
def J18_1111 (Q : AEnd → AH → Prop) (x8 : V) (h : AH) : Prop := vcAt Pg N18 B18 K18 [1, 1, 1, 1] [] (vcRet Pg R18 Q) [(8, x8)] h
def L18_111010 (Q : AEnd → AH → Prop) (n : Nat) (x0 x1 x8 x9 : V) (h : AH) : Prop := loopAt Pg N18 B18 K18 [1, 1, 1, 0, 1, 0] [] n (vcRet Pg R18 Q) [(0, x0), (1, x1), (8, x8), (9, x9)] h
def J18_11 (Q : AEnd → AH → Prop) (x0 x1 x2 : V) (h : AH) : Prop := vcAt Pg N18 B18 K18 [1, 1] [] (vcRet Pg R18 Q) [(0, x0), (1, x1), (2, x2)] h
def J18_101 (Q : AEnd → AH → Prop) (x0 x1 x2 x33 : V) (h : AH) : Prop := vcAt Pg N18 B18 K18 [1, 0, 1] [] (vcRet Pg R18 Q) [(0, x0), (1, x1), (2, x2), (33, x33)] h
def G18_1001008 (Q : AEnd → AH → Prop) (x0 x1 x2 x26 x32 : V) (h : AH) : Prop := segAt Pg N18 B18 K18 [1, 0, 0] 8 4 [] (vcRet Pg R18 Q) [(0, x0), (1, x1), (2, x2), (26, x26), (32, x32)] h
def G18_1001006 (Q : AEnd → AH → Prop) (x0 x1 x2 x20 x24 : V) (h : AH) : Prop := segAt Pg N18 B18 K18 [1, 0, 0] 6 3 [] (vcRet Pg R18 Q) [(0, x0), (1, x1), (2, x2), (20, x20), (24, x24)] h
def G18_1001004 (Q : AEnd → AH → Prop) (x0 x1 x2 x16 x18 : V) (h : AH) : Prop := segAt Pg N18 B18 K18 [1, 0, 0] 4 2 [] (vcRet Pg R18 Q) [(0, x0), (1, x1), (2, x2), (16, x16), (18, x18)] h
def G18_1001002 (Q : AEnd → AH → Prop) (x0 x1 x2 x12 x14 : V) (h : AH) : Prop := segAt Pg N18 B18 K18 [1, 0, 0] 2 1 [] (vcRet Pg R18 Q) [(0, x0), (1, x1), (2, x2), (12, x12), (14, x14)] h
theorem J18_111010011_eq (Q : AEnd → AH → Prop) (n : Nat) (x0 x1 x8 x9 : V) (h : AH) : J18_111010011 Q n x0 x1 x8 x9 h = (
  bindV (still (aBin Pg .sub 3 x9 (V.int .i64 1) true) h) fun v25 h26 =>
  Meet (L18_111010 Q n x0 x1 x8 v25 h26)) := by kernel_rfl
theorem J18_11101001_eq (Q : AEnd → AH → Prop) (n : Nat) (x0 x1 x8 x9 : V) (h : AH) : J18_11101001 Q n x0 x1 x8 x9 h = (
  bindV (still (aBin Pg .shl 22 x8 (V.int .u64 8) true) h) fun v15 h16 =>
  bindV (still (aBin Pg .add 3 x1 x9 false) h16) fun v17 h18 =>
  bindV (still (aIndex Pg 9 x0 v17) h18) fun v19 h20 =>
  bindV (still (aConv Pg h20 5 22 v19) h20) fun v21 h22 =>
  bindV (still (aBin Pg .or 22 v15 v21 false) h22) fun v23 h24 =>
  Meet (J18_111010011 Q n x0 x1 v23 x9 h24)) := by kernel_rfl
theorem J18_1111_eq (Q : AEnd → AH → Prop) (x8 : V) (h : AH) : J18_1111 Q x8 h = (
  Q (.ret (V.tup [x8, (V.bool true)])) h) := by kernel_rfl
theorem L18_111010_eq (Q : AEnd → AH → Prop) (n : Nat) (x0 x1 x8 x9 : V) (h : AH) : L18_111010 Q (n + 1) x0 x1 x8 x9 h = (
  bindV (still (aBin Pg .geq 3 x9 (V.int .i64 0) true) h) fun v13 h14 =>
  vcIf v13 (
  Meet (J18_11101001 Q n x0 x1 x8 x9 h14)) (
  Meet (J18_1111 Q x8 h14))) := by kernel_rfl
theorem J18_11_eq (Q : AEnd → AH → Prop) (x0 x1 x2 : V) (h : AH) : J18_11 Q x0 x1 x2 h = (
  bindV (still (aBin Pg .sub 3 x2 (V.int .i64 1) true) h) fun v11 h12 =>
  ∃ n, Meet (L18_111010 Q n x0 x1 (V.int .u64 0) v11 h12)) := by kernel_rfl
theorem J18_101_eq (Q : AEnd → AH → Prop) (x0 x1 x2 x33 : V) (h : AH) : J18_101 Q x0 x1 x2 x33 h = (
  vcIf x33 (
  Q (.ret (V.tup [(V.int .u64 0), (V.bool false)])) h) (
  Meet (J18_11 Q x0 x1 x2 h))) := by kernel_rfl
theorem G18_1001008_eq (Q : AEnd → AH → Prop) (x0 x1 x2 x26 x32 : V) (h : AH) : G18_1001008 Q x0 x1 x2 x26 x32 h = (
  bindV (aPick x26 (V.bool true) x32 h) fun v9 h10 =>
  Meet (J18_101 Q x0 x1 x2 v9 h10)) := by kernel_rfl
theorem G18_1001006_eq (Q : AEnd → AH → Prop) (x0 x1 x2 x20 x24 : V) (h : AH) : G18_1001006 Q x0 x1 x2 x20 x24 h = (
  bindV (aPick x20 (V.bool true) x24 h) fun v7 h8 =>
  vcG v7 false (
  bindV (aBuiltin Pg h8 .len [9] [x0]) fun v27 h28 =>
  bindV (still (aBin Pg .sub 3 v27 x1 false) h28) fun v29 h30 =>
  bindV (still (aBin Pg .gtr 3 x2 v29 false) h30) fun v31 h32 =>
  Meet (G18_1001008 Q x0 x1 x2 v7 v31 h32)) (Meet (G18_1001008 Q x0 x1 x2 v7 hole h8))) := by kernel_rfl
theorem G18_1001004_eq (Q : AEnd → AH → Prop) (x0 x1 x2 x16 x18 : V) (h : AH) : G18_1001004 Q x0 x1 x2 x16 x18 h = (
  bindV (aPick x16 (V.bool true) x18 h) fun v5 h6 =>
  vcG v5 false (
  bindV (aBuiltin Pg h6 .len [9] [x0]) fun v33 h34 =>
  bindV (still (aBin Pg .gtr 3 x1 v33 false) h34) fun v35 h36 =>
  Meet (G18_1001006 Q x0 x1 x2 v5 v35 h36)) (Meet (G18_1001006 Q x0 x1 x2 v5 hole h6))) := by kernel_rfl
theorem G18_1001002_eq (Q : AEnd → AH → Prop) (x0 x1 x2 x12 x14 : V) (h : AH) : G18_1001002 Q x0 x1 x2 x12 x14 h = (
  bindV (aPick x12 (V.bool true) x14 h) fun v3 h4 =>
  vcG v3 false (
  bindV (still (aBin Pg .lss 3 x1 (V.int .i64 0) true) h4) fun v37 h38 =>
  Meet (G18_1001004 Q x0 x1 x2 v3 v37 h38)) (Meet (G18_1001004 Q x0 x1 x2 v3 hole h4))) := by kernel_rfl
theorem S18 (Q : AEnd → AH → Prop) (a0 a1 a2 : V) (h : AH) : vc Pg N18 B18 K18 (vcRet Pg R18 Q) (initEnv 0 [a0, a1, a2]) h = (
  bindV (still (aBin Pg .lss 3 a2 (V.int .i64 0) true) h) fun v1 h2 =>
  vcG v1 false (
  bindV (still (aBin Pg .gtr 3 a2 (V.int .i64 8) true) h2) fun v39 h40 =>
  Meet (G18_1001002 Q a0 a1 a2 v1 v39 h40)) (Meet (G18_1001002 Q a0 a1 a2 v1 hole h2))) := by kernel_rfl
theorem C18 (Q : AEnd → AH → Prop) (a0 a1 a2 : V) (h : AH) (c :
  bindV (still (aBin Pg .lss 3 a2 (V.int .i64 0) true) h) fun v1 h2 =>
  vcG v1 false (
  bindV (still (aBin Pg .gtr 3 a2 (V.int .i64 8) true) h2) fun v39 h40 =>
  Meet (G18_1001002 Q a0 a1 a2 v1 v39 h40)) (Meet (G18_1001002 Q a0 a1 a2 v1 hole h2))) : ACalls Pg 18 [a0, a1, a2] h Q :=
  acalls_of_vc okP Try.func18 (show Try.f18.body = some B18 from by kernel_rfl) K18 (by rw [← S18 Q a0 a1 a2 h] at c; exact c)

-- 20 varve/word.Var
noncomputable def B20 : Code := (Try.f20.body).getD .skip
def R20 : List ResultVar := [.tmp 2]
abbrev N20 : Nat := 20
def K20 : KT := (.seq .leaf (.seq .leaf (.join (.one (.loop (.join (.seq .leaf (.two .leaf .leaf) [0, 3, 5]) (.one (.seq .leaf .leaf [0, 3])) [0, 3]) [0, 3])) (.seq .leaf .leaf [2]) [0, 3]) [0, 3]) [0])
def J20_110001 (Q : AEnd → AH → Prop) (n : Nat) (x0 x3 : V) (h : AH) : Prop := vcAt Pg N20 B20 K20 [1, 1, 0, 0, 0, 1] [n] (vcRet Pg R20 Q) [(0, x0), (3, x3)] h
def J20_111 (Q : AEnd → AH → Prop) (x0 x3 : V) (h : AH) : Prop := vcAt Pg N20 B20 K20 [1, 1, 1] [] (vcRet Pg R20 Q) [(0, x0), (3, x3)] h
def L20_1100 (Q : AEnd → AH → Prop) (n : Nat) (x0 x3 : V) (h : AH) : Prop := loopAt Pg N20 B20 K20 [1, 1, 0, 0] [] n (vcRet Pg R20 Q) [(0, x0), (3, x3)] h
theorem J20_110001_eq (Q : AEnd → AH → Prop) (n : Nat) (x0 x3 : V) (h : AH) : J20_110001 Q n x0 x3 h = (
  bindV (still (aConv Pg h 22 5 x0) h) fun v3 h4 =>
  bindV (still (aBin Pg .or 5 v3 (V.int .u8 128) true) h4) fun v5 h6 =>
  bindV (aBuildSlice Pg h6 67 1 [(0, v5)]) fun v7 h8 =>
  bindV (aBuiltin Pg h8 .append [67, 67] [x3, v7]) fun v9 h10 =>
  bindV (still (aBin Pg .shr 22 x0 (V.int .u64 7) true) h10) fun v11 h12 =>
  Meet (L20_1100 Q n v11 v9 h12)) := by kernel_rfl
theorem J20_111_eq (Q : AEnd → AH → Prop) (x0 x3 : V) (h : AH) : J20_111 Q x0 x3 h = (
  bindV (still (aConv Pg h 22 5 x0) h) fun v13 h14 =>
  bindV (aBuildSlice Pg h14 67 1 [(0, v13)]) fun v15 h16 =>
  bindV (aBuiltin Pg h16 .append [67, 67] [x3, v15]) fun v17 h18 =>
  bindV (still (aConv Pg h18 67 9 v17) h18) fun v19 h20 =>
  Q (.ret v19) h20) := by kernel_rfl
theorem L20_1100_eq (Q : AEnd → AH → Prop) (n : Nat) (x0 x3 : V) (h : AH) : L20_1100 Q (n + 1) x0 x3 h = (
  bindV (still (aBin Pg .geq 22 x0 (V.int .u64 128) true) h) fun v1 h2 =>
  vcIf v1 (
  Meet (J20_110001 Q n x0 x3 h2)) (
  Meet (J20_111 Q x0 x3 h2))) := by kernel_rfl
theorem S20 (Q : AEnd → AH → Prop) (a0 : V) (h : AH) : vc Pg N20 B20 K20 (vcRet Pg R20 Q) (initEnv 0 [a0]) h = (
  ∃ n, Meet (L20_1100 Q n a0 (V.slc none 0) h)) := by kernel_rfl
theorem C20 (Q : AEnd → AH → Prop) (a0 : V) (h : AH) (c :
  ∃ n, Meet (L20_1100 Q n a0 (V.slc none 0) h)) : ACalls Pg 20 [a0] h Q :=
  acalls_of_vc okP Try.func20 (show Try.f20.body = some B20 from by kernel_rfl) K20 (by rw [← S20 Q a0 h] at c; exact c)

-- 21 varve/word.Width
noncomputable def B21 : Code := (Try.f21.body).getD .skip
def R21 : List ResultVar := [.tmp 2]
abbrev N21 : Nat := 11
def K21 : KT := (.seq .leaf (.seq .leaf (.join (.one (.loop (.join (.seq .leaf (.two .leaf .leaf) [0, 3, 5]) (.join (.one .leaf) .leaf [0, 3]) [0, 3]) [0, 3])) (.seq .leaf .leaf [2]) [3]) [0, 3]) [0])
def J21_1100011 (Q : AEnd → AH → Prop) (n : Nat) (x0 x3 : V) (h : AH) : Prop := vcAt Pg N21 B21 K21 [1, 1, 0, 0, 0, 1, 1] [n] (vcRet Pg R21 Q) [(0, x0), (3, x3)] h
def J21_110001 (Q : AEnd → AH → Prop) (n : Nat) (x0 x3 : V) (h : AH) : Prop := vcAt Pg N21 B21 K21 [1, 1, 0, 0, 0, 1] [n] (vcRet Pg R21 Q) [(0, x0), (3, x3)] h
def J21_111 (Q : AEnd → AH → Prop) (x3 : V) (h : AH) : Prop := vcAt Pg N21 B21 K21 [1, 1, 1] [] (vcRet Pg R21 Q) [(3, x3)] h
def L21_1100 (Q : AEnd → AH → Prop) (n : Nat) (x0 x3 : V) (h : AH) : Prop := loopAt Pg N21 B21 K21 [1, 1, 0, 0] [] n (vcRet Pg R21 Q) [(0, x0), (3, x3)] h
theorem J21_1100011_eq (Q : AEnd → AH → Prop) (n : Nat) (x0 x3 : V) (h : AH) : J21_1100011 Q n x0 x3 h = (
  bindV (still (aBin Pg .shr 22 x0 (V.int .u64 8) true) h) fun v5 h6 =>
  Meet (L21_1100 Q n v5 x3 h6)) := by kernel_rfl
theorem J21_110001_eq (Q : AEnd → AH → Prop) (n : Nat) (x0 x3 : V) (h : AH) : J21_110001 Q n x0 x3 h = (
  bindV (still (aBin Pg .add 3 x3 (V.int .i64 1) true) h) fun v3 h4 =>
  Meet (J21_1100011 Q n x0 v3 h4)) := by kernel_rfl
theorem J21_111_eq (Q : AEnd → AH → Prop) (x3 : V) (h : AH) : J21_111 Q x3 h = (
  Q (.ret x3) h) := by kernel_rfl
theorem L21_1100_eq (Q : AEnd → AH → Prop) (n : Nat) (x0 x3 : V) (h : AH) : L21_1100 Q (n + 1) x0 x3 h = (
  bindV (still (aBin Pg .gtr 22 x0 (V.int .u64 0) true) h) fun v1 h2 =>
  vcIf v1 (
  Meet (J21_110001 Q n x0 x3 h2)) (
  Meet (J21_111 Q x3 h2))) := by kernel_rfl
theorem S21 (Q : AEnd → AH → Prop) (a0 : V) (h : AH) : vc Pg N21 B21 K21 (vcRet Pg R21 Q) (initEnv 0 [a0]) h = (
  ∃ n, Meet (L21_1100 Q n a0 (V.int .i64 0) h)) := by kernel_rfl
theorem C21 (Q : AEnd → AH → Prop) (a0 : V) (h : AH) (c :
  ∃ n, Meet (L21_1100 Q n a0 (V.int .i64 0) h)) : ACalls Pg 21 [a0] h Q :=
  acalls_of_vc okP Try.func21 (show Try.f21.body = some B21 from by kernel_rfl) K21 (by rw [← S21 Q a0 h] at c; exact c)

-- 22 varve/word.Put
noncomputable def B22 : Code := (Try.f22.body).getD .skip
def R22 : List ResultVar := [.tmp 4]
abbrev N22 : Nat := 31
def K22 : KT := (.seq .leaf (.join (.join (.reg [[0, 1, 9, 11]]) (.two (.seq .leaf .leaf [4]) .leaf) [0, 1, 12]) (.seq .leaf (.join (.seq .leaf (.one (.loop (.seq .leaf (.join (.two .leaf .leaf) (.join (.one (.seq .leaf .leaf [0, 5, 6, 16, 17])) .leaf [0, 5, 16, 17]) [0, 5, 16, 17]) [0, 5, 16, 17, 18]) [0, 5, 16, 17])) [0, 5, 16, 17]) (.seq .leaf .leaf [4]) [5]) [0, 5]) [0, 1]) [0, 1])
def J22_1110100111 (Q : AEnd → AH → Prop) (n : Nat) (x0 x5 x16 x17 : V) (h : AH) : Prop := vcAt Pg N22 B22 K22 [1, 1, 1, 0, 1, 0, 0, 1, 1, 1] [n] (vcRet Pg R22 Q) [(0, x0), (5, x5), (16, x16), (17, x17)] h
def J22_111010011 (Q : AEnd → AH → Prop) (n : Nat) (x0 x5 x16 x17 : V) (h : AH) : Prop := vcAt Pg N22 B22 K22 [1, 1, 1, 0, 1, 0, 0, 1, 1] [n] (vcRet Pg R22 Q) [(0, x0), (5, x5), (16, x16), (17, x17)] h
def J22_1111 (Q : AEnd → AH → Prop) (x5 : V) (h : AH) : Prop := vcAt Pg N22 B22 K22 [1, 1, 1, 1] [] (vcRet Pg R22 Q) [(5, x5)] h
def L22_111010 (Q : AEnd → AH → Prop) (n : Nat) (x0 x5 x16 x17 : V) (h : AH) : Prop := loopAt Pg N22 B22 K22 [1, 1, 1, 0, 1, 0] [] n (vcRet Pg R22 Q) [(0, x0), (5, x5), (16, x16), (17, x17)] h
def J22_11 (Q : AEnd → AH → Prop) (x0 x1 : V) (h : AH) : Prop := vcAt Pg N22 B22 K22 [1, 1] [] (vcRet Pg R22 Q) [(0, x0), (1, x1)] h
def J22_101 (Q : AEnd → AH → Prop) (x0 x1 x12 : V) (h : AH) : Prop := vcAt Pg N22 B22 K22 [1, 0, 1] [] (vcRet Pg R22 Q) [(0, x0), (1, x1), (12, x12)] h
def G22_1001002 (Q : AEnd → AH → Prop) (x0 x1 x9 x11 : V) (h : AH) : Prop := segAt Pg N22 B22 K22 [1, 0, 0] 2 1 [] (vcRet Pg R22 Q) [(0, x0), (1, x1), (9, x9), (11, x11)] h
theorem J22_1110100111_eq (Q : AEnd → AH → Prop) (n : Nat) (x0 x5 x16 x17 : V) (h : AH) : J22_1110100111 Q n x0 x5 x16 x17 h = (
  bindV (still (aBin Pg .add 3 x17 (V.int .i64 1) true) h) fun v21 h22 =>
  Meet (L22_111010 Q n x0 x5 x16 v21 h22)) := by kernel_rfl
theorem J22_111010011_eq (Q : AEnd → AH → Prop) (n : Nat) (x0 x5 x16 x17 : V) (h : AH) : J22_111010011 Q n x0 x5 x16 x17 h = (
  bindV (still (aBin Pg .mul 3 (V.int .i64 8) x17 true) h) fun v11 h12 =>
  bindV (still (aBin Pg .shr 22 x0 v11 false) h12) fun v13 h14 =>
  bindV (still (aConv Pg h14 22 5 v13) h14) fun v15 h16 =>
  bindV (still (aIndexAddr Pg 67 x5 x17) h16) fun v17 h18 =>
  bindV (aStoreV Pg h18 5 v17 v15) fun _ h20 =>
  Meet (J22_1110100111 Q n x0 x5 x16 x17 h20)) := by kernel_rfl
theorem J22_1111_eq (Q : AEnd → AH → Prop) (x5 : V) (h : AH) : J22_1111 Q x5 h = (
  bindV (still (aConv Pg h 67 9 x5) h) fun v23 h24 =>
  Q (.ret v23) h24) := by kernel_rfl
theorem L22_111010_eq (Q : AEnd → AH → Prop) (n : Nat) (x0 x5 x16 x17 : V) (h : AH) : L22_111010 Q (n + 1) x0 x5 x16 x17 h = (
  bindV (still (aBin Pg .lss 3 x17 x16 false) h) fun v9 h10 =>
  vcIf v9 (
  Meet (J22_111010011 Q n x0 x5 x16 x17 h10)) (
  Meet (J22_1111 Q x5 h10))) := by kernel_rfl
theorem J22_11_eq (Q : AEnd → AH → Prop) (x0 x1 : V) (h : AH) : J22_11 Q x0 x1 h = (
  bindV (aMakeSlice Pg h 67 x1 x1) fun v5 h6 =>
  bindV (aBuiltin Pg h6 .len [67] [v5]) fun v7 h8 =>
  ∃ n, Meet (L22_111010 Q n x0 v5 v7 (V.int .i64 0) h8)) := by kernel_rfl
theorem J22_101_eq (Q : AEnd → AH → Prop) (x0 x1 x12 : V) (h : AH) : J22_101 Q x0 x1 x12 h = (
  vcIf x12 (
  Q (.ret (V.str [])) h) (
  Meet (J22_11 Q x0 x1 h))) := by kernel_rfl
theorem G22_1001002_eq (Q : AEnd → AH → Prop) (x0 x1 x9 x11 : V) (h : AH) : G22_1001002 Q x0 x1 x9 x11 h = (
  bindV (aPick x9 (V.bool true) x11 h) fun v3 h4 =>
  Meet (J22_101 Q x0 x1 v3 h4)) := by kernel_rfl
theorem S22 (Q : AEnd → AH → Prop) (a0 a1 : V) (h : AH) : vc Pg N22 B22 K22 (vcRet Pg R22 Q) (initEnv 0 [a0, a1]) h = (
  bindV (still (aBin Pg .lss 3 a1 (V.int .i64 0) true) h) fun v1 h2 =>
  vcG v1 false (
  bindV (still (aBin Pg .gtr 3 a1 (V.int .i64 8) true) h2) fun v25 h26 =>
  Meet (G22_1001002 Q a0 a1 v1 v25 h26)) (Meet (G22_1001002 Q a0 a1 v1 hole h2))) := by kernel_rfl
theorem C22 (Q : AEnd → AH → Prop) (a0 a1 : V) (h : AH) (c :
  bindV (still (aBin Pg .lss 3 a1 (V.int .i64 0) true) h) fun v1 h2 =>
  vcG v1 false (
  bindV (still (aBin Pg .gtr 3 a1 (V.int .i64 8) true) h2) fun v25 h26 =>
  Meet (G22_1001002 Q a0 a1 v1 v25 h26)) (Meet (G22_1001002 Q a0 a1 v1 hole h2))) : ACalls Pg 22 [a0, a1] h Q :=
  acalls_of_vc okP Try.func22 (show Try.f22.body = some B22 from by kernel_rfl) K22 (by rw [← S22 Q a0 a1 h] at c; exact c)

-- 23 varve/varveref01.Put
noncomputable def B23 : Code := (Try.f23.body).getD .skip
def R23 : List ResultVar := [.tmp 4]
abbrev N23 : Nat := 28
def K23 : KT := (.seq .leaf (.join (.join (.reg [[0, 1, 9, 11]]) (.two (.seq .leaf .leaf [4]) .leaf) [0, 1, 12]) (.seq .leaf (.join (.seq .leaf (.one (.loop (.join (.seq .leaf (.two .leaf .leaf) [0, 1, 5, 6, 15]) (.join (.one (.seq .leaf .leaf [0, 1, 5, 6])) .leaf [0, 1, 5, 6]) [0, 1, 5, 6]) [0, 1, 5, 6])) [0, 1, 5, 6]) (.seq .leaf .leaf [4]) [5]) [0, 1, 5]) [0, 1]) [0, 1])
def J23_111010011 (Q : AEnd → AH → Prop) (n : Nat) (x0 x1 x5 x6 : V) (h : AH) : Prop := vcAt Pg N23 B23 K23 [1, 1, 1, 0, 1, 0, 0, 1, 1] [n] (vcRet Pg R23 Q) [(0, x0), (1, x1), (5, x5), (6, x6)] h
def J23_11101001 (Q : AEnd → AH → Prop) (n : Nat) (x0 x1 x5 x6 : V) (h : AH) : Prop := vcAt Pg N23 B23 K23 [1, 1, 1, 0, 1, 0, 0, 1] [n] (vcRet Pg R23 Q) [(0, x0), (1, x1), (5, x5), (6, x6)] h
def J23_1111 (Q : AEnd → AH → Prop) (x5 : V) (h : AH) : Prop := vcAt Pg N23 B23 K23 [1, 1, 1, 1] [] (vcRet Pg R23 Q) [(5, x5)] h
def L23_111010 (Q : AEnd → AH → Prop) (n : Nat) (x0 x1 x5 x6 : V) (h : AH) : Prop := loopAt Pg N23 B23 K23 [1, 1, 1, 0, 1, 0] [] n (vcRet Pg R23 Q) [(0, x0), (1, x1), (5, x5), (6, x6)] h
def J23_11 (Q : AEnd → AH → Prop) (x0 x1 : V) (h : AH) : Prop := vcAt Pg N23 B23 K23 [1, 1] [] (vcRet Pg R23 Q) [(0, x0), (1, x1)] h
def J23_101 (Q : AEnd → AH → Prop) (x0 x1 x12 : V) (h : AH) : Prop := vcAt Pg N23 B23 K23 [1, 0, 1] [] (vcRet Pg R23 Q) [(0, x0), (1, x1), (12, x12)] h
def G23_1001002 (Q : AEnd → AH → Prop) (x0 x1 x9 x11 : V) (h : AH) : Prop := segAt Pg N23 B23 K23 [1, 0, 0] 2 1 [] (vcRet Pg R23 Q) [(0, x0), (1, x1), (9, x9), (11, x11)] h
theorem J23_111010011_eq (Q : AEnd → AH → Prop) (n : Nat) (x0 x1 x5 x6 : V) (h : AH) : J23_111010011 Q n x0 x1 x5 x6 h = (
  bindV (still (aBin Pg .add 3 x6 (V.int .i64 1) true) h) fun v19 h20 =>
  Meet (L23_111010 Q n x0 x1 x5 v19 h20)) := by kernel_rfl
theorem J23_11101001_eq (Q : AEnd → AH → Prop) (n : Nat) (x0 x1 x5 x6 : V) (h : AH) : J23_11101001 Q n x0 x1 x5 x6 h = (
  bindV (still (aBin Pg .rem 22 x0 (V.int .u64 256) true) h) fun v7 h8 =>
  bindV (still (aConv Pg h8 22 5 v7) h8) fun v9 h10 =>
  bindV (aBuildSlice Pg h10 67 1 [(0, v9)]) fun v11 h12 =>
  bindV (still (aConv Pg h12 67 9 v11) h12) fun v13 h14 =>
  bindV (still (aBin Pg .add 9 x5 v13 false) h14) fun v15 h16 =>
  bindV (still (aBin Pg .quo 22 x0 (V.int .u64 256) true) h16) fun v17 h18 =>
  Meet (J23_111010011 Q n v17 x1 v15 x6 h18)) := by kernel_rfl
theorem J23_1111_eq (Q : AEnd → AH → Prop) (x5 : V) (h : AH) : J23_1111 Q x5 h = (
  Q (.ret x5) h) := by kernel_rfl
theorem L23_111010_eq (Q : AEnd → AH → Prop) (n : Nat) (x0 x1 x5 x6 : V) (h : AH) : L23_111010 Q (n + 1) x0 x1 x5 x6 h = (
  bindV (still (aBin Pg .lss 3 x6 x1 false) h) fun v5 h6 =>
  vcIf v5 (
  Meet (J23_11101001 Q n x0 x1 x5 x6 h6)) (
  Meet (J23_1111 Q x5 h6))) := by kernel_rfl
theorem J23_11_eq (Q : AEnd → AH → Prop) (x0 x1 : V) (h : AH) : J23_11 Q x0 x1 h = (
  ∃ n, Meet (L23_111010 Q n x0 x1 (V.str []) (V.int .i64 0) h)) := by kernel_rfl
theorem J23_101_eq (Q : AEnd → AH → Prop) (x0 x1 x12 : V) (h : AH) : J23_101 Q x0 x1 x12 h = (
  vcIf x12 (
  Q (.ret (V.str [])) h) (
  Meet (J23_11 Q x0 x1 h))) := by kernel_rfl
theorem G23_1001002_eq (Q : AEnd → AH → Prop) (x0 x1 x9 x11 : V) (h : AH) : G23_1001002 Q x0 x1 x9 x11 h = (
  bindV (aPick x9 (V.bool true) x11 h) fun v3 h4 =>
  Meet (J23_101 Q x0 x1 v3 h4)) := by kernel_rfl
theorem S23 (Q : AEnd → AH → Prop) (a0 a1 : V) (h : AH) : vc Pg N23 B23 K23 (vcRet Pg R23 Q) (initEnv 0 [a0, a1]) h = (
  bindV (still (aBin Pg .lss 3 a1 (V.int .i64 0) true) h) fun v1 h2 =>
  vcG v1 false (
  bindV (still (aBin Pg .gtr 3 a1 (V.int .i64 8) true) h2) fun v21 h22 =>
  Meet (G23_1001002 Q a0 a1 v1 v21 h22)) (Meet (G23_1001002 Q a0 a1 v1 hole h2))) := by kernel_rfl
theorem C23 (Q : AEnd → AH → Prop) (a0 a1 : V) (h : AH) (c :
  bindV (still (aBin Pg .lss 3 a1 (V.int .i64 0) true) h) fun v1 h2 =>
  vcG v1 false (
  bindV (still (aBin Pg .gtr 3 a1 (V.int .i64 8) true) h2) fun v21 h22 =>
  Meet (G23_1001002 Q a0 a1 v1 v21 h22)) (Meet (G23_1001002 Q a0 a1 v1 hole h2))) : ACalls Pg 23 [a0, a1] h Q :=
  acalls_of_vc okP Try.func23 (show Try.f23.body = some B23 from by kernel_rfl) K23 (by rw [← S23 Q a0 a1 h] at c; exact c)

-- 24 varve/varveref01.Width
noncomputable def B24 : Code := (Try.f24.body).getD .skip
def R24 : List ResultVar := [.tmp 2]
abbrev N24 : Nat := 11
def K24 : KT := (.seq .leaf (.seq .leaf (.join (.one (.loop (.join (.seq .leaf (.two .leaf .leaf) [0, 3, 5]) (.one (.seq .leaf .leaf [0, 3])) [0, 3]) [0, 3])) (.seq .leaf .leaf [2]) [3]) [0, 3]) [0])
def J24_110001 (Q : AEnd → AH → Prop) (n : Nat) (x0 x3 : V) (h : AH) : Prop := vcAt Pg N24 B24 K24 [1, 1, 0, 0, 0, 1] [n] (vcRet Pg R24 Q) [(0, x0), (3, x3)] h
def J24_111 (Q : AEnd → AH → Prop) (x3 : V) (h : AH) : Prop := vcAt Pg N24 B24 K24 [1, 1, 1] [] (vcRet Pg R24 Q) [(3, x3)] h
def L24_1100 (Q : AEnd → AH → Prop) (n : Nat) (x0 x3 : V) (h : AH) : Prop := loopAt Pg N24 B24 K24 [1, 1, 0, 0] [] n (vcRet Pg R24 Q) [(0, x0), (3, x3)] h
theorem J24_110001_eq (Q : AEnd → AH → Prop) (n : Nat) (x0 x3 : V) (h : AH) : J24_110001 Q n x0 x3 h = (
  bindV (still (aBin Pg .add 3 x3 (V.int .i64 1) true) h) fun v3 h4 =>
  bindV (still (aBin Pg .quo 22 x0 (V.int .u64 256) true) h4) fun v5 h6 =>
  Meet (L24_1100 Q n v5 v3 h6)) := by kernel_rfl
theorem J24_111_eq (Q : AEnd → AH → Prop) (x3 : V) (h : AH) : J24_111 Q x3 h = (
  Q (.ret x3) h) := by kernel_rfl
theorem L24_1100_eq (Q : AEnd → AH → Prop) (n : Nat) (x0 x3 : V) (h : AH) : L24_1100 Q (n + 1) x0 x3 h = (
  bindV (still (aBin Pg .gtr 22 x0 (V.int .u64 0) true) h) fun v1 h2 =>
  vcIf v1 (
  Meet (J24_110001 Q n x0 x3 h2)) (
  Meet (J24_111 Q x3 h2))) := by kernel_rfl
theorem S24 (Q : AEnd → AH → Prop) (a0 : V) (h : AH) : vc Pg N24 B24 K24 (vcRet Pg R24 Q) (initEnv 0 [a0]) h = (
  ∃ n, Meet (L24_1100 Q n a0 (V.int .i64 0) h)) := by kernel_rfl
theorem C24 (Q : AEnd → AH → Prop) (a0 : V) (h : AH) (c :
  ∃ n, Meet (L24_1100 Q n a0 (V.int .i64 0) h)) : ACalls Pg 24 [a0] h Q :=
  acalls_of_vc okP Try.func24 (show Try.f24.body = some B24 from by kernel_rfl) K24 (by rw [← S24 Q a0 h] at c; exact c)

-- 25 varve/word.TakeVar
noncomputable def B25 : Code := (Try.f25.body).getD .skip
def R25 : List ResultVar := [.tmp 4, .tmp 5, .tmp 6]
abbrev N25 : Nat := 56
def K25 : KT := (.seq .leaf (.join (.seq .leaf (.two (.seq .leaf .leaf [4, 5, 6]) .leaf) [0, 1, 11]) (.seq .leaf (.join (.seq .leaf (.one (.loop (.join (.join (.reg [[0, 1, 7, 8, 14, 20]]) (.two .leaf .leaf) [0, 1, 7, 8, 21]) (.join (.one (.seq .leaf (.join (.join (.reg [[0, 1, 7, 8, 9, 31, 33]]) (.two (.seq .leaf .leaf [4, 5, 6]) .leaf) [0, 1, 7, 8, 9, 34]) (.seq .leaf (.seq .leaf (.two (.join (.join (.reg [[1, 7, 8, 47, 49]]) (.two (.seq .leaf .leaf [4, 5, 6]) .leaf) [1, 7, 8, 50]) (.seq .leaf .leaf [4, 5, 6]) [1, 7, 8]) .leaf) [0, 1, 7, 8, 9, 44]) [0, 1, 7, 8, 9]) [0, 1, 7, 8, 9]) [0, 1, 7, 8, 9])) .leaf [0, 1, 7, 8]) [0, 1, 7, 8]) [0, 1, 7, 8])) [0, 1, 7, 8]) (.seq .leaf .leaf [4, 5, 6]) []) [0, 1, 7]) [0, 1]) [0, 1])
def J25_1110100100111101 (Q : AEnd → AH → Prop) (n : Nat) (x1 x7 x8 : V) (h : AH) : Prop := vcAt Pg N25 B25 K25 [1, 1, 1, 0, 1, 0, 0, 1, 0, 0, 1, 1, 1, 1, 0, 1] [n] (vcRet Pg R25 Q) [(1, x1), (7, x7), (8, x8)] h
def J25_11101001001111001 (Q : AEnd → AH → Prop) (n : Nat) (x1 x7 x8 x50 : V) (h : AH) : Prop := vcAt Pg N25 B25 K25 [1, 1, 1, 0, 1, 0, 0, 1, 0, 0, 1, 1, 1, 1, 0, 0, 1] [n] (vcRet Pg R25 Q) [(1, x1), (7, x7), (8, x8), (50, x50)] h
def G25_111010010011110001002 (Q : AEnd → AH → Prop) (n : Nat) (x1 x7 x8 x47 x49 : V) (h : AH) : Prop := segAt Pg N25 B25 K25 [1, 1, 1, 0, 1, 0, 0, 1, 0, 0, 1, 1, 1, 1, 0, 0, 0] 2 1 [n] (vcRet Pg R25 Q) [(1, x1), (7, x7), (8, x8), (47, x47), (49, x49)] h
def J25_111010011 (Q : AEnd → AH → Prop) (n : Nat) (x0 x1 x7 x8 : V) (h : AH) : Prop := vcAt Pg N25 B25 K25 [1, 1, 1, 0, 1, 0, 0, 1, 1] [n] (vcRet Pg R25 Q) [(0, x0), (1, x1), (7, x7), (8, x8)] h
def J25_111010010011 (Q : AEnd → AH → Prop) (n : Nat) (x0 x1 x7 x8 x9 : V) (h : AH) : Prop := vcAt Pg N25 B25 K25 [1, 1, 1, 0, 1, 0, 0, 1, 0, 0, 1, 1] [n] (vcRet Pg R25 Q) [(0, x0), (1, x1), (7, x7), (8, x8), (9, x9)] h
def J25_1110100100101 (Q : AEnd → AH → Prop) (n : Nat) (x0 x1 x7 x8 x9 x34 : V) (h : AH) : Prop := vcAt Pg N25 B25 K25 [1, 1, 1, 0, 1, 0, 0, 1, 0, 0, 1, 0, 1] [n] (vcRet Pg R25 Q) [(0, x0), (1, x1), (7, x7), (8, x8), (9, x9), (34, x34)] h
def G25_11101001001001002 (Q : AEnd → AH → Prop) (n : Nat) (x0 x1 x7 x8 x9 x31 x33 : V) (h : AH) : Prop := segAt Pg N25 B25 K25 [1, 1, 1, 0, 1, 0, 0, 1, 0, 0, 1, 0, 0] 2 1 [n] (vcRet Pg R25 Q) [(0, x0), (1, x1), (7, x7), (8, x8), (9, x9), (31, x31), (33, x33)] h
def J25_11101001 (Q : AEnd → AH → Prop) (n : Nat) (x0 x1 x7 x8 : V) (h : AH) : Prop := vcAt Pg N25 B25 K25 [1, 1, 1, 0, 1, 0, 0, 1] [n] (vcRet Pg R25 Q) [(0, x0), (1, x1), (7, x7), (8, x8)] h
def J25_1111 (Q : AEnd → AH → Prop) (h : AH) : Prop := vcAt Pg N25 B25 K25 [1, 1, 1, 1] [] (vcRet Pg R25 Q) [] h
def J25_111010001 (Q : AEnd → AH → Prop) (n : Nat) (x0 x1 x7 x8 x21 : V) (h : AH) : Prop := vcAt Pg N25 B25 K25 [1, 1, 1, 0, 1, 0, 0, 0, 1] [n] (vcRet Pg R25 Q) [(0, x0), (1, x1), (7, x7), (8, x8), (21, x21)] h
def G25_1110100001002 (Q : AEnd → AH → Prop) (n : Nat) (x0 x1 x7 x8 x14 x20 : V) (h : AH) : Prop := segAt Pg N25 B25 K25 [1, 1, 1, 0, 1, 0, 0, 0, 0] 2 1 [n] (vcRet Pg R25 Q) [(0, x0), (1, x1), (7, x7), (8, x8), (14, x14), (20, x20)] h
def L25_111010 (Q : AEnd → AH → Prop) (n : Nat) (x0 x1 x7 x8 : V) (h : AH) : Prop := loopAt Pg N25 B25 K25 [1, 1, 1, 0, 1, 0] [] n (vcRet Pg R25 Q) [(0, x0), (1, x1), (7, x7), (8, x8)] h
def J25_11 (Q : AEnd → AH → Prop) (x0 x1 : V) (h : AH) : Prop := vcAt Pg N25 B25 K25 [1, 1] [] (vcRet Pg R25 Q) [(0, x0), (1, x1)] h
theorem J25_1110100100111101_eq (Q : AEnd → AH → Prop) (n : Nat) (x1 x7 x8 : V) (h : AH) : J25_1110100100111101 Q n x1 x7 x8 h = (
  bindV (still (aBin Pg .add 3 x1 x8 false) h) fun v31 h32 =>
  bindV (still (aBin Pg .add 3 v31 (V.int .i64 1) true) h32) fun v33 h34 =>
  Q (.ret (V.tup [x7, v33, (V.bool true)])) h34) := by kernel_rfl
theorem J25_11101001001111001_eq (Q : AEnd → AH → Prop) (n : Nat) (x1 x7 x8 x50 : V) (h : AH) : J25_11101001001111001 Q n x1 x7 x8 x50 h = (
  vcIf x50 (
  Q (.ret (V.tup [(V.int .u64 0), (V.int .i64 0), (V.bool false)])) h) (
  Meet (J25_1110100100111101 Q n x1 x7 x8 h))) := by kernel_rfl
theorem G25_111010010011110001002_eq (Q : AEnd → AH → Prop) (n : Nat) (x1 x7 x8 x47 x49 : V) (h : AH) : G25_111010010011110001002 Q n x1 x7 x8 x47 x49 h = (
  bindV (aPick x47 x49 (V.bool false) h) fun v29 h30 =>
  Meet (J25_11101001001111001 Q n x1 x7 x8 v29 h30)) := by kernel_rfl
theorem J25_111010011_eq (Q : AEnd → AH → Prop) (n : Nat) (x0 x1 x7 x8 : V) (h : AH) : J25_111010011 Q n x0 x1 x7 x8 h = (
  bindV (still (aBin Pg .add 3 x8 (V.int .i64 1) true) h) fun v37 h38 =>
  Meet (L25_111010 Q n x0 x1 x7 v37 h38)) := by kernel_rfl
theorem J25_111010010011_eq (Q : AEnd → AH → Prop) (n : Nat) (x0 x1 x7 x8 x9 : V) (h : AH) : J25_111010010011 Q n x0 x1 x7 x8 x9 h = (
  bindV (still (aBin Pg .and 5 x9 (V.int .u8 127) true) h) fun v15 h16 =>
  bindV (still (aConv Pg h16 5 22 v15) h16) fun v17 h18 =>
  bindV (still (aBin Pg .mul 3 (V.int .i64 7) x8 true) h18) fun v19 h20 =>
  bindV (still (aBin Pg .shl 22 v17 v19 false) h20) fun v21 h22 =>
  bindV (still (aBin Pg .or 22 x7 v21 false) h22) fun v23 h24 =>
  bindV (still (aBin Pg .lss 5 x9 (V.int .u8 128) true) h24) fun v25 h26 =>
  vcIf v25 (
  bindV (still (aBin Pg .eql 5 x9 (V.int .u8 0) true) h26) fun v27 h28 =>
  vcG v27 true (
  bindV (still (aBin Pg .gtr 3 x8 (V.int .i64 0) true) h28) fun v35 h36 =>
  Meet (G25_111010010011110001002 Q n x1 v23 x8 v27 v35 h36)) (Meet (G25_111010010011110001002 Q n x1 v23 x8 v27 hole h28))) (
  Meet (J25_111010011 Q n x0 x1 v23 x8 h26))) := by kernel_rfl
theorem J25_1110100100101_eq (Q : AEnd → AH → Prop) (n : Nat) (x0 x1 x7 x8 x9 x34 : V) (h : AH) : J25_1110100100101 Q n x0 x1 x7 x8 x9 x34 h = (
  vcIf x34 (
  Q (.ret (V.tup [(V.int .u64 0), (V.int .i64 0), (V.bool false)])) h) (
  Meet (J25_111010010011 Q n x0 x1 x7 x8 x9 h))) := by kernel_rfl
theorem G25_11101001001001002_eq (Q : AEnd → AH → Prop) (n : Nat) (x0 x1 x7 x8 x9 x31 x33 : V) (h : AH) : G25_11101001001001002 Q n x0 x1 x7 x8 x9 x31 x33 h = (
  bindV (aPick x31 x33 (V.bool false) h) fun v13 h14 =>
  Meet (J25_1110100100101 Q n x0 x1 x7 x8 x9 v13 h14)) := by kernel_rfl
theorem J25_11101001_eq (Q : AEnd → AH → Prop) (n : Nat) (x0 x1 x7 x8 : V) (h : AH) : J25_11101001 Q n x0 x1 x7 x8 h = (
  bindV (still (aBin Pg .add 3 x1 x8 false) h) fun v7 h8 =>
  bindV (still (aIndex Pg 9 x0 v7) h8) fun v9 h10 =>
  bindV (still (aBin Pg .eql 3 x8 (V.int .i64 9) true) h10) fun v11 h12 =>
  vcG v11 true (
  bindV (still (aBin Pg .gtr 5 v9 (V.int .u8 1) true) h12) fun v39 h40 =>
  Meet (G25_11101001001001002 Q n x0 x1 x7 x8 v9 v11 v39 h40)) (Meet (G25_11101001001001002 Q n x0 x1 x7 x8 v9 v11 hole h12))) := by kernel_rfl
theorem J25_1111_eq (Q : AEnd → AH → Prop) (h : AH) : J25_1111 Q h = (
  Q (.ret (V.tup [(V.int .u64 0), (V.int .i64 0), (V.bool false)])) h) := by kernel_rfl
theorem J25_111010001_eq (Q : AEnd → AH → Prop) (n : Nat) (x0 x1 x7 x8 x21 : V) (h : AH) : J25_111010001 Q n x0 x1 x7 x8 x21 h = (
  vcIf x21 (
  Meet (J25_11101001 Q n x0 x1 x7 x8 h)) (
  Meet (J25_1111 Q h))) := by kernel_rfl
theorem G25_1110100001002_eq (Q : AEnd → AH → Prop) (n : Nat) (x0 x1 x7 x8 x14 x20 : V) (h : AH) : G25_1110100001002 Q n x0 x1 x7 x8 x14 x20 h = (
  bindV (aPick x14 x20 (V.bool false) h) fun v5 h6 =>
  Meet (J25_111010001 Q n x0 x1 x7 x8 v5 h6)) := by kernel_rfl
theorem L25_111010_eq (Q : AEnd → AH → Prop) (n : Nat) (x0 x1 x7 x8 : V) (h : AH) : L25_111010 Q (n + 1) x0 x1 x7 x8 h = (
  bindV (still (aBin Pg .lss 3 x8 (V.int .i64 10) true) h) fun v3 h4 =>
  vcG v3 true (
  bindV (aBuiltin Pg h4 .len [9] [x0]) fun v41 h42 =>
  bindV (still (aBin Pg .sub 3 v41 x8 false) h42) fun v43 h44 =>
  bindV (still (aBin Pg .lss 3 x1 v43 false) h44) fun v45 h46 =>
  Meet (G25_1110100001002 Q n x0 x1 x7 x8 v3 v45 h46)) (Meet (G25_1110100001002 Q n x0 x1 x7 x8 v3 hole h4))) := by kernel_rfl
theorem J25_11_eq (Q : AEnd → AH → Prop) (x0 x1 : V) (h : AH) : J25_11 Q x0 x1 h = (
  ∃ n, Meet (L25_111010 Q n x0 x1 (V.int .u64 0) (V.int .i64 0) h)) := by kernel_rfl
theorem S25 (Q : AEnd → AH → Prop) (a0 a1 : V) (h : AH) : vc Pg N25 B25 K25 (vcRet Pg R25 Q) (initEnv 0 [a0, a1]) h = (
  bindV (still (aBin Pg .lss 3 a1 (V.int .i64 0) true) h) fun v1 h2 =>
  vcIf v1 (
  Q (.ret (V.tup [(V.int .u64 0), (V.int .i64 0), (V.bool false)])) h2) (
  Meet (J25_11 Q a0 a1 h2))) := by kernel_rfl
theorem C25 (Q : AEnd → AH → Prop) (a0 a1 : V) (h : AH) (c :
  bindV (still (aBin Pg .lss 3 a1 (V.int .i64 0) true) h) fun v1 h2 =>
  vcIf v1 (
  Q (.ret (V.tup [(V.int .u64 0), (V.int .i64 0), (V.bool false)])) h2) (
  Meet (J25_11 Q a0 a1 h2))) : ACalls Pg 25 [a0, a1] h Q :=
  acalls_of_vc okP Try.func25 (show Try.f25.body = some B25 from by kernel_rfl) K25 (by rw [← S25 Q a0 a1 h] at c; exact c)

-- 28 varve/varvelaw01.awake
noncomputable def B28 : Code := (Try.f28.body).getD .skip
def R28 : List ResultVar := [.tmp 0]
abbrev N28 : Nat := 24
def K28 : KT := (.seq .leaf (.seq .leaf (.join (.reg [[2, 9, 11], [13, 14], [16, 18], [20, 22]]) .leaf [0]) [1, 2]) [])
def J28_111 (Q : AEnd → AH → Prop) (x0 : V) (h : AH) : Prop := vcAt Pg N28 B28 K28 [1, 1, 1] [] (vcRet Pg R28 Q) [(0, x0)] h
def G28_1101008 (Q : AEnd → AH → Prop) (x20 x22 : V) (h : AH) : Prop := segAt Pg N28 B28 K28 [1, 1, 0] 8 4 [] (vcRet Pg R28 Q) [(20, x20), (22, x22)] h
def G28_1101006 (Q : AEnd → AH → Prop) (x16 x18 : V) (h : AH) : Prop := segAt Pg N28 B28 K28 [1, 1, 0] 6 3 [] (vcRet Pg R28 Q) [(16, x16), (18, x18)] h
def G28_1101004 (Q : AEnd → AH → Prop) (x13 x14 : V) (h : AH) : Prop := segAt Pg N28 B28 K28 [1, 1, 0] 4 2 [] (vcRet Pg R28 Q) [(13, x13), (14, x14)] h
def G28_1101002 (Q : AEnd → AH → Prop) (x2 x9 x11 : V) (h : AH) : Prop := segAt Pg N28 B28 K28 [1, 1, 0] 2 1 [] (vcRet Pg R28 Q) [(2, x2), (9, x9), (11, x11)] h
theorem J28_111_eq (Q : AEnd → AH → Prop) (x0 : V) (h : AH) : J28_111 Q x0 h = (
  Q (.ret x0) h) := by kernel_rfl
theorem G28_1101008_eq (Q : AEnd → AH → Prop) (x20 x22 : V) (h : AH) : G28_1101008 Q x20 x22 h = (
  bindV (aPick x20 x22 (V.bool false) h) fun v17 h18 =>
  Meet (J28_111 Q v17 h18)) := by kernel_rfl
theorem G28_1101006_eq (Q : AEnd → AH → Prop) (x16 x18 : V) (h : AH) : G28_1101006 Q x16 x18 h = (
  bindV (aPick x16 x18 (V.bool false) h) fun v15 h16 =>
  vcG v15 true (
  ACalls Pg 15 [(V.int .i64 (-1))] h16 (aEnd (fun v19 h20 =>
  bindV (still (aBin Pg .eql 22 v19 (V.int .u64 1) true) h20) fun v21 h22 =>
  Meet (G28_1101008 Q v15 v21 h22)) fun v h => Q (.panic v) h)) (Meet (G28_1101008 Q v15 hole h16))) := by kernel_rfl
theorem G28_1101004_eq (Q : AEnd → AH → Prop) (x13 x14 : V) (h : AH) : G28_1101004 Q x13 x14 h = (
  bindV (aPick x13 x14 (V.bool false) h) fun v13 h14 =>
  vcG v13 true (
  ACalls Pg 20 [(V.int .u64 128)] h14 (aEnd (fun v23 h24 =>
  bindV (still (aBin Pg .eql 9 v23 (V.str [128, 1]) true) h24) fun v25 h26 =>
  Meet (G28_1101006 Q v13 v25 h26)) fun v h => Q (.panic v) h)) (Meet (G28_1101006 Q v13 hole h14))) := by kernel_rfl
theorem G28_1101002_eq (Q : AEnd → AH → Prop) (x2 x9 x11 : V) (h : AH) : G28_1101002 Q x2 x9 x11 h = (
  bindV (aPick x9 x11 (V.bool false) h) fun v11 h12 =>
  vcG v11 true (
  Meet (G28_1101004 Q v11 x2 h12)) (Meet (G28_1101004 Q v11 hole h12))) := by kernel_rfl
theorem S28 (Q : AEnd → AH → Prop) (h : AH) : vc Pg N28 B28 K28 (vcRet Pg R28 Q) (initEnv 0 []) h = (
  ACalls Pg 18 [(V.str [2, 1]), (V.int .i64 0), (V.int .i64 2)] h (aEnd (fun v1 h2 =>
  bindV (still (aExtract v1 0) h2) fun v3 h4 =>
  bindV (still (aExtract v1 1) h4) fun v5 h6 =>
  ACalls Pg 22 [(V.int .u64 258), (V.int .i64 2)] h6 (aEnd (fun v7 h8 =>
  bindV (still (aBin Pg .eql 9 v7 (V.str [2, 1]) true) h8) fun v9 h10 =>
  vcG v9 true (
  bindV (still (aBin Pg .eql 22 v3 (V.int .u64 258) true) h10) fun v27 h28 =>
  Meet (G28_1101002 Q v5 v9 v27 h28)) (Meet (G28_1101002 Q v5 v9 hole h10))) fun v h => Q (.panic v) h)) fun v h => Q (.panic v) h)) := by kernel_rfl
theorem C28 (Q : AEnd → AH → Prop) (h : AH) (c :
  ACalls Pg 18 [(V.str [2, 1]), (V.int .i64 0), (V.int .i64 2)] h (aEnd (fun v1 h2 =>
  bindV (still (aExtract v1 0) h2) fun v3 h4 =>
  bindV (still (aExtract v1 1) h4) fun v5 h6 =>
  ACalls Pg 22 [(V.int .u64 258), (V.int .i64 2)] h6 (aEnd (fun v7 h8 =>
  bindV (still (aBin Pg .eql 9 v7 (V.str [2, 1]) true) h8) fun v9 h10 =>
  vcG v9 true (
  bindV (still (aBin Pg .eql 22 v3 (V.int .u64 258) true) h10) fun v27 h28 =>
  Meet (G28_1101002 Q v5 v9 v27 h28)) (Meet (G28_1101002 Q v5 v9 hole h10))) fun v h => Q (.panic v) h)) fun v h => Q (.panic v) h)) : ACalls Pg 28 [] h Q :=
  acalls_of_vc okP Try.func28 (show Try.f28.body = some B28 from by kernel_rfl) K28 (by rw [← S28 Q h] at c; exact c)

end Go.Proofs.Ytdhlolcpcgpcnaa.Sh
namespace Go.Proofs.Ytdhlolcpcgpcnaa.Sh
open Go Go.Ab Go.RowKit Go.Gr
set_option linter.unusedSimpArgs false
set_option linter.unusedVariables false
set_option maxRecDepth 10000
theorem row67 : rowT Pg 67 5 = true := by kernel_rfl
theorem bs679 : bsT Pg 67 9 5 = true := by kernel_rfl
theorem str9 : strT Pg 9 = true := by kernel_rfl
theorem lit67 (h : AH) (x : Int) : aBuildSlice Pg h 67 1 [(0, .int .u8 x)] = some (.slc (some (⟨h.next, .row 5, []⟩, 0)) 1, h.make (.cells true (.row 5) (.agg [.int .u8 x]))) := by kernel_rfl
theorem shr8 (v : Nat) : shrI .u64 (v : Int) 8 = ((v / 256 : Nat) : Int) := shr_n v 8 (by decide)
theorem shr7 (v : Nat) : shrI .u64 (v : Int) 7 = ((v / 128 : Nat) : Int) := shr_n v 7 (by decide)
theorem loop21 (q : AEnd → Prop) (h : AH) : ∀ (n k v j : Nat), wid v = k → k < n → j + k < 1000 → q (.ret (.int .i64 ((j + k : Nat) : Int))) → L21_1100 (fun e _ => q e) n (.int .u64 (v : Int)) (.int .i64 (j : Int)) h
  | 0, k, v, j, _, hn, _, _ => absurd hn (by omega)
  | n + 1, k, v, j, hk, hn, hj, c => by
    rw [L21_1100_eq]
    refine bindS_mk b_gtr ?_
    by_cases hv : v = 0
    · subst hv
      rw [wid_zero] at hk; subst hk
      refine i_f ?_
      refine Meet.of (cast_p (J21_111_eq _ _ _) ?_)
      exact c
    · have hw := wid_pos (v := v) (by omega)
      rw [show decide ((v : Int) > 0) = true by rw [decide_eq_true_eq]; omega]
      refine i_t ?_
      refine Meet.of (cast_p (J21_110001_eq _ _ _ _ _) ?_)
      refine bindS_mk (c_inc (by omega)) ?_
      refine Meet.of (cast_p (J21_1100011_eq _ _ _ _ _) ?_)
      refine bindS_mk (b_shr (by decide)) ?_
      rw [shr8]
      refine Meet.of (loop21 q h n (k - 1) (v / 256) (j + 1) (by omega) (by omega) (by omega) ?_)
      rw [show j + 1 + (k - 1) = j + k by omega]
      exact c
theorem widthP (v : Nat) (hv : v < 18446744073709551616) (h : AH) : ACalls Pg 21 [.int .u64 (v : Int)] h (pureE (.int .i64 ((wid v : Nat) : Int)) h) := by
  refine pure_lift rfl rfl (C21 _ _ _ ⟨20, ?_⟩) h
  have := wid8 v hv
  refine Meet.of (loop21 (fun e => e = .ret (.int .i64 ((wid v : Nat) : Int))) AH0 20 (wid v) v 0 rfl (by omega) (by omega) ?_)
  rw [Nat.zero_add]
theorem loop24 (q : AEnd → Prop) (h : AH) : ∀ (n k v j : Nat), v < 18446744073709551616 → wid v = k → k < n → j + k < 1000 → q (.ret (.int .i64 ((j + k : Nat) : Int))) → L24_1100 (fun e _ => q e) n (.int .u64 (v : Int)) (.int .i64 (j : Int)) h
  | 0, k, v, j, _, _, hn, _, _ => absurd hn (by omega)
  | n + 1, k, v, j, hb, hk, hn, hj, c => by
    rw [L24_1100_eq]
    refine bindS_mk b_gtr ?_
    by_cases hv : v = 0
    · subst hv
      rw [wid_zero] at hk; subst hk
      refine i_f ?_
      refine Meet.of (cast_p (J24_111_eq _ _ _) ?_)
      exact c
    · have hw := wid_pos (v := v) (by omega)
      rw [show decide ((v : Int) > 0) = true by rw [decide_eq_true_eq]; omega]
      refine i_t ?_
      refine Meet.of (cast_p (J24_110001_eq _ _ _ _ _) ?_)
      refine bindS_mk (c_inc (by omega)) ?_
      
      refine bindS_mk (b_quo (by decide)) ?_
      have e : IntKind.u64.wrap (Int.tdiv (v : Int) 256) = ((v / 256 : Nat) : Int) := by
        rw [wrap_u64, Int.tdiv_eq_ediv_of_nonneg (by omega)]; omega
      rw [e]
      refine Meet.of (loop24 q h n (k - 1) (v / 256) (j + 1) (by omega) (by omega) (by omega) (by omega) ?_)
      rw [show j + 1 + (k - 1) = j + k by omega]
      exact c
theorem widthR (v : Nat) (hv : v < 18446744073709551616) (h : AH) : ACalls Pg 24 [.int .u64 (v : Int)] h (pureE (.int .i64 ((wid v : Nat) : Int)) h) := by
  refine pure_lift rfl rfl (C24 _ _ _ ⟨20, ?_⟩) h
  have := wid8 v hv
  refine Meet.of (loop24 (fun e => e = .ret (.int .i64 ((wid v : Nat) : Int))) AH0 20 (wid v) v 0 hv rfl (by omega) (by omega) ?_)
  rw [Nat.zero_add]
theorem loop20 (q : AEnd → Prop) : ∀ (n v : Nat) (x : V) (h : AH) (l : List Int), (varL v).length ≤ n → l.length + n < 1000 → Buf 5 h x l → q (.ret (.str ((l.map fun n => UInt8.ofNat n.toNat) ++ varB v))) → L20_1100 (fun e _ => q e) n (.int .u64 (v : Int)) x h
  | 0, v, x, h, l, hn, _, _, _ => absurd hn (by have := len_pos v; omega)
  | n + 1, v, x, h, l, hn, hl, hb, c => by
    rw [L20_1100_eq]
    refine bindS_mk b_geq ?_
    by_cases hv : v < 128
    · rw [show decide ((v : Int) ≥ 128) = false by rw [decide_eq_false_iff_not]; omega]
      refine i_f ?_
      refine Meet.of (cast_p (J20_111_eq _ _ _ _) ?_)
      refine bindS_mk (cv_int .u8 (by kernel_rfl)) ?_
      refine bindV_mk (lit67 _ _) ?_
      obtain ⟨y, h', e, b⟩ := hb.push row67 (IntKind.u8.wrap (v : Int)) (by omega)
      refine bindV_mk e ?_
      refine bindS_mk (b.str bs679) ?_
      have e2 : ((l ++ [IntKind.u8.wrap (v : Int)]).map fun n => UInt8.ofNat n.toNat) = (l.map fun n => UInt8.ofNat n.toNat) ++ varB v := by
        have : (IntKind.u8.wrap (v : Int)).toNat = v := by rw [wrap_u8]; omega
        rw [List.map_append, varB, varL_small hv, List.map_singleton, List.map_singleton, this]
      rw [e2]
      exact c
    · rw [show decide ((v : Int) ≥ 128) = true by rw [decide_eq_true_eq]; omega]
      refine i_t ?_
      refine Meet.of (cast_p (J20_110001_eq _ _ _ _ _) ?_)
      refine bindS_mk (cv_int .u8 (by kernel_rfl)) ?_
      refine bindS_mk b_or ?_
      have e1 : bitI .or .u8 (IntKind.u8.wrap (v : Int)) 128 = ((128 + v % 128 : Nat) : Int) := by
        have : IntKind.u8.wrap (v : Int) = ((v % 256 : Nat) : Int) := by rw [wrap_u8]; omega
        rw [this, or8_128 _ (by omega)]
        congr 2; omega
      rw [e1]
      refine bindV_mk (lit67 _ _) ?_
      obtain ⟨y, h', e, b⟩ := hb.push row67 ((128 + v % 128 : Nat) : Int) (by omega)
      refine bindV_mk e ?_
      refine bindS_mk (b_shr (by decide)) ?_
      rw [shr7]
      rw [varL_big (by omega), List.length_cons] at hn
      refine Meet.of (loop20 q n (v / 128) y h' _ (by omega) (by simp; omega) b ?_)
      have e2 : ((l ++ [((128 + v % 128 : Nat) : Int)]).map fun n => UInt8.ofNat n.toNat) ++ varB (v / 128) = (l.map fun n => UInt8.ofNat n.toNat) ++ varB v := by
        rw [varB, varB, varL_big (v := v) (by omega), List.map_append, List.map_singleton, Int.toNat_natCast, List.map_cons, List.append_assoc, List.singleton_append]
      rw [e2]
      exact c
theorem varP (v : Nat) (hv : v < 18446744073709551616) (h : AH) : ACalls Pg 20 [.int .u64 (v : Int)] h (pureE (.str (varB v)) h) := by
  refine pure_lift rfl rfl (C20 _ _ _ ⟨10, ?_⟩) h
  exact Meet.of (loop20 (fun e => e = .ret (.str (varB v))) 10 v (.slc none 0) AH0 [] (varL10 v hv) (by decide) (.inl ⟨rfl, rfl⟩) rfl)
end Go.Proofs.Ytdhlolcpcgpcnaa.Sh
