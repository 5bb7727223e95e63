import Derived.Test.YtcglbpjpbjaecaaGreatP14
import Derived.Test.YtcglbpjpbjaecaaGreatP16
import Derived.Test.YtcglbpjpbjaecaaGreatP06
import Derived.Test.YtcglbpjpbjaecaaGreatP13
import Derived.RangeFuncLeaves
import Derived.RangeFuncRecord
import Derived.Shelf.GgSortFunc.Tiny
import Derived.Test.YtcglbpjpbjaecaaGreatP07
import Derived.Test.YtcglbpjpbjaecaaGreatP08
set_option linter.unusedVariables false
set_option linter.unusedSimpArgs false
namespace Go.Proofs.YtcglbpjpbjaecaaGreat.Sh
open Go Go.Ab Go.RowKit
open Go.Proofs.YtcglbpjpbjaecaaGreat.Ru (Pg okP)
set_option maxRecDepth 100000
noncomputable def B10 : Code := (Tryz.f10.body).getD .skip
def R10 : List ResultVar := [.tmp 2]
abbrev N10 : Nat := 38
def K10 : KT := (.seq .leaf (.seq .leaf (.seq .leaf (.seq .leaf (.seq .leaf (.join (.reg [[0, 3, 25, 28], [30, 33], [35, 36]]) .leaf [2]) [0, 3, 4, 5, 6, 7]) [0, 3, 4, 5]) [0, 3]) [0]) [0])
def J10_111111 (Q : AEnd → AH → Prop) (x2 : V) (h : AH) : Prop := vcAt Pg N10 B10 K10 [1, 1, 1, 1, 1, 1] [] (vcRet Pg R10 Q) [(2, x2)] h
def G10_1111101006 (Q : AEnd → AH → Prop) (x35 x36 : V) (h : AH) : Prop := segAt Pg N10 B10 K10 [1, 1, 1, 1, 1, 0] 6 3 [] (vcRet Pg R10 Q) [(35, x35), (36, x36)] h
def G10_1111101004 (Q : AEnd → AH → Prop) (x30 x33 : V) (h : AH) : Prop := segAt Pg N10 B10 K10 [1, 1, 1, 1, 1, 0] 4 2 [] (vcRet Pg R10 Q) [(30, x30), (33, x33)] h
def G10_1111101002 (Q : AEnd → AH → Prop) (x0 x3 x25 x28 : V) (h : AH) : Prop := segAt Pg N10 B10 K10 [1, 1, 1, 1, 1, 0] 2 1 [] (vcRet Pg R10 Q) [(0, x0), (3, x3), (25, x25), (28, x28)] h
theorem J10_111111_eq (Q : AEnd → AH → Prop) (x2 : V) (h : AH) : J10_111111 Q x2 h = (
  Q (.ret x2) h) := by kernel_rfl
theorem G10_1111101006_eq (Q : AEnd → AH → Prop) (x35 x36 : V) (h : AH) : G10_1111101006 Q x35 x36 h = (
  bindV (aPick x35 x36 (V.bool false) h) fun v23 h24 =>
  Meet (J10_111111 Q v23 h24)) := by kernel_rfl
theorem G10_1111101004_eq (Q : AEnd → AH → Prop) (x30 x33 : V) (h : AH) : G10_1111101004 Q x30 x33 h = (
  bindV (aPick x30 x33 (V.bool false) h) fun v21 h22 =>
  vcG v21 true (
  ACalls Pg 42 [] h22 (aEnd (fun v25 h26 =>
  Meet (G10_1111101006 Q v21 v25 h26)) fun v h => Q (.panic v) h)) (Meet (G10_1111101006 Q v21 hole h22))) := by kernel_rfl
theorem G10_1111101002_eq (Q : AEnd → AH → Prop) (x0 x3 x25 x28 : V) (h : AH) : G10_1111101002 Q x0 x3 x25 x28 h = (
  bindV (aPick x25 x28 (V.bool false) h) fun v19 h20 =>
  vcG v19 true (
  ACalls Pg 45 [x3, x0] h20 (aEnd (fun v27 h28 =>
  Meet (G10_1111101004 Q v19 v27 h28)) fun v h => Q (.panic v) h)) (Meet (G10_1111101004 Q v19 hole h20))) := by kernel_rfl
theorem S10 (Q : AEnd → AH → Prop) (a0 : V) (h : AH) : vc Pg N10 B10 K10 (vcRet Pg R10 Q) (initEnv 0 [a0]) h = (
  ACalls Pg 46 [a0] h (aEnd (fun v1 h2 =>
  ACalls Pg 46 [v1] h2 (aEnd (fun v3 h4 =>
  ACalls Pg 49 [v3] h4 (aEnd (fun v5 h6 =>
  bindV (still (aExtract v5 0) h6) fun v7 h8 =>
  bindV (still (aExtract v5 1) h8) fun v9 h10 =>
  ACalls Pg 50 [v1] h10 (aEnd (fun v11 h12 =>
  bindV (still (aExtract v11 0) h12) fun v13 h14 =>
  bindV (still (aExtract v11 1) h14) fun v15 h16 =>
  bindV (still (aBin Pg .eql 9 v7 v13 false) h16) fun v17 h18 =>
  vcG v17 true (
  bindV (still (aBin Pg .eql 3 v9 v15 false) h18) fun v29 h30 =>
  Meet (G10_1111101002 Q v1 v3 v17 v29 h30)) (Meet (G10_1111101002 Q v1 v3 v17 hole h18))) fun v h => Q (.panic v) h)) fun v h => Q (.panic v) h)) fun v h => Q (.panic v) h)) fun v h => Q (.panic v) h)) := by kernel_rfl
theorem C10 (Q : AEnd → AH → Prop) (a0 : V) (h : AH) (c :
  ACalls Pg 46 [a0] h (aEnd (fun v1 h2 =>
  ACalls Pg 46 [v1] h2 (aEnd (fun v3 h4 =>
  ACalls Pg 49 [v3] h4 (aEnd (fun v5 h6 =>
  bindV (still (aExtract v5 0) h6) fun v7 h8 =>
  bindV (still (aExtract v5 1) h8) fun v9 h10 =>
  ACalls Pg 50 [v1] h10 (aEnd (fun v11 h12 =>
  bindV (still (aExtract v11 0) h12) fun v13 h14 =>
  bindV (still (aExtract v11 1) h14) fun v15 h16 =>
  bindV (still (aBin Pg .eql 9 v7 v13 false) h16) fun v17 h18 =>
  vcG v17 true (
  bindV (still (aBin Pg .eql 3 v9 v15 false) h18) fun v29 h30 =>
  Meet (G10_1111101002 Q v1 v3 v17 v29 h30)) (Meet (G10_1111101002 Q v1 v3 v17 hole h18))) fun v h => Q (.panic v) h)) fun v h => Q (.panic v) h)) fun v h => Q (.panic v) h)) fun v h => Q (.panic v) h)) : ACalls Pg 10 [a0] h Q :=
  acalls_of_vc okP Tryz.func10 (show Tryz.f10.body = some B10 from by kernel_rfl) K10 (by rw [← S10 Q a0 h] at c; exact c)
noncomputable def B45 : Code := (Tryz.f45.body).getD .skip
def R45 : List ResultVar := [.tmp 4]
abbrev N45 : Nat := 81
def K45 : KT := (.seq .leaf (.join (.seq .leaf (.two (.seq .leaf .leaf [4]) .leaf) [0, 1, 13]) (.join (.seq .leaf (.one (.loop (.seq .leaf (.join (.two .leaf .leaf) (.join (.one (.seq .leaf (.seq (.flo [8, 9, 10, 11] [8, 9] 10) (.join (.join (.reg [[0, 1, 6, 7, 15, 16, 32, 37], [0, 1, 6, 7, 15, 16, 39, 44], [0, 1, 6, 7, 15, 16, 46, 51], [0, 1, 6, 7, 15, 16, 53, 60]]) (.two (.seq .leaf .leaf [4]) .leaf) [0, 1, 6, 7, 15, 16, 61]) (.seq .leaf (.one (.loop (.seq .leaf (.join (.two .leaf .leaf) (.join (.one (.seq .leaf (.seq .leaf (.two (.seq .leaf .leaf [4]) .leaf) [0, 1, 6, 7, 15, 16, 64, 65, 78]) [0, 1, 6, 7, 8, 15, 16, 64, 65])) .leaf [0, 1, 6, 7, 15, 16, 64, 65]) [0, 1, 6, 7, 15, 16, 64, 65]) [0, 1, 6, 7, 15, 16, 64, 65, 66]) [0, 1, 6, 7, 15, 16, 64, 65])) [0, 1, 6, 7, 15, 16, 64, 65]) [0, 1, 6, 7, 15, 16]) [0, 1, 6, 7, 15, 16]) [0, 1, 5, 15, 16])) .leaf [0, 1, 15, 16]) [0, 1, 15, 16]) [0, 1, 15, 16, 17]) [0, 1, 15, 16])) [0, 1, 15, 16]) (.seq .leaf .leaf [4]) []) [0, 1]) [0, 1])
def J45_1101001100111100111 (Q : AEnd → AH → Prop) (n n1 : Nat) (x0 x1 x6 x7 x15 x16 x64 x65 : V) (h : AH) : Prop := vcAt Pg N45 B45 K45 [1, 1, 0, 1, 0, 0, 1, 1, 0, 0, 1, 1, 1, 1, 0, 0, 1, 1, 1] [n, n1] (vcRet Pg R45 Q) [(0, x0), (1, x1), (6, x6), (7, x7), (15, x15), (16, x16), (64, x64), (65, x65)] h
def J45_110100110011110011 (Q : AEnd → AH → Prop) (n n1 : Nat) (x0 x1 x6 x7 x15 x16 x64 x65 : V) (h : AH) : Prop := vcAt Pg N45 B45 K45 [1, 1, 0, 1, 0, 0, 1, 1, 0, 0, 1, 1, 1, 1, 0, 0, 1, 1] [n, n1] (vcRet Pg R45 Q) [(0, x0), (1, x1), (6, x6), (7, x7), (15, x15), (16, x16), (64, x64), (65, x65)] h
def J45_110100111 (Q : AEnd → AH → Prop) (n : Nat) (x0 x1 x15 x16 : V) (h : AH) : Prop := vcAt Pg N45 B45 K45 [1, 1, 0, 1, 0, 0, 1, 1, 1] [n] (vcRet Pg R45 Q) [(0, x0), (1, x1), (15, x15), (16, x16)] h
def L45_110100110011110 (Q : AEnd → AH → Prop) (n : Nat) (n1 : Nat) (x0 x1 x6 x7 x15 x16 x64 x65 : V) (h : AH) : Prop := loopAt Pg N45 B45 K45 [1, 1, 0, 1, 0, 0, 1, 1, 0, 0, 1, 1, 1, 1, 0] [n] n1 (vcRet Pg R45 Q) [(0, x0), (1, x1), (6, x6), (7, x7), (15, x15), (16, x16), (64, x64), (65, x65)] h
def J45_1101001100111 (Q : AEnd → AH → Prop) (n : Nat) (x0 x1 x6 x7 x15 x16 : V) (h : AH) : Prop := vcAt Pg N45 B45 K45 [1, 1, 0, 1, 0, 0, 1, 1, 0, 0, 1, 1, 1] [n] (vcRet Pg R45 Q) [(0, x0), (1, x1), (6, x6), (7, x7), (15, x15), (16, x16)] h
def J45_11010011001101 (Q : AEnd → AH → Prop) (n : Nat) (x0 x1 x6 x7 x15 x16 x61 : V) (h : AH) : Prop := vcAt Pg N45 B45 K45 [1, 1, 0, 1, 0, 0, 1, 1, 0, 0, 1, 1, 0, 1] [n] (vcRet Pg R45 Q) [(0, x0), (1, x1), (6, x6), (7, x7), (15, x15), (16, x16), (61, x61)] h
def G45_110100110011001008 (Q : AEnd → AH → Prop) (n : Nat) (x0 x1 x6 x7 x15 x16 x53 x60 : V) (h : AH) : Prop := segAt Pg N45 B45 K45 [1, 1, 0, 1, 0, 0, 1, 1, 0, 0, 1, 1, 0, 0] 8 4 [n] (vcRet Pg R45 Q) [(0, x0), (1, x1), (6, x6), (7, x7), (15, x15), (16, x16), (53, x53), (60, x60)] h
def G45_110100110011001006 (Q : AEnd → AH → Prop) (n : Nat) (x0 x1 x6 x7 x15 x16 x46 x51 : V) (h : AH) : Prop := segAt Pg N45 B45 K45 [1, 1, 0, 1, 0, 0, 1, 1, 0, 0, 1, 1, 0, 0] 6 3 [n] (vcRet Pg R45 Q) [(0, x0), (1, x1), (6, x6), (7, x7), (15, x15), (16, x16), (46, x46), (51, x51)] h
def G45_110100110011001004 (Q : AEnd → AH → Prop) (n : Nat) (x0 x1 x6 x7 x15 x16 x39 x44 : V) (h : AH) : Prop := segAt Pg N45 B45 K45 [1, 1, 0, 1, 0, 0, 1, 1, 0, 0, 1, 1, 0, 0] 4 2 [n] (vcRet Pg R45 Q) [(0, x0), (1, x1), (6, x6), (7, x7), (15, x15), (16, x16), (39, x39), (44, x44)] h
def G45_110100110011001002 (Q : AEnd → AH → Prop) (n : Nat) (x0 x1 x6 x7 x15 x16 x32 x37 : V) (h : AH) : Prop := segAt Pg N45 B45 K45 [1, 1, 0, 1, 0, 0, 1, 1, 0, 0, 1, 1, 0, 0] 2 1 [n] (vcRet Pg R45 Q) [(0, x0), (1, x1), (6, x6), (7, x7), (15, x15), (16, x16), (32, x32), (37, x37)] h
def J45_11010011 (Q : AEnd → AH → Prop) (n : Nat) (x0 x1 x15 x16 : V) (h : AH) : Prop := vcAt Pg N45 B45 K45 [1, 1, 0, 1, 0, 0, 1, 1] [n] (vcRet Pg R45 Q) [(0, x0), (1, x1), (15, x15), (16, x16)] h
def J45_111 (Q : AEnd → AH → Prop) (h : AH) : Prop := vcAt Pg N45 B45 K45 [1, 1, 1] [] (vcRet Pg R45 Q) [] h
def L45_11010 (Q : AEnd → AH → Prop) (n : Nat) (x0 x1 x15 x16 : V) (h : AH) : Prop := loopAt Pg N45 B45 K45 [1, 1, 0, 1, 0] [] n (vcRet Pg R45 Q) [(0, x0), (1, x1), (15, x15), (16, x16)] h
def J45_11 (Q : AEnd → AH → Prop) (x0 x1 : V) (h : AH) : Prop := vcAt Pg N45 B45 K45 [1, 1] [] (vcRet Pg R45 Q) [(0, x0), (1, x1)] h
theorem J45_1101001100111100111_eq (Q : AEnd → AH → Prop) (n n1 : Nat) (x0 x1 x6 x7 x15 x16 x64 x65 : V) (h : AH) : J45_1101001100111100111 Q n n1 x0 x1 x6 x7 x15 x16 x64 x65 h = (
  bindV (still (aBin Pg .add 3 x65 (V.int .i64 1) true) h) fun v58 h59 =>
  Meet (L45_110100110011110 Q n n1 x0 x1 x6 x7 x15 x16 x64 v58 h59)) := by kernel_rfl
theorem J45_110100110011110011_eq (Q : AEnd → AH → Prop) (n n1 : Nat) (x0 x1 x6 x7 x15 x16 x64 x65 : V) (h : AH) : J45_110100110011110011 Q n n1 x0 x1 x6 x7 x15 x16 x64 x65 h = (
  bindO (fstV (still (aFieldAddr Pg 73 x6 4) h)) fun v49 =>
  bindO (fstV (aLoadV Pg h 71 v49)) fun v50 =>
  bindO (fstV (still (aIndexAddr Pg 71 v50 x65) h)) fun v51 =>
  bindO (fstV (aLoadV Pg h 4 v51)) fun v52 =>
  bindO (fstV (still (aFieldAddr Pg 73 x7 4) h)) fun v53 =>
  bindO (fstV (aLoadV Pg h 71 v53)) fun v54 =>
  bindO (fstV (still (aIndexAddr Pg 71 v54 x65) h)) fun v55 =>
  bindO (fstV (aLoadV Pg h 4 v55)) fun v56 =>
  bindO (fstV (still (aBin Pg .neq 4 v52 v56 false) h)) fun v57 =>
  vcIf v57 (
  Q (.ret (V.bool false)) h) (
  Meet (J45_1101001100111100111 Q n n1 x0 x1 x6 x7 x15 x16 x64 x65 h))) := by kernel_rfl
theorem J45_110100111_eq (Q : AEnd → AH → Prop) (n : Nat) (x0 x1 x15 x16 : V) (h : AH) : J45_110100111 Q n x0 x1 x15 x16 h = (
  bindV (still (aBin Pg .add 3 x16 (V.int .i64 1) true) h) fun v60 h61 =>
  Meet (L45_11010 Q n x0 x1 x15 v60 h61)) := by kernel_rfl
theorem L45_110100110011110_eq (Q : AEnd → AH → Prop) (n : Nat) (n1 : Nat) (x0 x1 x6 x7 x15 x16 x64 x65 : V) (h : AH) : L45_110100110011110 Q n (n1 + 1) x0 x1 x6 x7 x15 x16 x64 x65 h = (
  bindV (still (aBin Pg .lss 3 x65 x64 false) h) fun v47 h48 =>
  vcIf v47 (
  Meet (J45_110100110011110011 Q n n1 x0 x1 x6 x7 x15 x16 x64 x65 h48)) (
  Meet (J45_110100111 Q n x0 x1 x15 x16 h48))) := by kernel_rfl
theorem J45_1101001100111_eq (Q : AEnd → AH → Prop) (n : Nat) (x0 x1 x6 x7 x15 x16 : V) (h : AH) : J45_1101001100111 Q n x0 x1 x6 x7 x15 x16 h = (
  bindV (still (aFieldAddr Pg 73 x6 4) h) fun v41 h42 =>
  bindV (aLoadV Pg h42 71 v41) fun v43 h44 =>
  bindV (aBuiltin Pg h44 .len [71] [v43]) fun v45 h46 =>
  ∃ n1, Meet (L45_110100110011110 Q n n1 x0 x1 x6 x7 x15 x16 v45 (V.int .i64 0) h46)) := by kernel_rfl
theorem J45_11010011001101_eq (Q : AEnd → AH → Prop) (n : Nat) (x0 x1 x6 x7 x15 x16 x61 : V) (h : AH) : J45_11010011001101 Q n x0 x1 x6 x7 x15 x16 x61 h = (
  vcIf x61 (
  Q (.ret (V.bool false)) h) (
  Meet (J45_1101001100111 Q n x0 x1 x6 x7 x15 x16 h))) := by kernel_rfl
theorem G45_110100110011001008_eq (Q : AEnd → AH → Prop) (n : Nat) (x0 x1 x6 x7 x15 x16 x53 x60 : V) (h : AH) : G45_110100110011001008 Q n x0 x1 x6 x7 x15 x16 x53 x60 h = (
  bindV (aPick x53 (V.bool true) x60 h) fun v39 h40 =>
  Meet (J45_11010011001101 Q n x0 x1 x6 x7 x15 x16 v39 h40)) := by kernel_rfl
theorem G45_110100110011001006_eq (Q : AEnd → AH → Prop) (n : Nat) (x0 x1 x6 x7 x15 x16 x46 x51 : V) (h : AH) : G45_110100110011001006 Q n x0 x1 x6 x7 x15 x16 x46 x51 h = (
  bindV (aPick x46 (V.bool true) x51 h) fun v37 h38 =>
  vcG v37 false (
  bindV (still (aFieldAddr Pg 73 x6 4) h38) fun v62 h63 =>
  bindV (aLoadV Pg h63 71 v62) fun v64 h65 =>
  bindV (aBuiltin Pg h65 .len [71] [v64]) fun v66 h67 =>
  bindV (still (aFieldAddr Pg 73 x7 4) h67) fun v68 h69 =>
  bindV (aLoadV Pg h69 71 v68) fun v70 h71 =>
  bindV (aBuiltin Pg h71 .len [71] [v70]) fun v72 h73 =>
  bindV (still (aBin Pg .neq 3 v66 v72 false) h73) fun v74 h75 =>
  Meet (G45_110100110011001008 Q n x0 x1 x6 x7 x15 x16 v37 v74 h75)) (Meet (G45_110100110011001008 Q n x0 x1 x6 x7 x15 x16 v37 hole h38))) := by kernel_rfl
theorem G45_110100110011001004_eq (Q : AEnd → AH → Prop) (n : Nat) (x0 x1 x6 x7 x15 x16 x39 x44 : V) (h : AH) : G45_110100110011001004 Q n x0 x1 x6 x7 x15 x16 x39 x44 h = (
  bindV (aPick x39 (V.bool true) x44 h) fun v35 h36 =>
  vcG v35 false (
  bindV (still (aFieldAddr Pg 73 x6 3) h36) fun v76 h77 =>
  bindV (aLoadV Pg h77 57 v76) fun v78 h79 =>
  bindV (still (aFieldAddr Pg 73 x7 3) h79) fun v80 h81 =>
  bindV (aLoadV Pg h81 57 v80) fun v82 h83 =>
  bindV (still (aBin Pg .neq 57 v78 v82 false) h83) fun v84 h85 =>
  Meet (G45_110100110011001006 Q n x0 x1 x6 x7 x15 x16 v35 v84 h85)) (Meet (G45_110100110011001006 Q n x0 x1 x6 x7 x15 x16 v35 hole h36))) := by kernel_rfl
theorem G45_110100110011001002_eq (Q : AEnd → AH → Prop) (n : Nat) (x0 x1 x6 x7 x15 x16 x32 x37 : V) (h : AH) : G45_110100110011001002 Q n x0 x1 x6 x7 x15 x16 x32 x37 h = (
  bindV (aPick x32 (V.bool true) x37 h) fun v33 h34 =>
  vcG v33 false (
  bindV (still (aFieldAddr Pg 73 x6 2) h34) fun v86 h87 =>
  bindV (aLoadV Pg h87 3 v86) fun v88 h89 =>
  bindV (still (aFieldAddr Pg 73 x7 2) h89) fun v90 h91 =>
  bindV (aLoadV Pg h91 3 v90) fun v92 h93 =>
  bindV (still (aBin Pg .neq 3 v88 v92 false) h93) fun v94 h95 =>
  Meet (G45_110100110011001004 Q n x0 x1 x6 x7 x15 x16 v33 v94 h95)) (Meet (G45_110100110011001004 Q n x0 x1 x6 x7 x15 x16 v33 hole h34))) := by kernel_rfl
theorem J45_11010011_eq (Q : AEnd → AH → Prop) (n : Nat) (x0 x1 x15 x16 : V) (h : AH) : J45_11010011 Q n x0 x1 x15 x16 h = (
  bindO (fstV (still (aIndexAddr Pg 84 x0 x16) h)) fun v11 =>
  bindO (fstV (aLoadV Pg h 73 v11)) fun v12 =>
  (
  bindO (fstV (still (aIndexAddr Pg 84 x1 x16) h)) fun v13 =>
  bindO (fstV (aLoadV Pg h 73 v13)) fun v14 =>
  (
  floB h (floOp Pg (fun _ => .und) (.alloc 73)) fun v15 h16 => (aLoadV Pg h16 73 v13 = some (v14, h16)) ∧ (
  floB h16 (floOp Pg (fun _ => .und) (.alloc 73)) fun v17 h18 => (aLoadV Pg h18 73 v13 = some (v14, h18)) ∧ (
  bindV (aStoreV Pg h18 73 v15 v12) fun _ h20 => (aLoadV Pg h20 73 v13 = some (v14, h20)) ∧ (
  bindV (aStoreV Pg h20 73 v17 v14) fun _ h22 => (
  bindV (still (aFieldAddr Pg 73 v15 0) h22) fun v23 h24 =>
  bindV (aLoadV Pg h24 5 v23) fun v25 h26 =>
  bindV (still (aFieldAddr Pg 73 v17 0) h26) fun v27 h28 =>
  bindV (aLoadV Pg h28 5 v27) fun v29 h30 =>
  bindV (still (aBin Pg .neq 5 v25 v29 false) h30) fun v31 h32 =>
  vcG v31 false (
  bindV (still (aFieldAddr Pg 73 v15 1) h32) fun v96 h97 =>
  bindV (aLoadV Pg h97 3 v96) fun v98 h99 =>
  bindV (still (aFieldAddr Pg 73 v17 1) h99) fun v100 h101 =>
  bindV (aLoadV Pg h101 3 v100) fun v102 h103 =>
  bindV (still (aBin Pg .neq 3 v98 v102 false) h103) fun v104 h105 =>
  Meet (G45_110100110011001002 Q n x0 x1 v15 v17 x15 x16 v31 v104 h105)) (Meet (G45_110100110011001002 Q n x0 x1 v15 v17 x15 x16 v31 hole h32))))))))) := by kernel_rfl
theorem J45_111_eq (Q : AEnd → AH → Prop) (h : AH) : J45_111 Q h = (
  Q (.ret (V.bool true)) h) := by kernel_rfl
theorem L45_11010_eq (Q : AEnd → AH → Prop) (n : Nat) (x0 x1 x15 x16 : V) (h : AH) : L45_11010 Q (n + 1) x0 x1 x15 x16 h = (
  bindV (still (aBin Pg .lss 3 x16 x15 false) h) fun v9 h10 =>
  vcIf v9 (
  Meet (J45_11010011 Q n x0 x1 x15 x16 h10)) (
  Meet (J45_111 Q h10))) := by kernel_rfl
theorem J45_11_eq (Q : AEnd → AH → Prop) (x0 x1 : V) (h : AH) : J45_11 Q x0 x1 h = (
  bindV (aBuiltin Pg h .len [84] [x0]) fun v7 h8 =>
  ∃ n, Meet (L45_11010 Q n x0 x1 v7 (V.int .i64 0) h8)) := by kernel_rfl
theorem S45 (Q : AEnd → AH → Prop) (a0 a1 : V) (h : AH) : vc Pg N45 B45 K45 (vcRet Pg R45 Q) (initEnv 0 [a0, a1]) h = (
  bindV (aBuiltin Pg h .len [84] [a0]) fun v1 h2 =>
  bindV (aBuiltin Pg h2 .len [84] [a1]) fun v3 h4 =>
  bindV (still (aBin Pg .neq 3 v1 v3 false) h4) fun v5 h6 =>
  vcIf v5 (
  Q (.ret (V.bool false)) h6) (
  Meet (J45_11 Q a0 a1 h6))) := by kernel_rfl
theorem C45 (Q : AEnd → AH → Prop) (a0 a1 : V) (h : AH) (c :
  bindV (aBuiltin Pg h .len [84] [a0]) fun v1 h2 =>
  bindV (aBuiltin Pg h2 .len [84] [a1]) fun v3 h4 =>
  bindV (still (aBin Pg .neq 3 v1 v3 false) h4) fun v5 h6 =>
  vcIf v5 (
  Q (.ret (V.bool false)) h6) (
  Meet (J45_11 Q a0 a1 h6))) : ACalls Pg 45 [a0, a1] h Q :=
  acalls_of_vc okP Tryz.func45 (show Tryz.f45.body = some B45 from by kernel_rfl) K45 (by rw [← S45 Q a0 a1 h] at c; exact c)
noncomputable def B46 : Code := (Tryz.f46.body).getD .skip
def R46 : List ResultVar := [.tmp 2]
abbrev N46 : Nat := 35
def K46 : KT := (.seq .leaf (.seq .leaf (.join (.seq .leaf (.one (.loop (.join (.join (.reg [[0, 3, 4, 10, 12]]) (.two .leaf .leaf) [0, 3, 4, 13]) (.join (.one (.seq .leaf (.seq .leaf .leaf [0, 3, 4, 5]) [0, 3, 4, 5])) .leaf [0, 3, 4]) [0, 3, 4]) [0, 3, 4])) [0, 3, 4]) (.seq .leaf .leaf [2]) [3]) [0, 3]) [0])
def J46_11010011 (Q : AEnd → AH → Prop) (n : Nat) (x0 x3 x4 : V) (h : AH) : Prop := vcAt Pg N46 B46 K46 [1, 1, 0, 1, 0, 0, 1, 1] [n] (vcRet Pg R46 Q) [(0, x0), (3, x3), (4, x4)] h
def J46_1101001 (Q : AEnd → AH → Prop) (n : Nat) (x0 x3 x4 : V) (h : AH) : Prop := vcAt Pg N46 B46 K46 [1, 1, 0, 1, 0, 0, 1] [n] (vcRet Pg R46 Q) [(0, x0), (3, x3), (4, x4)] h
def J46_111 (Q : AEnd → AH → Prop) (x3 : V) (h : AH) : Prop := vcAt Pg N46 B46 K46 [1, 1, 1] [] (vcRet Pg R46 Q) [(3, x3)] h
def J46_11010001 (Q : AEnd → AH → Prop) (n : Nat) (x0 x3 x4 x13 : V) (h : AH) : Prop := vcAt Pg N46 B46 K46 [1, 1, 0, 1, 0, 0, 0, 1] [n] (vcRet Pg R46 Q) [(0, x0), (3, x3), (4, x4), (13, x13)] h
def G46_110100001002 (Q : AEnd → AH → Prop) (n : Nat) (x0 x3 x4 x10 x12 : V) (h : AH) : Prop := segAt Pg N46 B46 K46 [1, 1, 0, 1, 0, 0, 0, 0] 2 1 [n] (vcRet Pg R46 Q) [(0, x0), (3, x3), (4, x4), (10, x10), (12, x12)] h
def L46_11010 (Q : AEnd → AH → Prop) (n : Nat) (x0 x3 x4 : V) (h : AH) : Prop := loopAt Pg N46 B46 K46 [1, 1, 0, 1, 0] [] n (vcRet Pg R46 Q) [(0, x0), (3, x3), (4, x4)] h
theorem J46_11010011_eq (Q : AEnd → AH → Prop) (n : Nat) (x0 x3 x4 : V) (h : AH) : J46_11010011 Q n x0 x3 x4 h = (
  bindV (still (aBin Pg .add 3 x4 (V.int .i64 1) true) h) fun v43 h44 =>
  Meet (L46_11010 Q n x0 x3 v43 h44)) := by kernel_rfl
theorem J46_1101001_eq (Q : AEnd → AH → Prop) (n : Nat) (x0 x3 x4 : V) (h : AH) : J46_1101001 Q n x0 x3 x4 h = (
  bindV (still (aIndexAddr Pg 84 x0 x4) h) fun v7 h8 =>
  bindV (aLoadV Pg h8 73 v7) fun v9 h10 =>
  bindV (aAlloc Pg h10 73) fun v11 h12 =>
  bindV (aStoreV Pg h12 73 v11 v9) fun _ h14 =>
  bindV (aBuildSlice Pg h14 71 0 []) fun v15 h16 =>
  bindV (still (aFieldAddr Pg 73 v11 4) h16) fun v17 h18 =>
  bindV (aLoadV Pg h18 71 v17) fun v19 h20 =>
  bindV (still (aFieldAddr Pg 73 v11 4) h20) fun v21 h22 =>
  bindV (aLoadV Pg h22 71 v21) fun v23 h24 =>
  bindV (aBuiltin Pg h24 .len [71] [v23]) fun v25 h26 =>
  bindV (aBuiltin Pg h26 .min [3, 3] [v25, (V.int .i64 2100)]) fun v27 h28 =>
  bindV (still (aSlice Pg h28 71 v19 none (some v27)) h28) fun v29 h30 =>
  bindV (aBuiltin Pg h30 .append [71, 71] [v15, v29]) fun v31 h32 =>
  bindV (still (aFieldAddr Pg 73 v11 4) h32) fun v33 h34 =>
  bindV (aStoreV Pg h34 71 v33 v31) fun _ h36 =>
  bindV (aLoadV Pg h36 73 v11) fun v37 h38 =>
  bindV (aBuildSlice Pg h38 84 1 [(0, v37)]) fun v39 h40 =>
  bindV (aBuiltin Pg h40 .append [84, 84] [x3, v39]) fun v41 h42 =>
  Meet (J46_11010011 Q n x0 v41 x4 h42)) := by kernel_rfl
theorem J46_111_eq (Q : AEnd → AH → Prop) (x3 : V) (h : AH) : J46_111 Q x3 h = (
  Q (.ret x3) h) := by kernel_rfl
theorem J46_11010001_eq (Q : AEnd → AH → Prop) (n : Nat) (x0 x3 x4 x13 : V) (h : AH) : J46_11010001 Q n x0 x3 x4 x13 h = (
  vcIf x13 (
  Meet (J46_1101001 Q n x0 x3 x4 h)) (
  Meet (J46_111 Q x3 h))) := by kernel_rfl
theorem G46_110100001002_eq (Q : AEnd → AH → Prop) (n : Nat) (x0 x3 x4 x10 x12 : V) (h : AH) : G46_110100001002 Q n x0 x3 x4 x10 x12 h = (
  bindV (aPick x10 x12 (V.bool false) h) fun v5 h6 =>
  Meet (J46_11010001 Q n x0 x3 x4 v5 h6)) := by kernel_rfl
theorem L46_11010_eq (Q : AEnd → AH → Prop) (n : Nat) (x0 x3 x4 : V) (h : AH) : L46_11010 Q (n + 1) x0 x3 x4 h = (
  bindV (aBuiltin Pg h .len [84] [x0]) fun v1 h2 =>
  bindV (still (aBin Pg .lss 3 x4 v1 false) h2) fun v3 h4 =>
  vcG v3 true (
  bindV (still (aBin Pg .lss 3 x4 (V.int .i64 2100) true) h4) fun v45 h46 =>
  Meet (G46_110100001002 Q n x0 x3 x4 v3 v45 h46)) (Meet (G46_110100001002 Q n x0 x3 x4 v3 hole h4))) := by kernel_rfl
theorem S46 (Q : AEnd → AH → Prop) (a0 : V) (h : AH) : vc Pg N46 B46 K46 (vcRet Pg R46 Q) (initEnv 0 [a0]) h = (
  ∃ n, Meet (L46_11010 Q n a0 (V.slc none 0) (V.int .i64 0) h)) := by kernel_rfl
theorem C46 (Q : AEnd → AH → Prop) (a0 : V) (h : AH) (c :
  ∃ n, Meet (L46_11010 Q n a0 (V.slc none 0) (V.int .i64 0) h)) : ACalls Pg 46 [a0] h Q :=
  acalls_of_vc okP Tryz.func46 (show Tryz.f46.body = some B46 from by kernel_rfl) K46 (by rw [← S46 Q a0 h] at c; exact c)
noncomputable def B49 : Code := (Tryz.f49.body).getD .skip
def R49 : List ResultVar := [.tmp 2, .tmp 3]
abbrev N49 : Nat := 32
def K49 : KT := (.seq .leaf (.join (.seq .leaf (.two (.seq .leaf .leaf [2, 3]) .leaf) [0, 11]) (.seq .leaf (.join (.seq .leaf (.one (.loop (.seq .leaf (.join (.two .leaf .leaf) (.join (.one (.seq .leaf (.seq .leaf (.join (.seq .leaf (.two (.seq .leaf .leaf [2, 3]) .leaf) [4, 7, 12, 13, 14, 24]) (.seq .leaf (.seq .leaf (.two (.seq .leaf .leaf [2, 3]) .leaf) [4, 12, 13, 14, 29]) [4, 12, 13, 14]) [4, 7, 12, 13, 14]) [4, 7, 8, 12, 13, 14]) [4, 6, 12, 13, 14])) .leaf [4, 12, 13, 14]) [4, 12, 13, 14]) [4, 12, 13, 14, 15]) [4, 12, 13, 14])) [4, 12, 13, 14]) (.seq .leaf .leaf [2, 3]) [4]) [0, 4]) [0]) [0])
def J49_1110100111 (Q : AEnd → AH → Prop) (n : Nat) (x4 x12 x13 x14 : V) (h : AH) : Prop := vcAt Pg N49 B49 K49 [1, 1, 1, 0, 1, 0, 0, 1, 1, 1] [n] (vcRet Pg R49 Q) [(4, x4), (12, x12), (13, x13), (14, x14)] h
def J49_11101001100111 (Q : AEnd → AH → Prop) (n : Nat) (x4 x7 x12 x13 x14 : V) (h : AH) : Prop := vcAt Pg N49 B49 K49 [1, 1, 1, 0, 1, 0, 0, 1, 1, 0, 0, 1, 1, 1] [n] (vcRet Pg R49 Q) [(4, x4), (7, x7), (12, x12), (13, x13), (14, x14)] h
def J49_111010011 (Q : AEnd → AH → Prop) (n : Nat) (x4 x12 x13 x14 : V) (h : AH) : Prop := vcAt Pg N49 B49 K49 [1, 1, 1, 0, 1, 0, 0, 1, 1] [n] (vcRet Pg R49 Q) [(4, x4), (12, x12), (13, x13), (14, x14)] h
def J49_1111 (Q : AEnd → AH → Prop) (x4 : V) (h : AH) : Prop := vcAt Pg N49 B49 K49 [1, 1, 1, 1] [] (vcRet Pg R49 Q) [(4, x4)] h
def L49_111010 (Q : AEnd → AH → Prop) (n : Nat) (x4 x12 x13 x14 : V) (h : AH) : Prop := loopAt Pg N49 B49 K49 [1, 1, 1, 0, 1, 0] [] n (vcRet Pg R49 Q) [(4, x4), (12, x12), (13, x13), (14, x14)] h
def J49_11 (Q : AEnd → AH → Prop) (x0 : V) (h : AH) : Prop := vcAt Pg N49 B49 K49 [1, 1] [] (vcRet Pg R49 Q) [(0, x0)] h
theorem J49_1110100111_eq (Q : AEnd → AH → Prop) (n : Nat) (x4 x12 x13 x14 : V) (h : AH) : J49_1110100111 Q n x4 x12 x13 x14 h = (
  bindV (still (aBin Pg .add 3 x14 (V.int .i64 1) true) h) fun v37 h38 =>
  Meet (L49_111010 Q n x4 x12 x13 v37 h38)) := by kernel_rfl
theorem J49_11101001100111_eq (Q : AEnd → AH → Prop) (n : Nat) (x4 x7 x12 x13 x14 : V) (h : AH) : J49_11101001100111 Q n x4 x7 x12 x13 x14 h = (
  bindV (still (aBin Pg .add 9 x7 (V.str [10]) true) h) fun v29 h30 =>
  ACalls Pg 123 [x4, v29] h30 (aEnd (fun v31 h32 =>
  ACalls Pg 124 [x4] h32 (aEnd (fun v33 h34 =>
  bindV (still (aBin Pg .gtr 3 v33 (V.int .i64 131072) true) h34) fun v35 h36 =>
  vcIf v35 (
  Q (.ret (V.tup [(V.str []), (V.int .i64 10)])) h36) (
  Meet (J49_1110100111 Q n x4 x12 x13 x14 h36))) fun v h => Q (.panic v) h)) fun v h => Q (.panic v) h)) := by kernel_rfl
theorem J49_111010011_eq (Q : AEnd → AH → Prop) (n : Nat) (x4 x12 x13 x14 : V) (h : AH) : J49_111010011 Q n x4 x12 x13 x14 h = (
  bindV (still (aIndexAddr Pg 84 x12 x14) h) fun v11 h12 =>
  bindV (aLoadV Pg h12 73 v11) fun v13 h14 =>
  bindV (aAlloc Pg h14 73) fun v15 h16 =>
  bindV (aStoreV Pg h16 73 v15 v13) fun _ h18 =>
  bindV (aLoadV Pg h18 73 v15) fun v19 h20 =>
  ACalls Pg 122 [v19] h20 (aEnd (fun v21 h22 =>
  bindV (still (aExtract v21 0) h22) fun v23 h24 =>
  bindV (still (aExtract v21 1) h24) fun v25 h26 =>
  bindV (still (aUn .not v25) h26) fun v27 h28 =>
  vcIf v27 (
  Q (.ret (V.tup [(V.str []), (V.int .i64 1)])) h28) (
  Meet (J49_11101001100111 Q n x4 v23 x12 x13 x14 h28))) fun v h => Q (.panic v) h)) := by kernel_rfl
theorem J49_1111_eq (Q : AEnd → AH → Prop) (x4 : V) (h : AH) : J49_1111 Q x4 h = (
  ACalls Pg 125 [x4] h (aEnd (fun v39 h40 =>
  Q (.ret (V.tup [v39, (V.int .i64 0)])) h40) fun v h => Q (.panic v) h)) := by kernel_rfl
theorem L49_111010_eq (Q : AEnd → AH → Prop) (n : Nat) (x4 x12 x13 x14 : V) (h : AH) : L49_111010 Q (n + 1) x4 x12 x13 x14 h = (
  bindV (still (aBin Pg .lss 3 x14 x13 false) h) fun v9 h10 =>
  vcIf v9 (
  Meet (J49_111010011 Q n x4 x12 x13 x14 h10)) (
  Meet (J49_1111 Q x4 h10))) := by kernel_rfl
theorem J49_11_eq (Q : AEnd → AH → Prop) (x0 : V) (h : AH) : J49_11 Q x0 h = (
  bindV (aAlloc Pg h 233) fun v5 h6 =>
  bindV (aBuiltin Pg h6 .len [84] [x0]) fun v7 h8 =>
  ∃ n, Meet (L49_111010 Q n v5 x0 v7 (V.int .i64 0) h8)) := by kernel_rfl
theorem S49 (Q : AEnd → AH → Prop) (a0 : V) (h : AH) : vc Pg N49 B49 K49 (vcRet Pg R49 Q) (initEnv 0 [a0]) h = (
  bindV (aBuiltin Pg h .len [84] [a0]) fun v1 h2 =>
  bindV (still (aBin Pg .gtr 3 v1 (V.int .i64 2000) true) h2) fun v3 h4 =>
  vcIf v3 (
  Q (.ret (V.tup [(V.str []), (V.int .i64 10)])) h4) (
  Meet (J49_11 Q a0 h4))) := by kernel_rfl
theorem C49 (Q : AEnd → AH → Prop) (a0 : V) (h : AH) (c :
  bindV (aBuiltin Pg h .len [84] [a0]) fun v1 h2 =>
  bindV (still (aBin Pg .gtr 3 v1 (V.int .i64 2000) true) h2) fun v3 h4 =>
  vcIf v3 (
  Q (.ret (V.tup [(V.str []), (V.int .i64 10)])) h4) (
  Meet (J49_11 Q a0 h4))) : ACalls Pg 49 [a0] h Q :=
  acalls_of_vc okP Tryz.func49 (show Tryz.f49.body = some B49 from by kernel_rfl) K49 (by rw [← S49 Q a0 h] at c; exact c)
noncomputable def B50 : Code := (Tryz.f50.body).getD .skip
def R50 : List ResultVar := [.tmp 2, .tmp 3]
abbrev N50 : Nat := 35
def K50 : KT := (.seq .leaf (.join (.seq .leaf (.two (.seq .leaf .leaf [2, 3]) .leaf) [0, 10]) (.seq .leaf (.join (.seq .leaf (.one (.loop (.join (.seq .leaf (.two .leaf .leaf) [0, 4, 5, 14]) (.join (.one (.seq .leaf (.join (.seq .leaf (.two (.seq .leaf .leaf [2, 3]) .leaf) [0, 4, 5, 6, 26]) (.seq .leaf (.seq .leaf (.two (.seq .leaf .leaf [2, 3]) .leaf) [0, 4, 5, 33]) [0, 4, 5]) [0, 4, 5, 6]) [0, 4, 5, 6, 7])) .leaf [0, 4, 5]) [0, 4, 5]) [0, 4, 5])) [0, 4, 5]) (.seq .leaf .leaf [2, 3]) [4]) [0, 4]) [0]) [0])
def J50_111010011 (Q : AEnd → AH → Prop) (n : Nat) (x0 x4 x5 : V) (h : AH) : Prop := vcAt Pg N50 B50 K50 [1, 1, 1, 0, 1, 0, 0, 1, 1] [n] (vcRet Pg R50 Q) [(0, x0), (4, x4), (5, x5)] h
def J50_111010010011 (Q : AEnd → AH → Prop) (n : Nat) (x0 x4 x5 x6 : V) (h : AH) : Prop := vcAt Pg N50 B50 K50 [1, 1, 1, 0, 1, 0, 0, 1, 0, 0, 1, 1] [n] (vcRet Pg R50 Q) [(0, x0), (4, x4), (5, x5), (6, x6)] h
def J50_11101001 (Q : AEnd → AH → Prop) (n : Nat) (x0 x4 x5 : V) (h : AH) : Prop := vcAt Pg N50 B50 K50 [1, 1, 1, 0, 1, 0, 0, 1] [n] (vcRet Pg R50 Q) [(0, x0), (4, x4), (5, x5)] h
def J50_1111 (Q : AEnd → AH → Prop) (x4 : V) (h : AH) : Prop := vcAt Pg N50 B50 K50 [1, 1, 1, 1] [] (vcRet Pg R50 Q) [(4, x4)] h
def L50_111010 (Q : AEnd → AH → Prop) (n : Nat) (x0 x4 x5 : V) (h : AH) : Prop := loopAt Pg N50 B50 K50 [1, 1, 1, 0, 1, 0] [] n (vcRet Pg R50 Q) [(0, x0), (4, x4), (5, x5)] h
def J50_11 (Q : AEnd → AH → Prop) (x0 : V) (h : AH) : Prop := vcAt Pg N50 B50 K50 [1, 1] [] (vcRet Pg R50 Q) [(0, x0)] h
theorem J50_111010011_eq (Q : AEnd → AH → Prop) (n : Nat) (x0 x4 x5 : V) (h : AH) : J50_111010011 Q n x0 x4 x5 h = (
  bindV (still (aBin Pg .add 3 x5 (V.int .i64 1) true) h) fun v29 h30 =>
  Meet (L50_111010 Q n x0 x4 v29 h30)) := by kernel_rfl
theorem J50_111010010011_eq (Q : AEnd → AH → Prop) (n : Nat) (x0 x4 x5 x6 : V) (h : AH) : J50_111010010011 Q n x0 x4 x5 x6 h = (
  bindV (still (aBin Pg .add 9 x6 (V.str [10]) true) h) fun v21 h22 =>
  bindV (still (aBin Pg .add 9 x4 v21 false) h22) fun v23 h24 =>
  bindV (aBuiltin Pg h24 .len [9] [v23]) fun v25 h26 =>
  bindV (still (aBin Pg .gtr 3 v25 (V.int .i64 131072) true) h26) fun v27 h28 =>
  vcIf v27 (
  Q (.ret (V.tup [(V.str []), (V.int .i64 10)])) h28) (
  Meet (J50_111010011 Q n x0 v23 x5 h28))) := by kernel_rfl
theorem J50_11101001_eq (Q : AEnd → AH → Prop) (n : Nat) (x0 x4 x5 : V) (h : AH) : J50_11101001 Q n x0 x4 x5 h = (
  bindV (still (aIndexAddr Pg 84 x0 x5) h) fun v9 h10 =>
  bindV (aLoadV Pg h10 73 v9) fun v11 h12 =>
  ACalls Pg 126 [v11] h12 (aEnd (fun v13 h14 =>
  bindV (still (aExtract v13 0) h14) fun v15 h16 =>
  bindV (still (aExtract v13 1) h16) fun v17 h18 =>
  bindV (still (aUn .not v17) h18) fun v19 h20 =>
  vcIf v19 (
  Q (.ret (V.tup [(V.str []), (V.int .i64 1)])) h20) (
  Meet (J50_111010010011 Q n x0 x4 x5 v15 h20))) fun v h => Q (.panic v) h)) := by kernel_rfl
theorem J50_1111_eq (Q : AEnd → AH → Prop) (x4 : V) (h : AH) : J50_1111 Q x4 h = (
  Q (.ret (V.tup [x4, (V.int .i64 0)])) h) := by kernel_rfl
theorem L50_111010_eq (Q : AEnd → AH → Prop) (n : Nat) (x0 x4 x5 : V) (h : AH) : L50_111010 Q (n + 1) x0 x4 x5 h = (
  bindV (aBuiltin Pg h .len [84] [x0]) fun v5 h6 =>
  bindV (still (aBin Pg .lss 3 x5 v5 false) h6) fun v7 h8 =>
  vcIf v7 (
  Meet (J50_11101001 Q n x0 x4 x5 h8)) (
  Meet (J50_1111 Q x4 h8))) := by kernel_rfl
theorem J50_11_eq (Q : AEnd → AH → Prop) (x0 : V) (h : AH) : J50_11 Q x0 h = (
  ∃ n, Meet (L50_111010 Q n x0 (V.str []) (V.int .i64 0) h)) := by kernel_rfl
theorem S50 (Q : AEnd → AH → Prop) (a0 : V) (h : AH) : vc Pg N50 B50 K50 (vcRet Pg R50 Q) (initEnv 0 [a0]) h = (
  bindV (aBuiltin Pg h .len [84] [a0]) fun v1 h2 =>
  bindV (still (aBin Pg .gtr 3 v1 (V.int .i64 2000) true) h2) fun v3 h4 =>
  vcIf v3 (
  Q (.ret (V.tup [(V.str []), (V.int .i64 10)])) h4) (
  Meet (J50_11 Q a0 h4))) := by kernel_rfl
theorem C50 (Q : AEnd → AH → Prop) (a0 : V) (h : AH) (c :
  bindV (aBuiltin Pg h .len [84] [a0]) fun v1 h2 =>
  bindV (still (aBin Pg .gtr 3 v1 (V.int .i64 2000) true) h2) fun v3 h4 =>
  vcIf v3 (
  Q (.ret (V.tup [(V.str []), (V.int .i64 10)])) h4) (
  Meet (J50_11 Q a0 h4))) : ACalls Pg 50 [a0] h Q :=
  acalls_of_vc okP Tryz.func50 (show Tryz.f50.body = some B50 from by kernel_rfl) K50 (by rw [← S50 Q a0 h] at c; exact c)
end Go.Proofs.YtcglbpjpbjaecaaGreat.Sh
namespace Go.Proofs.YtcglbpjpbjaecaaGreat.Sh
open Go Go.Ab Go.RowKit
open Go.Proofs.YtcglbpjpbjaecaaGreat.Ru (Pg okP)
open Go.Proofs.YtcglbpjpbjaecaaGreat.Sj (bp BldF writeF stringF lenP bldF_new)
set_option maxRecDepth 10000
theorem z73 : zeroV Pg 73 = some (.agg [(.int .u8 0), (.int .i64 0), (.int .i64 0), (.agg [(.int .u8 0), (.int .u64 0), (.int .u16 0), (.int .i64 0), (.str [])]), (.slc none 0)]) := by kernel_rfl
theorem zs73 : hasShape Pg (.agg [(.int .u8 0), (.int .i64 0), (.int .i64 0), (.agg [(.int .u8 0), (.int .u64 0), (.int .u16 0), (.int .i64 0), (.str [])]), (.slc none 0)]) 73 = true := by kernel_rfl
theorem z233 : zeroV Pg 233 = some (.agg [(.ptr none), (.slc none 0)]) := by kernel_rfl
theorem zs233 : hasShape Pg (.agg [(.ptr none), (.slc none 0)]) 233 = true := by kernel_rfl
section
variable (l : List Ev) (hl : l.length ≤ 2000) (hok : ∀ e ∈ l, e.ok) {v : V} {h0 : AH} {x : V} (hsc : ScrB h0 x l)
include hl hok hsc
theorem loop49 {nb : Nat} : ∀ (j i : Nat) (out : List UInt8) (h : AH) (m : Nat), i ≤ l.length → l.length - i = j → j < m → out.length ≤ 131072 → BldF h nb out h0.next → h0.next ≤ nb ∧ nb < h.next → h0.next ≤ h.next → (∀ n, n < h0.next → h.m n = h0.m n) → prV (printL (l.drop i) out) = v → L49_111010 (Ends v h0) m (bp nb) x (.int .i64 l.length) (.int .i64 i) h := by
  obtain ⟨ax, hax⟩ := hsc.shape
  intro j
  induction j with
  | zero =>
    intro i out h m hi hj hm ho hB hnb hn fr hv
    obtain ⟨m, rfl⟩ : ∃ j, m = j + 1 := ⟨m - 1, by omega⟩
    rw [List.drop_of_length_le (by omega), printL] at hv
    rw [L49_111010_eq]
    refine bindS_mk (b_lss) ?_
    refine i_split (fun c1 => ?_) (fun c1 => ?_)
    · try rw [c1]
      replace c1 := of_decide_eq_true c1
      exfalso; omega
    · try rw [c1]
      replace c1 := of_decide_eq_false c1
      refine Meet.of (cast_p (J49_1111_eq _ _ _) ?_)
      refine callQ (stringF nb h0.next out (by omega) hB) fun h2 q2 => ?_
      have fS2 := fun k (hk : k < h0.next) => (q2.2 k hk).trans (fr k hk)
      exact ⟨congrArg AEnd.ret hv, fS2⟩
  | succ j ih =>
    intro i out h m hi hj hm ho hB hnb hn fr hv
    obtain ⟨m, rfl⟩ : ∃ j, m = j + 1 := ⟨m - 1, by omega⟩
    obtain ⟨e, he⟩ : ∃ e, l[i]? = some e := ⟨l[i]'(by omega), List.getElem?_eq_getElem (by omega)⟩
    have ok : e.ok := hok e (List.mem_of_getElem? he)
    have hd : l.drop i = e :: l.drop (i + 1) := drop_at' he
    obtain ⟨nS, xs, k, hnS, hx0, hS0, hx, hk⟩ := hsc.at he
    obtain ⟨a, rfl⟩ := hk.shape
    have hS := (fr nS hnS).trans hS0
    rw [L49_111010_eq]
    refine bindS_mk (b_lss) ?_
    refine (show decide (((i : Nat) : Int) < ((l.length : Nat) : Int)) = true from decide_eq_true (by omega)) ▸ i_t ?_
    subst hx0
    refine Meet.of ?_
    rw [J49_111010011_eq]
    refine bindS_mk (ia_slc _ (by kernel_rfl) (by omega) (by omega)) ?_
    refine bindV_mk (ld_mk hS (by kernel_rfl) (getV_row (by rw [show 0 + ((i : Nat) : Int).toNat = i by omega]; exact hx))) ?_
    refine bindE (al_at z73 zs73) fun h1 u1 => ?_
    have n1 := u1.next
    have fFR_1 := fun k (hk : k < h0.next) => (u1.other k (by omega)).trans (fr k hk)
    have fF2_1 := fun k (hk : k < h.next) => (u1.other k (by omega)).trans ((fun n (_ : n < h.next) => rfl) k hk)
    have fS_1 := (u1.other _ (by omega)).trans hS
    have f1_1 := u1.at_
    refine bindE (st_at f1_1 (by kernel_rfl) rfl (s73 e a _) rfl) fun h2 u2 => ?_
    have n2 := u2.next
    have fFR_2 := fun k (hk : k < h0.next) => (u2.other k (by omega)).trans (fFR_1 k hk)
    have fF2_2 := fun k (hk : k < h.next) => (u2.other k (by omega)).trans (fF2_1 k hk)
    have fS_2 := (u2.other _ (by omega)).trans fS_1
    have f1_2 := u2.at_
    refine bindV_mk (ld_mk f1_2 (by kernel_rfl) rfl) ?_
    refine callS (lineP e ok (hk.keep (by omega) fFR_2)) ?_
    refine bindS_mk (show aExtract _ _ = some _ from rfl) ?_
    refine bindS_mk (show aExtract _ _ = some _ from rfl) ?_
    refine bindS_mk (u_not) ?_
    refine i_split (fun c3 => ?_) (fun c3 => ?_)
    · try rw [c3]
      have hf : ¬ e.fine := of_decide_eq_false (by simpa only [Bool.not_eq_true'] using c3)
      rw [hd, printL, if_neg hf] at hv
      first | rw [if_pos (by simp at *; omega)] at hv | skip
      exact ⟨congrArg AEnd.ret hv, fFR_2⟩
    · try rw [c3]
      have hf : e.fine := of_decide_eq_true (by simpa only [Bool.not_eq_false'] using c3)
      rw [hd, printL, if_pos hf] at hv
      rw [if_pos hf]
      refine Meet.of (cast_p (J49_11101001100111_eq _ _ _ _ _ _ _ _) ?_)
      refine bindS_mk (t_add (by have := txt_len ok hf; simp; omega)) ?_
      have htl := txt_len ok hf
      refine callQ (writeF nb h0.next out (e.txt ++ [10]) (by simp) (by simp; omega) (hB.keep (by omega) fF2_2) (by omega)) fun h4 q4 => ?_
      obtain ⟨hB4, hn4, fw4⟩ := q4
      have fS4 := fun k (hk : k < h0.next) => (fw4 k hk).trans (fFR_2 k hk)
      refine callS (lenP nb _ hB4.bld) ?_
      refine bindS_mk (b_gtr) ?_
      refine i_split (fun c5 => ?_) (fun c5 => ?_)
      · try rw [c5]
        replace c5 := of_decide_eq_true c5
        first | rw [if_pos (by simp at *; omega)] at hv | skip
        exact ⟨congrArg AEnd.ret hv, fS4⟩
      · try rw [c5]
        replace c5 := of_decide_eq_false c5
        refine Meet.of (cast_p (J49_1110100111_eq _ _ _ _ _ _ _) ?_)
        first | refine bindS_mk (w_add (by first | exact wrap_i64 (by omega) (by omega) | exact wr_u8 (by omega) (by omega) | exact wr_u16 (by omega) (by omega) | exact wr_u32 (by omega) (by omega) | exact wr_u64 (by omega) (by omega))) ?_ | refine bindS_mk (b_add) ?_
        rw [if_neg (by simp at *; omega)] at hv
        refine Meet.of ((congrArg (fun y : Int => L49_111010 (Ends v h0) m (bp nb) _ (.int .i64 l.length) (.int .i64 y) _) (show ((i : Nat) : Int) + 1 = ((i + 1 : Nat) : Int) by omega)).mpr (ih (i + 1) _ _ m (by omega) (by omega) (by omega) (by simp at *; omega) hB4 (by omega) (by omega) fS4 hv))
end
theorem prV_old (x : List UInt8 × Int) (m : Nat → Bool) : oldV m (prV x) = true := rfl
theorem printP (l : List Ev) (hok : ∀ e ∈ l, e.ok) {h0 : AH} {x : V} (hsc : ScrB h0 x l) : ACalls Pg 49 [x] h0 (pureE (prV (printF l)) h0) := by
  refine acalls_forget (prV_old _ _) ?_
  show ACalls Pg 49 [x] h0 (Ends (prV (printF l)) h0)
  obtain ⟨ax, rfl⟩ := hsc.shape
  refine C49 _ _ _ ?_
  refine bindV_mk (len_slc (by kernel_rfl)) ?_
  refine bindS_mk (b_gtr) ?_
  refine i_split (fun c1 => ?_) (fun c1 => ?_)
  · try rw [c1]
    replace c1 := of_decide_eq_true c1
    rw [printF, if_pos (by omega)]; exact ⟨rfl, (fun n (_ : n < h0.next) => rfl)⟩
  · try rw [c1]
    replace c1 := of_decide_eq_false c1
    refine Meet.of (cast_p (J49_11_eq _ _ _) ?_)
    refine bindE (al_at z233 zs233) fun h2 u2 => ?_
    have n2 := u2.next
    have fFR_2 := fun k (hk : k < h0.next) => (u2.other k (by omega)).trans ((fun n (_ : n < h0.next) => rfl) k hk)
    have f2_2 := u2.at_
    refine bindV_mk (len_slc (by kernel_rfl)) ?_
    rw [printF, if_neg (by omega)]
    exact ⟨l.length + 1, Meet.of (loop49 l (by omega) hok hsc l.length 0 [] _ _ (by omega) (by omega) (by omega) (by simp) (bldF_new (by omega) f2_2) (by omega) (by omega) fFR_2 rfl)⟩
end Go.Proofs.YtcglbpjpbjaecaaGreat.Sh
namespace Go.Proofs.YtcglbpjpbjaecaaGreat.Sh
open Go Go.Ab Go.RowKit
open Go.Proofs.YtcglbpjpbjaecaaGreat.Ru (Pg okP)
set_option maxRecDepth 10000
section
variable (l : List Ev) (hl : l.length ≤ 2000) (hok : ∀ e ∈ l, e.ok) (hkl : ∀ e ∈ l, e.keep.length ≤ 100000) {v : V} {h : AH} {x : V} (hsc : ScrB h x l)
include hl hok hkl hsc
theorem loop50 : ∀ (j i : Nat) (out : List UInt8) (m : Nat), i ≤ l.length → l.length - i = j → j < m → out.length ≤ 131072 → prV (printL (l.drop i) out) = v → L50_111010 (pureE v h) m x (.str out) (.int .i64 i) h := by
  obtain ⟨ax, rfl⟩ := hsc.shape
  intro j
  induction j with
  | zero =>
    intro i out m hi hj hm ho hv
    obtain ⟨m, rfl⟩ : ∃ j, m = j + 1 := ⟨m - 1, by omega⟩
    rw [List.drop_of_length_le (by omega), printL] at hv
    rw [L50_111010_eq]
    refine bindV_mk (len_slc (by kernel_rfl)) ?_
    refine bindS_mk (b_lss) ?_
    refine i_split (fun c1 => ?_) (fun c1 => ?_)
    · try rw [c1]
      replace c1 := of_decide_eq_true c1
      exfalso; omega
    · try rw [c1]
      replace c1 := of_decide_eq_false c1
      refine Meet.of (cast_p (J50_1111_eq _ _ _) ?_)
      exact ⟨hv, rfl⟩
  | succ j ih =>
    intro i out m hi hj hm ho hv
    obtain ⟨m, rfl⟩ : ∃ j, m = j + 1 := ⟨m - 1, by omega⟩
    obtain ⟨e, he⟩ : ∃ e, l[i]? = some e := ⟨l[i]'(by omega), List.getElem?_eq_getElem (by omega)⟩
    have ok : e.ok := hok e (List.mem_of_getElem? he)
    have hd : l.drop i = e :: l.drop (i + 1) := drop_at' he
    obtain ⟨nS, xs, k, hnS, hx0, hS, hx, hk⟩ := hsc.at he
    rw [L50_111010_eq]
    refine bindV_mk (len_slc (by kernel_rfl)) ?_
    refine bindS_mk (b_lss) ?_
    refine (show decide (((i : Nat) : Int) < ((l.length : Nat) : Int)) = true from decide_eq_true (by omega)) ▸ i_t ?_
    obtain ⟨rfl, _⟩ := V.slc.injEq .. ▸ hx0
    refine Meet.of ?_
    rw [J50_11101001_eq]
    refine bindS_mk (ia_slc _ (by kernel_rfl) (by omega) (by omega)) ?_
    refine bindV_mk (ld_mk hS (by kernel_rfl) (getV_row (by rw [show 0 + ((i : Nat) : Int).toNat = i by omega]; exact hx))) ?_
    refine callS (lineRP e ok hk (hkl e (List.mem_of_getElem? he))) ?_
    refine bindS_mk (show aExtract _ _ = some _ from rfl) ?_
    refine bindS_mk (show aExtract _ _ = some _ from rfl) ?_
    refine bindS_mk (u_not) ?_
    refine i_split (fun c1 => ?_) (fun c1 => ?_)
    · try rw [c1]
      have hf : ¬ e.fine := of_decide_eq_false (by simpa only [Bool.not_eq_true'] using c1)
      rw [hd, printL, if_neg hf] at hv
      first | rw [if_pos (by simp at *; omega)] at hv | skip
      exact ⟨hv, rfl⟩
    · try rw [c1]
      have hf : e.fine := of_decide_eq_true (by simpa only [Bool.not_eq_false'] using c1)
      rw [hd, printL, if_pos hf] at hv
      rw [if_pos (fine_pre hf)]
      have htl := txt_len ok hf
      refine Meet.of (cast_p (J50_111010010011_eq _ _ _ _ _ _ _) ?_)
      refine bindS_mk (t_add (by simp; omega)) ?_
      refine bindS_mk (t_add (by simp; omega)) ?_
      refine bindV_mk (len_str (by kernel_rfl)) ?_
      refine bindS_mk (b_gtr) ?_
      refine i_split (fun c2 => ?_) (fun c2 => ?_)
      · try rw [c2]
        replace c2 := of_decide_eq_true c2
        first | rw [if_pos (by simp at *; omega)] at hv | skip
        exact ⟨hv, rfl⟩
      · try rw [c2]
        replace c2 := of_decide_eq_false c2
        refine Meet.of (cast_p (J50_111010011_eq _ _ _ _ _ _) ?_)
        first | refine bindS_mk (w_add (by first | exact wrap_i64 (by omega) (by omega) | exact wr_u8 (by omega) (by omega) | exact wr_u16 (by omega) (by omega) | exact wr_u32 (by omega) (by omega) | exact wr_u64 (by omega) (by omega))) ?_ | refine bindS_mk (b_add) ?_
        rw [if_neg (by simp at *; omega)] at hv
        refine Meet.of ((congrArg (fun y : Int => L50_111010 (pureE v h) m _ _ (.int .i64 y) _) (show ((i : Nat) : Int) + 1 = ((i + 1 : Nat) : Int) by omega)).mpr (ih (i + 1) _ m (by omega) (by omega) (by omega) (by simp at *; omega) hv))
end
theorem printRP (l : List Ev) (hok : ∀ e ∈ l, e.ok) (hkl : ∀ e ∈ l, e.keep.length ≤ 100000) {h : AH} {x : V} (hsc : ScrB h x l) : ACalls Pg 50 [x] h (pureE (prV (printF l)) h) := by
  obtain ⟨ax, rfl⟩ := hsc.shape
  refine C50 _ _ _ ?_
  refine bindV_mk (len_slc (by kernel_rfl)) ?_
  refine bindS_mk (b_gtr) ?_
  refine i_split (fun c1 => ?_) (fun c1 => ?_)
  · try rw [c1]
    replace c1 := of_decide_eq_true c1
    rw [printF, if_pos (by omega)]; exact ⟨rfl, rfl⟩
  · try rw [c1]
    replace c1 := of_decide_eq_false c1
    refine Meet.of (cast_p (J50_11_eq _ _ _) ?_)
    rw [printF, if_neg (by omega)]
    exact ⟨l.length + 1, Meet.of (loop50 l (by omega) hok hkl hsc l.length 0 [] _ (by omega) (by omega) (by omega) (by simp) rfl)⟩
end Go.Proofs.YtcglbpjpbjaecaaGreat.Sh
namespace Go.Proofs.YtcglbpjpbjaecaaGreat.Sh
open Go Go.Ab Go.RowKit
open Go.Proofs.YtcglbpjpbjaecaaGreat.Ru (Pg okP)
set_option maxRecDepth 10000
def RowB (e : TypeId) (h : AH) (x : V) (xs : List V) : Prop :=
  (x = .slc none 0 ∧ xs = []) ∨ ∃ n, n < h.next ∧ x = .slc (some (⟨n, .row e, []⟩, 0)) xs.length ∧ h.m n = some (.cells true (.row e) (.agg xs))
def Young (e b0 : Nat) (x : V) : Prop := ∀ k, k < b0 → ∀ len, x ≠ .slc (some (⟨k, .row e, []⟩, 0)) len
theorem RowB.app {e t xt : TypeId} {h : AH} {x y : V} {xs ws : List V} (b : RowB e h x xs) (hc : apOk Pg t xt e = true) (hy : aElems Pg h e y = some ws) (hw : ws ≠ []) (hl : (xs.length + ws.length) * Pg.bytesOf e ≤ 140737488355328) :
    ∃ v h', aBuiltin Pg h .append [t, xt] [x, y] = some (v, h') ∧ RowB e h' v (xs ++ ws) ∧ h'.next = h.next + 1 ∧ (∀ k, k < h.next → (∀ len, x ≠ .slc (some (⟨k, .row e, []⟩, 0)) len) → h'.m k = h.m k) ∧ Young e h.next v := by
  rcases b with ⟨rfl, rfl⟩ | ⟨n, h1, rfl, h3⟩
  · obtain ⟨h', e1, u⟩ := apN_at (n := 0) hc hy hw (by simpa using hl)
    refine ⟨_, h', e1, .inr ⟨h.next, by rw [u.next]; omega, rfl, u.at_⟩, u.next, fun k hk _ => u.other k hk, fun k hk len q => ?_⟩
    simp only [V.slc.injEq, Option.some.injEq, Prod.mk.injEq, PA.mk.injEq] at q
    omega
  · obtain ⟨h', e1, u⟩ := apR_at (i := 0) (n := xs.length) hc h1 h3 (by omega) hy hw hl
    refine ⟨_, h', e1, .inr ⟨h.next, by rw [u.next]; omega, by rw [List.length_append], ?_⟩, u.next, fun k hk hne => u.other k hk (fun q => by subst q; exact hne _ rfl), fun k hk len q => ?_⟩
    · rw [u.at_, List.drop_zero, List.take_of_length_le (by omega)]
    · simp only [V.slc.injEq, Option.some.injEq, Prod.mk.injEq, PA.mk.injEq] at q
      omega
theorem keepB_row {h : AH} {k : V} {l : List Bool} (b : RowB 4 h k (boolsV l)) : KeepB h k l := by
  rcases b with ⟨rfl, h2⟩ | ⟨n, h1, rfl, h3⟩
  · refine .inl ⟨rfl, ?_⟩
    cases l with
    | nil => rfl
    | cons a l => cases h2
  · exact .inr ⟨n, h1, by rw [boolsV_len], h3⟩
theorem KeepB.keepT {h h' : AH} {k : V} {l : List Bool} (b : KeepB h k l) (hn : h.next ≤ h'.next) (hk : ∀ n xs, n < h.next → h.m n = some (.cells true (.row 4) xs) → h'.m n = h.m n) : KeepB h' k l := by
  rcases b with ⟨rfl, rfl⟩ | ⟨n, h1, rfl, h3⟩
  · exact .inl ⟨rfl, rfl⟩
  · exact .inr ⟨n, by omega, rfl, (hk n _ h1 h3).trans h3⟩
theorem EvsAt.keepT {h h' : AH} {xs : List V} {l : List Ev} (b : EvsAt h xs l) (hn : h.next ≤ h'.next) (hk : ∀ n xs, n < h.next → h.m n = some (.cells true (.row 4) xs) → h'.m n = h.m n) : EvsAt h' xs l :=
  ⟨b.1, fun i e he => let ⟨k, h1, h2⟩ := b.2 i e he; ⟨k, h1, h2.keepT hn hk⟩⟩
theorem EvsAt.snoc {h : AH} {xs : List V} {l : List Ev} (b : EvsAt h xs l) {e : Ev} {k : V} (hk : KeepB h k e.keep) : EvsAt h (xs ++ [evV e k]) (l ++ [e]) := by
  refine ⟨by simp [b.1], fun i e' he => ?_⟩
  rcases Nat.lt_or_ge i l.length with hi | hi
  · rw [List.getElem?_append_left hi] at he
    obtain ⟨k', q1, q2⟩ := b.2 i e' he
    exact ⟨k', by rw [List.getElem?_append_left (by rw [b.1]; exact hi)]; exact q1, q2⟩
  · have hi2 : i = l.length := by
      have := (List.getElem?_eq_some_iff.1 he).1
      simp at this; omega
    subst hi2
    rw [List.getElem?_append_right (by omega)] at he
    simp at he
    subst he
    exact ⟨k, by rw [List.getElem?_append_right (by rw [b.1]; omega), b.1]; simp, hk⟩
theorem scrB_row {h : AH} {x : V} {xs : List V} {l : List Ev} (b : RowB 73 h x xs) (e : EvsAt h xs l) : ScrB h x l := by
  rcases b with ⟨rfl, rfl⟩ | ⟨n, h1, rfl, h3⟩
  · exact .inl ⟨rfl, List.length_eq_zero_iff.1 (by rw [← e.1]; rfl)⟩
  · exact .inr ⟨n, xs, h1, by rw [e.1], h3, e⟩
def KeepA (h : AH) (k : V) (l : List Bool) : Prop :=
  (k = .slc none 0 ∧ l = []) ∨ ∃ n own, n < h.next ∧ k = .slc (some (⟨n, .row 4, []⟩, 0)) l.length ∧ h.m n = some (.cells own (.row 4) (.agg (boolsV l)))
theorem KeepB.any {h : AH} {k : V} {l : List Bool} (b : KeepB h k l) : KeepA h k l := by
  rcases b with ⟨rfl, rfl⟩ | ⟨n, h1, rfl, h3⟩
  · exact .inl ⟨rfl, rfl⟩
  · exact .inr ⟨n, true, h1, rfl, h3⟩
theorem KeepA.shape {h : AH} {k : V} {l : List Bool} (b : KeepA h k l) : ∃ a, k = .slc a l.length := by
  rcases b with ⟨rfl, rfl⟩ | ⟨n, _, _, rfl, _⟩ <;> exact ⟨_, rfl⟩
def ScrA (h : AH) (x : V) (l : List Ev) : Prop :=
  (x = .slc none 0 ∧ l = []) ∨ ∃ n own xs, n < h.next ∧ x = .slc (some (⟨n, .row 73, []⟩, 0)) l.length ∧ h.m n = some (.cells own (.row 73) (.agg xs)) ∧
    xs.length = l.length ∧ ∀ (i : Nat) (e : Ev), l[i]? = some e → ∃ k, xs[i]? = some (evV e k) ∧ KeepA h k e.keep
theorem ScrB.any {h : AH} {x : V} {l : List Ev} (b : ScrB h x l) : ScrA h x l := by
  rcases b with ⟨rfl, rfl⟩ | ⟨n, xs, h1, rfl, h3, h4⟩
  · exact .inl ⟨rfl, rfl⟩
  · exact .inr ⟨n, true, xs, h1, rfl, h3, h4.1, fun i e he => let ⟨k, q1, q2⟩ := h4.2 i e he; ⟨k, q1, q2.any⟩⟩
theorem ScrA.shape {h : AH} {x : V} {l : List Ev} (b : ScrA h x l) : ∃ a, x = .slc a l.length := by
  rcases b with ⟨rfl, rfl⟩ | ⟨n, _, _, _, rfl, _⟩ <;> exact ⟨_, rfl⟩
def Ev.cut (e : Ev) : Ev := { e with keep := e.keep.take 2100 }
def keptF (l : List Ev) : List Ev := (l.take 2100).map Ev.cut
theorem cut_ok {e : Ev} (ok : e.ok) : e.cut.ok := ⟨ok.1, ok.2, ok.3, ok.4, ok.5, ok.6, ok.7, ok.8, by have := ok.9; simp [Ev.cut]; omega⟩
theorem cut_cut (e : Ev) : e.cut.cut = e.cut := by simp [Ev.cut, List.take_take]
theorem min21 (n : Nat) (h : AH) : aBuiltin Pg h .min [3, 3] [.int .i64 n, .int .i64 2100] = some (.int .i64 ((min n 2100 : Nat) : Int), h) := by
  have e : aBuiltin Pg h .min [3, 3] [.int .i64 n, .int .i64 2100] = still (aMinMax false [.int .i64 n, .int .i64 2100]) h := rfl
  have e2 : aMinMax false [.int .i64 n, .int .i64 2100] = some (.int .i64 (if (2100 : Int) < n then 2100 else n)) := rfl
  have e3 : (if (2100 : Int) < n then 2100 else (n : Int)) = ((min n 2100 : Nat) : Int) := by split <;> omega
  rw [e, e2, e3]; rfl
theorem sl71 {h : AH} {k : V} {l : List Bool} (b : KeepA h k l) (m : Nat) (hm : m ≤ l.length) :
    ∃ w, aSlice Pg h 71 k none (some (.int .i64 m)) = some w ∧ aElems Pg h 4 w = some (boolsV (l.take m)) := by
  have hu : ul Pg 71 = some (.slice 4) := by kernel_rfl
  have hu4 : (ul Pg 4).isSome = true := by kernel_rfl
  have hb : bnd (some (.int .i64 (m : Int))) 0 = some m := by rw [bnd_i (by omega)]; simp
  rcases b with ⟨rfl, rfl⟩ | ⟨n, own, h1, rfl, h3⟩
  · have hm0 : m = 0 := by simpa using hm
    subst hm0
    refine ⟨.slc none 0, ?_, rfl⟩
    have hb0 : bnd none 0 = some 0 := rfl
    simp only [aSlice, hu, hb, hb0, hu4, and_self, if_true]
  · have hb2 : bnd (some (.int .i64 (m : Int))) l.length = some m := by rw [bnd_i (by omega)]; simp
    have hb0 : bnd none 0 = some 0 := rfl
    refine ⟨.slc (some (⟨n, .row 4, []⟩, 0)) m, ?_, ?_⟩
    · have hr : Go.Ab.rowAt Pg (.row 4) [] = some (0, 4) := rfl
      simp only [aSlice, hu, hb2, hb0, hr, hu4]
      rw [if_pos ⟨trivial, by omega, hm, trivial⟩]
      simp
    · have hr : Go.Ab.rowAt Pg (.row 4) [] = some (0, 4) := rfl
      have hg : getV (.agg (boolsV l)) [] = some (.agg (boolsV l)) := rfl
      simp only [aElems, h3, if_true, hr, hg]
      rw [if_pos ⟨trivial, by rw [boolsV_len]; omega⟩]
      simp [boolsV, List.map_take]
end Go.Proofs.YtcglbpjpbjaecaaGreat.Sh
namespace Go.Proofs.YtcglbpjpbjaecaaGreat.Sh
open Go Go.Ab Go.RowKit
open Go.Proofs.YtcglbpjpbjaecaaGreat.Ru (Pg okP)
set_option maxRecDepth 10000
theorem ap71 : apOk Pg 71 71 4 = true := by kernel_rfl
theorem ap84 : apOk Pg 84 84 73 = true := by kernel_rfl
theorem by4 : Pg.bytesOf 4 = 1 := by kernel_rfl
theorem by73 : Pg.bytesOf 73 ≤ 1000 := by decide +kernel
def KeptEnd (l : List Ev) (h0 : AH) : AEnd → AH → Prop := fun ed h' => ∃ y, ed = .ret y ∧ ScrB h' y (keptF l) ∧ h0.next ≤ h'.next ∧ ∀ n, n < h0.next → h'.m n = h0.m n
theorem app_nil {t xt e : TypeId} {h : AH} {n m : Nat} {y : V} (hc : apOk Pg t xt e = true) (hy : aElems Pg h e y = some []) : aBuiltin Pg h .append [t, xt] [.slc (some (⟨n, .row e, []⟩, 0)) m, y] = some (.slc (some (⟨n, .row e, []⟩, 0)) m, h) := by
  obtain ⟨h1, h2, h3, h4⟩ := apOk_spec hc
  simp only [aBuiltin, h1]
  rw [if_pos h2]
  unfold aAppend
  rw [hy]
section
variable (l : List Ev) {h0 : AH} {x : V} (hsc : ScrA h0 x l)
include hsc
omit hsc in
theorem take_succ' {α : Type} {s : List α} {i : Nat} {b : α} (h : s[i]? = some b) : s.take (i + 1) = s.take i ++ [b] := by
  rw [List.take_add_one, h]; rfl
theorem step46 {i : Nat} (hi : i < l.length ∧ i < 2100) {e : Ev} (he : l[i]? = some e) {y : V} {ys : List V} {h : AH} {m : Nat} (hR : RowB 73 h y ys) (hE : EvsAt h ys ((l.take i).map Ev.cut)) (hY : Young 73 h0.next y) (hn : h0.next ≤ h.next)
    (fr : ∀ n, n < h0.next → h.m n = h0.m n)
    (k : ∀ (y : V) (ys : List V) (h : AH), RowB 73 h y ys → EvsAt h ys ((l.take (i + 1)).map Ev.cut) → Young 73 h0.next y → h0.next ≤ h.next → (∀ n, n < h0.next → h.m n = h0.m n) → L46_11010 (KeptEnd l h0) m x y (.int .i64 ((i + 1 : Nat) : Int)) h) :
    J46_1101001 (KeptEnd l h0) m x y (.int .i64 i) h := by
  rw [J46_1101001_eq]
  rcases hsc with ⟨_, hl0⟩ | ⟨nS, own, xs, hnS, hx0, hS0, hxl, hat⟩
  · rw [hl0] at hi; exact absurd hi.1 (by simp)
  obtain ⟨kk, hx, hk0⟩ := hat i e he
  have hS := (fr nS hnS).trans hS0
  subst hx0
  refine bindS_mk (ia_slc _ (by kernel_rfl) (by omega) (by omega)) ?_
  refine bindV_mk (ld_mk hS (by kernel_rfl) (getV_row (by rw [show 0 + ((i : Nat) : Int).toNat = i by omega]; exact hx))) ?_
  have hk : KeepA h kk e.keep := by
    rcases hk0 with ⟨rfl, q⟩ | ⟨n, o, q1, rfl, q3⟩
    · exact .inl ⟨rfl, q⟩
    · exact .inr ⟨n, o, by omega, rfl, (fr n q1).trans q3⟩
  refine bindE (al_at z73 zs73) fun h1 u1 => ?_
  have n1 := u1.next
  obtain ⟨ak, hak⟩ := hk.shape
  have s73' : hasShape Pg (evV e kk) 73 = true := by rw [hak]; exact s73 e ak _
  refine bindE (st_at u1.at_ (by kernel_rfl) rfl s73' rfl) fun h2 u2 => ?_
  have n2 := u2.next
  refine bindE (bs_at (e := 4) (z := .bool false) (l := []) (by kernel_rfl) (by kernel_rfl) rfl) fun h3 u3 => ?_
  have n3 := u3.next
  have fb3 : h3.m h.next = some (.cells true (.one 73) (evV e kk)) := (u3.other _ (by omega)).trans u2.at_
  have f3 : ∀ n, n < h.next → h3.m n = h.m n := fun n q => (u3.other _ (by omega)).trans ((u2.other _ (by omega)).trans (u1.other _ (by omega)))
  refine bindS_mk (fa_mk (by kernel_rfl)) ?_
  refine bindV_mk (ld_mk fb3 (by kernel_rfl) rfl) ?_
  refine bindS_mk (fa_mk (by kernel_rfl)) ?_
  refine bindV_mk (ld_mk fb3 (by kernel_rfl) rfl) ?_
  refine bindV_mk (show aBuiltin Pg h3 .len [71] [kk] = some (.int .i64 e.keep.length, h3) by rw [hak]; exact len_slc (by kernel_rfl)) ?_
  refine bindV_mk (min21 _ _) ?_
  have hk3 : KeepA h3 kk e.keep := by
    rcases hk with ⟨rfl, q⟩ | ⟨n, o, q1, rfl, q3⟩
    · exact .inl ⟨rfl, q⟩
    · exact .inr ⟨n, o, by omega, rfl, (f3 n q1).trans q3⟩
  obtain ⟨w, hw1, hw2⟩ := sl71 hk3 (min e.keep.length 2100) (by omega)
  refine bindS_mk hw1 ?_
  have hcut : e.keep.take (min e.keep.length 2100) = e.cut.keep := by
    rw [Ev.cut]
    rcases Nat.le_total e.keep.length 2100 with q | q
    · rw [List.take_of_length_le (by omega), List.take_of_length_le (by omega)]
    · rw [Nat.min_eq_right q]
  rw [hcut] at hw2
  have hcl : e.cut.keep.length ≤ 2100 := by simp [Ev.cut]; omega
  have hR3 : RowB 4 h3 (.slc (some (⟨h2.next, .row 4, []⟩, 0)) 0) [] := .inr ⟨h2.next, by omega, rfl, u3.at_⟩
  obtain ⟨v4, h4, e4, hB4, n4, f4⟩ : ∃ v4 h4, aBuiltin Pg h3 .append [71, 71] [.slc (some (⟨h2.next, .row 4, []⟩, 0)) 0, w] = some (v4, h4) ∧ KeepB h4 v4 e.cut.keep ∧ h3.next ≤ h4.next ∧ ∀ n, n < h2.next → h4.m n = h3.m n := by
    by_cases hz : e.cut.keep = []
    · rw [hz] at hw2
      refine ⟨.slc (some (⟨h2.next, .row 4, []⟩, 0)) 0, h3, ?_, ?_, by omega, fun n _ => rfl⟩
      · exact app_nil ap71 hw2
      · rw [hz]; exact .inr ⟨h2.next, by omega, rfl, u3.at_⟩
    · obtain ⟨v, h', q1, q2, q3, q4, q5⟩ := hR3.app ap71 hw2 (by cases hc : e.cut.keep with | nil => exact absurd hc hz | cons a l => simp [boolsV]) (by rw [by4, boolsV_len]; simp; omega)
      refine ⟨v, h', q1, keepB_row (by simpa using q2), by omega, fun n hn => q4 n (by omega) fun len q => ?_⟩
      simp only [V.slc.injEq, Option.some.injEq, Prod.mk.injEq, PA.mk.injEq] at q
      omega
  refine bindV_mk e4 ?_
  obtain ⟨a4, rfl⟩ := hB4.shape
  refine bindS_mk (fa_mk (by kernel_rfl)) ?_
  have fb4 : h4.m h.next = some (.cells true (.one 73) (evV e kk)) := (f4 _ (by omega)).trans fb3
  refine bindE (st_at fb4 (by kernel_rfl) rfl (v' := evV e.cut (.slc a4 e.cut.keep.length)) (by kernel_rfl) rfl) fun h5 u5 => ?_
  have n5 := u5.next
  refine bindV_mk (ld_mk u5.at_ (by kernel_rfl) rfl) ?_
  refine bindE (bs1_at (e := 73) (by kernel_rfl) z73 (s73 e.cut a4 _)) fun h6 u6 => ?_
  have n6 := u6.next
  have f5 : ∀ n, n < h.next → h6.m n = h.m n := fun n q => (u6.other _ (by omega)).trans ((u5.other _ (by omega)).trans ((f4 _ (by omega)).trans (f3 n q)))
  have hB6 : KeepB h6 (.slc a4 e.cut.keep.length) e.cut.keep := by
    refine hB4.keepT (by omega) fun n xs q1 q2 => ?_
    have hne : n ≠ h.next := fun q => by rw [q, fb4] at q2; cases q2
    exact (u6.other _ (by omega)).trans (u5.other _ hne)
  have hR6 : RowB 73 h6 y ys := by
    rcases hR with ⟨rfl, rfl⟩ | ⟨n, q1, rfl, q3⟩
    · exact .inl ⟨rfl, rfl⟩
    · exact .inr ⟨n, by omega, rfl, (f5 n q1).trans q3⟩
  have hE6 : EvsAt h6 ys ((l.take i).map Ev.cut) := hE.keep (by omega) f5
  have hyl : ys.length ≤ 2100 := by rw [hE.1]; simp; omega
  obtain ⟨v7, h7, e7, hR7, n7, f7, hY7⟩ := hR6.app ap84 (elems_row (by exact u6.at_)) (by simp) (by have := by73; exact Nat.le_trans (Nat.mul_le_mul (show ys.length + 1 ≤ 2101 by omega) this) (by decide))
  refine bindV_mk e7 ?_
  refine Meet.of (cast_p (J46_11010011_eq _ _ _ _ _ _) ?_)
  refine bindS_mk (w_add (wrap_i64 (by omega) (by omega))) ?_
  refine Meet.of ((congrArg (fun z : Int => L46_11010 (KeptEnd l h0) m _ v7 (.int .i64 z) h7) (show ((i : Nat) : Int) + 1 = ((i + 1 : Nat) : Int) by omega)).mpr (k v7 _ h7 hR7 ?_ (fun n q => hY7 n (by omega)) (by omega) fun n q => ?_))
  · rw [take_succ' he, List.map_append]
    have t7 : ∀ n xs, n < h6.next → h6.m n = some (.cells true (.row 4) xs) → h7.m n = h6.m n := fun n xs q1 q2 => f7 n q1 fun len q => by
      rcases hR6 with ⟨rfl, _⟩ | ⟨n', g1, rfl, g3⟩
      · cases q
      · simp only [V.slc.injEq, Option.some.injEq, Prod.mk.injEq, PA.mk.injEq] at q
        rw [q.1.1.1, q2] at g3; cases g3
    exact (hE6.keepT (by omega) t7).snoc (hB6.keepT (by omega) t7)
  · exact (f7 n (by omega) (hY n q)).trans ((f5 n (by omega)).trans (fr n q))
theorem loop46 : ∀ (j i : Nat) (y : V) (ys : List V) (h : AH) (m : Nat), i ≤ min l.length 2100 → min l.length 2100 - i = j → j < m → RowB 73 h y ys → EvsAt h ys ((l.take i).map Ev.cut) → Young 73 h0.next y → h0.next ≤ h.next → (∀ n, n < h0.next → h.m n = h0.m n) → L46_11010 (KeptEnd l h0) m x y (.int .i64 i) h := by
  obtain ⟨ax, hax⟩ := hsc.shape
  subst hax
  intro j
  induction j with
  | zero =>
    intro i y ys h m hi hj hm hR hE hY hn fr
    obtain ⟨m, rfl⟩ : ∃ j, m = j + 1 := ⟨m - 1, by omega⟩
    rw [L46_11010_eq]
    refine bindV_mk (len_slc (by kernel_rfl)) ?_
    refine bindS_mk (b_lss) ?_
    refine g_split_t (fun c1 => ?_) (fun c1 => ?_)
    · try rw [c1]
      replace c1 := of_decide_eq_true c1
      refine bindS_mk (b_lss) ?_
      refine Meet.of (cast_p (G46_110100001002_eq _ _ _ _ _ _ _ _) ?_)
      refine bindV_mk p_t ?_
      refine Meet.of (cast_p (J46_11010001_eq _ _ _ _ _ _ _) ?_)
      refine i_split (fun c2 => ?_) (fun c2 => ?_)
      · try rw [c2]
        replace c2 := of_decide_eq_true c2
        exfalso; omega
      · try rw [c2]
        replace c2 := of_decide_eq_false c2
        refine Meet.of (cast_p (J46_111_eq _ _ _) ?_)
        have ei : l.take i = l.take 2100 := by rcases Nat.le_total l.length 2100 with q | q; rw [List.take_of_length_le (by omega), List.take_of_length_le (by omega)]; rw [show i = 2100 by omega]
        exact ⟨_, rfl, (show (l.take i).map Ev.cut = keptF l by rw [keptF, ei]) ▸ scrB_row hR hE, hn, fr⟩
    · try rw [c1]
      replace c1 := of_decide_eq_false c1
      refine Meet.of (cast_p (G46_110100001002_eq _ _ _ _ _ _ _ _) ?_)
      refine bindV_mk p_f ?_
      refine Meet.of (cast_p (J46_11010001_eq _ _ _ _ _ _ _) ?_)
      refine i_f ?_
      refine Meet.of (cast_p (J46_111_eq _ _ _) ?_)
      have ei : l.take i = l.take 2100 := by rcases Nat.le_total l.length 2100 with q | q; rw [List.take_of_length_le (by omega), List.take_of_length_le (by omega)]; rw [show i = 2100 by omega]
      exact ⟨_, rfl, (show (l.take i).map Ev.cut = keptF l by rw [keptF, ei]) ▸ scrB_row hR hE, hn, fr⟩
  | succ j ih =>
    intro i y ys h m hi hj hm hR hE hY hn fr
    obtain ⟨m, rfl⟩ : ∃ j, m = j + 1 := ⟨m - 1, by omega⟩
    obtain ⟨e, he⟩ : ∃ e, l[i]? = some e := ⟨l[i]'(by omega), List.getElem?_eq_getElem (by omega)⟩
    have hi2 : i < l.length ∧ i < 2100 := by omega
    rw [L46_11010_eq]
    refine bindV_mk (len_slc (by kernel_rfl)) ?_
    refine bindS_mk (b_lss) ?_
    refine g_split_t (fun c1 => ?_) (fun c1 => ?_)
    · try rw [c1]
      replace c1 := of_decide_eq_true c1
      refine bindS_mk (b_lss) ?_
      refine Meet.of (cast_p (G46_110100001002_eq _ _ _ _ _ _ _ _) ?_)
      refine bindV_mk p_t ?_
      refine Meet.of (cast_p (J46_11010001_eq _ _ _ _ _ _ _) ?_)
      refine i_split (fun c2 => ?_) (fun c2 => ?_)
      · try rw [c2]
        replace c2 := of_decide_eq_true c2
        exact Meet.of (step46 l hsc hi2 he hR hE hY hn fr fun y ys h' q1 q2 q3 q4 q5 => ih (i + 1) y ys h' m (by omega) (by omega) (by omega) q1 q2 q3 q4 q5)
      · try rw [c2]
        replace c2 := of_decide_eq_false c2
        refine Meet.of (cast_p (J46_111_eq _ _ _) ?_)
        exfalso; omega
    · try rw [c1]
      replace c1 := of_decide_eq_false c1
      refine Meet.of (cast_p (G46_110100001002_eq _ _ _ _ _ _ _ _) ?_)
      refine bindV_mk p_f ?_
      refine Meet.of (cast_p (J46_11010001_eq _ _ _ _ _ _ _) ?_)
      refine i_f ?_
      refine Meet.of (cast_p (J46_111_eq _ _ _) ?_)
      exfalso; omega
end
theorem keptP (l : List Ev) {h0 : AH} {x : V} (hsc : ScrA h0 x l) : ACalls Pg 46 [x] h0 (KeptEnd l h0) :=
  C46 _ _ _ ⟨l.length + 2200, Meet.of (loop46 l hsc (min l.length 2100) 0 _ [] _ _ (by omega) (by omega) (by omega) (.inl ⟨rfl, rfl⟩) ⟨rfl, fun i e h => by simp at h⟩ (fun k _ len q => by cases q) (Nat.le_refl _) fun n _ => rfl)⟩
end Go.Proofs.YtcglbpjpbjaecaaGreat.Sh
namespace Go.Ab
open Go Go.RowKit
variable {P : Program}
theorem acalls_subL {f : FuncId} {args : List V} {v : V} {h hs : AH} (hn : hs.next = h.next) (hsub : ∀ n o, hs.m n = some o → h.m n = some o) (ho : oldV (fun n => (hs.m n).isSome) v = true)
    (c : ACalls P f args hs (pureE v hs)) : ACalls P f args h (pureE v h) := by
  intro B ι W vs F r
  let Bs : Base := ⟨fun b => b < W.heap.size ∧ ∀ n o L, hs.m n = some o → o.isOwn = true → ι n = some L → b ≠ L.blk, W⟩
  have Fs : Fits P Bs ι hs W :=
    ⟨fun n o hm => F.obj n o (hsub n o hm), fun n hk => F.fresh n (by omega), fun n n' o o' L L' a b => F.apart n n' o o' L L' (hsub n o a) (hsub n' o' b),
      fun n o L hm how hL hb => hb.2 n o L hm how hL rfl, fun b hb => ⟨rfl, hb.1⟩, rfl, rfl, rfl, Nat.le_refl _⟩
  refine (c Bs ι W vs Fs r).mono ?_
  rintro e w' ⟨ι', h', ae, h1, h2, h3, h4⟩
  cases ae with
  | panic _ => exact h4.elim
  | ret u =>
    obtain ⟨hu, hh⟩ := h4
    rw [hh] at h2
    subst hu
    have Ff := Fs.forget h2 h1 fun n _ => rfl
    refine ⟨ι, h, .ret u, Names.le_refl _, ?_, ?_, rfl, rfl⟩
    · refine ⟨fun n o hm => ?_, F.fresh, F.apart, F.free, fun b hb => ?_, h2.os.trans F.os, h2.tape.trans F.tape, h2.output.trans F.output, Nat.le_trans F.size h2.size⟩
      · cases hsn : hs.m n with
        | some o' =>
          have := hsub n o' hsn
          rw [hm] at this; cases this
          exact Ff.obj n o hsn
        | none =>
          obtain ⟨L, hL, hr⟩ := F.obj n o hm
          refine ⟨L, hL, objR_keep (Names.le_refl _) (h2.frame L.blk ⟨objR_blk hr, fun n2 o2 L2 a b d q => ?_⟩).1 hr⟩
          have hne : n2 ≠ n := fun q => by rw [q, hsn] at a; cases a
          exact F.apart n2 n o2 o L2 L (hsub n2 o2 a) hm hne b d hL q.symm
      · obtain ⟨g1, g2⟩ := F.frame b hb
        obtain ⟨k1, k2⟩ := h2.frame b ⟨g2, fun n o L a how hL q => F.free n o L (hsub n o a) how hL (q ▸ hb)⟩
        exact ⟨k1.trans g1, k2⟩
    · cases e with
      | returned x =>
        refine old_rel (fun n hn => ?_) h1 ho h3
        obtain ⟨o, hm⟩ := Option.isSome_iff_exists.1 hn
        obtain ⟨L, hL, _⟩ := Fs.obj n o hm
        exact ⟨L, hL⟩
      | panicked c => exact h3.elim
      | outgrown => exact h3.elim
def AH.ownPart (h : AH) : AH := ⟨h.next, fun n => match h.m n with
  | some o => if o.isOwn then some o else none
  | none => none⟩
theorem ownPart_own {h : AH} {n : Nat} {o : AO} (hm : h.ownPart.m n = some o) : o.isOwn = true ∧ h.m n = some o := by
  simp only [AH.ownPart] at hm
  split at hm
  · rename_i o' ho
    split at hm
    · rename_i hw; cases hm; exact ⟨hw, ho⟩
    · cases hm
  · cases hm
theorem ownPart_at {h : AH} {n : Nat} {o : AO} (hm : h.m n = some o) (how : o.isOwn = true) : h.ownPart.m n = some o := by
  simp only [AH.ownPart, hm, how, if_true]
end Go.Ab
namespace Go.Proofs.YtcglbpjpbjaecaaGreat.Sh
open Go Go.Ab Go.RowKit
open Go.Proofs.YtcglbpjpbjaecaaGreat.Ru (Pg okP)
set_option maxRecDepth 10000
set_option linter.unusedSectionVars false
deriving instance DecidableEq for Ev
theorem ne57g (e f : Ev) (c : Bool) : aBin Pg .neq 57 (cV e) (cV f) c = some (.bool (!decide (e.ck = f.ck ∧ e.txn = f.txn ∧ e.page = f.page ∧ e.off = f.off ∧ e.s = f.s))) := by
  have h1 : aBin Pg .neq 57 (cV e) (cV f) c = if eqOk Pg 57 (cV e) (cV f) c = true then (aEq Pg 57 (cV e) (cV f)).map (fun b => .bool (!b)) else none := rfl
  have h2 : eqOk Pg 57 (cV e) (cV f) c = true := by kernel_rfl
  have h3 : plainT Pg 20 57 = true := by kernel_rfl
  rw [h1, h2, if_pos rfl]
  unfold aEq
  rw [h3, if_pos rfl, s57 e, s57 f]
  simp only [Bool.and_self, if_true]
  have : beqV (cV e) (cV f) = some (decide (e.ck = f.ck ∧ e.txn = f.txn ∧ e.page = f.page ∧ e.off = f.off ∧ e.s = f.s)) := by
    obtain ⟨kind, a, b, ck, txn, page, off, s, keep⟩ := e
    obtain ⟨kind', a', b', ck', txn', page', off', s', keep'⟩ := f
    simp only [cV, beqV, beqVs, if_true]
    clear h1 h2 h3
    have es : (s == s') = decide (s = s') := by by_cases h : s = s' <;> simp [h]
    simp only [eqd, es]
    have i1 : ((ck : Int) = ck') = (ck = ck') := propext ⟨fun h => by omega, fun h => by omega⟩
    have i2 : ((txn : Int) = txn') = (txn = txn') := propext ⟨fun h => by omega, fun h => by omega⟩
    have i3 : ((page : Int) = page') = (page = page') := propext ⟨fun h => by omega, fun h => by omega⟩
    simp only [i1, i2, i3]
    by_cases k1 : ck = ck' <;> by_cases k2 : txn = txn' <;> by_cases k3 : page = page' <;> by_cases k4 : off = off' <;> by_cases k5 : s = s' <;> simp [k1, k2, k3, k4, k5]
  rw [this]; rfl
theorem old73 : oldV (fun _ => false) (.agg [.int .u8 0, .int .i64 0, .int .i64 0, .agg [.int .u8 0, .int .u64 0, .int .u16 0, .int .i64 0, .str []], .slc none 0]) = true := by kernel_rfl
def Owned (h : AH) : Prop := ∀ n o, h.m n = some o → o.isOwn = true
theorem Owned.make {h : AH} (w : Owned h) {o : AO} (ho : o.isOwn = true) : Owned (h.make o) := fun n o' hm => by
  rw [make_m] at hm; split at hm
  · cases hm; exact ho
  · exact w n o' hm
theorem Owned.put {h : AH} (w : Owned h) {n : Nat} {o : AO} (ho : o.isOwn = true) : Owned (h.put n o) := fun k o' hm => by
  rw [put_m] at hm; split at hm
  · cases hm; exact ho
  · exact w k o' hm
section
variable (la lb : List Ev) {h0 : AH} {x y : V} {v : V} (hv : .bool (decide (la = lb)) = v) (hlen : la.length = lb.length)
include hv hlen
omit hv hlen in
theorem neqBool (a b c : Bool) : aBin Pg .neq 4 (.bool a) (.bool b) c = some (.bool (a != b)) := by cases a <;> cases b <;> cases c <;> kernel_rfl
omit hlen in
theorem inner45 {h : AH} {e1 e2 : Ev} {k1 k2 : V} {i m : Nat} (hi : i < 100000) (h1 : KeepB h k1 e1.keep) (h2 : KeepB h k2 e2.keep) (hkl : e1.keep.length = e2.keep.length) (hb0 : e1.keep.length ≤ 100000) (heq : e1.keep = e2.keep → e1 = e2) (hF : e1 ≠ e2 → decide (la = lb) = false)
    (hw : Owned h) (hn : h0.next ≤ h.next) (fr : ∀ n, n < h0.next → h.m n = h0.m n) {n6 n7 : Nat} (hm6 : h.m n6 = some (.cells true (.one 73) (evV e1 k1))) (hm7 : h.m n7 = some (.cells true (.one 73) (evV e2 k2))) (cont : e1 = e2 → L45_11010 (Ends v h0) m x y (.int .i64 la.length) (.int .i64 ((i + 1 : Nat) : Int)) h) : ∀ (j p : Nat) (mm : Nat), p ≤ e1.keep.length → e1.keep.length - p = j → j < mm → e1.keep.take p = e2.keep.take p → L45_110100110011110 (Ends v h0) m mm x y (.ptr (some ⟨n6, .one 73, []⟩)) (.ptr (some ⟨n7, .one 73, []⟩)) (.int .i64 la.length) (.int .i64 i) (.int .i64 e1.keep.length) (.int .i64 p) h := by
  obtain ⟨a1, hk1⟩ := h1.shape
  obtain ⟨a2, hk2⟩ := h2.shape
  subst hk1; subst hk2
  intro j
  induction j with
  | zero =>
    intro p mm hp hj hm ht
    obtain ⟨mm, rfl⟩ : ∃ j, mm = j + 1 := ⟨mm - 1, by omega⟩
    rw [L45_110100110011110_eq]
    refine bindS_mk (b_lss) ?_
    refine i_split (fun c1 => ?_) (fun c1 => ?_)
    · try rw [c1]
      replace c1 := of_decide_eq_true c1
      exfalso; omega
    · try rw [c1]
      replace c1 := of_decide_eq_false c1
      refine Meet.of (cast_p (J45_110100111_eq _ _ _ _ _ _ _) ?_)
      refine bindS_mk (w_add (wrap_i64 (by omega) (by omega))) ?_
      refine Meet.of ?_
      rw [show ((i : Nat) : Int) + 1 = ((i + 1 : Nat) : Int) by omega]
      exact cont (heq (by rw [List.take_of_length_le (by omega), List.take_of_length_le (by omega)] at ht; exact ht))
  | succ j ih =>
    intro p mm hp hj hm ht
    obtain ⟨mm, rfl⟩ : ∃ j, mm = j + 1 := ⟨mm - 1, by omega⟩
    obtain ⟨b1, hb1⟩ : ∃ b, e1.keep[p]? = some b := ⟨e1.keep[p]'(by omega), List.getElem?_eq_getElem (by omega)⟩
    obtain ⟨b2, hb2⟩ : ∃ b, e2.keep[p]? = some b := ⟨e2.keep[p]'(by omega), List.getElem?_eq_getElem (by omega)⟩
    rw [L45_110100110011110_eq]
    refine bindS_mk (b_lss) ?_
    refine (show decide (((p : Nat) : Int) < ((e1.keep.length : Nat) : Int)) = true from decide_eq_true (by omega)) ▸ i_t ?_
    rcases h1 with ⟨_, q⟩ | ⟨nA, hnA, qA, hmA⟩
    · rw [q] at hb1; cases hb1
    rcases h2 with ⟨_, q⟩ | ⟨nB, hnB, qB, hmB⟩
    · rw [q] at hb2; cases hb2
    obtain ⟨rfl, _⟩ := V.slc.injEq .. ▸ qA
    obtain ⟨rfl, _⟩ := V.slc.injEq .. ▸ qB
    refine Meet.of ?_
    rw [J45_110100110011110011_eq]
    refine bindSO_mk (fa_mk (by kernel_rfl)) ?_
    refine bindVO_mk (ld_mk hm6 (by kernel_rfl) rfl) ?_
    refine bindSO_mk (ia_slc _ (by kernel_rfl) (by omega) (by omega)) ?_
    refine bindVO_mk (ld_mk hmA (by kernel_rfl) (getV_row (boolsV_get (by rw [show 0 + ((p : Nat) : Int).toNat = p by omega]; exact hb1)))) ?_
    refine bindSO_mk (fa_mk (by kernel_rfl)) ?_
    refine bindVO_mk (ld_mk hm7 (by kernel_rfl) rfl) ?_
    refine bindSO_mk (ia_slc _ (by kernel_rfl) (by omega) (by omega)) ?_
    refine bindVO_mk (ld_mk hmB (by kernel_rfl) (getV_row (boolsV_get (by rw [show 0 + ((p : Nat) : Int).toNat = p by omega]; exact hb2)))) ?_
    refine bindSO_mk (neqBool b1 b2 _) ?_
    refine i_split (fun c1 => ?_) (fun c1 => ?_)
    · try rw [c1]
      exact ⟨congrArg AEnd.ret ((congrArg V.bool (hF (fun q => by rw [q, hb2] at hb1; cases hb1; simp at c1)).symm).trans hv), fr⟩
    · try rw [c1]
      refine Meet.of (cast_p (J45_1101001100111100111_eq _ _ _ _ _ _ _ _ _ _ _ _) ?_)
      first | refine bindS_mk (w_add (by first | exact wrap_i64 (by omega) (by omega) | exact wr_u8 (by omega) (by omega) | exact wr_u16 (by omega) (by omega) | exact wr_u32 (by omega) (by omega) | exact wr_u64 (by omega) (by omega))) ?_ | refine bindS_mk (b_add) ?_
      refine Meet.of ((congrArg (fun z : Int => L45_110100110011110 (Ends v h0) m mm _ _ _ _ _ _ _ (.int .i64 z) h) (show ((p : Nat) : Int) + 1 = ((p + 1 : Nat) : Int) by omega)).mpr (ih (p + 1) mm (by omega) (by omega) (by omega) ?_))
      rw [take_succ' hb1, take_succ' hb2, ht, show b1 = b2 by simpa using c1]
omit hv hlen in
theorem ev_ext {e f : Ev} (h1 : e.kind = f.kind) (h2 : e.a = f.a) (h3 : e.b = f.b) (h4 : e.ck = f.ck ∧ e.txn = f.txn ∧ e.page = f.page ∧ e.off = f.off ∧ e.s = f.s) (h5 : e.keep = f.keep) : e = f := by
  cases e; cases f; simp_all
theorem tail45 {h : AH} {e1 e2 : Ev} {k1 k2 : V} {i m : Nat} (hi : i < 100000) (hkA : KeepB h k1 e1.keep) (hkB : KeepB h k2 e2.keep) (hb0 : e1.keep.length ≤ 100000) (hF : e1 ≠ e2 → decide (la = lb) = false)
    (hw : Owned h) (hn : h0.next ≤ h.next) (fr : ∀ n, n < h0.next → h.m n = h0.m n) {n6 n7 : Nat} (hm6 : h.m n6 = some (.cells true (.one 73) (evV e1 k1))) (hm7 : h.m n7 = some (.cells true (.one 73) (evV e2 k2))) (cont : e1 = e2 → L45_11010 (Ends v h0) m x y (.int .i64 la.length) (.int .i64 ((i + 1 : Nat) : Int)) h) : (
  bindV (still (aFieldAddr Pg 73 (.ptr (some ⟨n6, .one 73, []⟩)) 0) h) fun v23 h24 =>
  bindV (aLoadV Pg h24 5 v23) fun v25 h26 =>
  bindV (still (aFieldAddr Pg 73 (.ptr (some ⟨n7, .one 73, []⟩)) 0) h26) fun v27 h28 =>
  bindV (aLoadV Pg h28 5 v27) fun v29 h30 =>
  bindV (still (aBin Pg .neq 5 v25 v29 false) h30) fun v31 h32 =>
  vcG v31 false (
  bindV (still (aFieldAddr Pg 73 (.ptr (some ⟨n6, .one 73, []⟩)) 1) h32) fun v96 h97 =>
  bindV (aLoadV Pg h97 3 v96) fun v98 h99 =>
  bindV (still (aFieldAddr Pg 73 (.ptr (some ⟨n7, .one 73, []⟩)) 1) h99) fun v100 h101 =>
  bindV (aLoadV Pg h101 3 v100) fun v102 h103 =>
  bindV (still (aBin Pg .neq 3 v98 v102 false) h103) fun v104 h105 =>
  Meet (G45_110100110011001002 (Ends v h0) m x y (.ptr (some ⟨n6, .one 73, []⟩)) (.ptr (some ⟨n7, .one 73, []⟩)) (.int .i64 la.length) (.int .i64 i) v31 v104 h105)) (Meet (G45_110100110011001002 (Ends v h0) m x y (.ptr (some ⟨n6, .one 73, []⟩)) (.ptr (some ⟨n7, .one 73, []⟩)) (.int .i64 la.length) (.int .i64 i) v31 hole h32))) := by
  obtain ⟨a1, hk1⟩ := hkA.shape
  obtain ⟨a2, hk2⟩ := hkB.shape
  subst hk1; subst hk2
  refine bindS_mk (fa_mk (by kernel_rfl)) ?_
  refine bindV_mk (ld_mk hm6 (by kernel_rfl) rfl) ?_
  refine bindS_mk (fa_mk (by kernel_rfl)) ?_
  refine bindV_mk (ld_mk hm7 (by kernel_rfl) rfl) ?_
  refine bindS_mk (b_neq) ?_
  refine g_split_f (fun c1 => ?_) (fun c1 => ?_)
  · try rw [c1]
    replace c1 := eq_of_bne_false c1
    refine bindS_mk (fa_mk (by kernel_rfl)) ?_
    refine bindV_mk (ld_mk hm6 (by kernel_rfl) rfl) ?_
    refine bindS_mk (fa_mk (by kernel_rfl)) ?_
    refine bindV_mk (ld_mk hm7 (by kernel_rfl) rfl) ?_
    refine bindS_mk (b_neq) ?_
    refine Meet.of (cast_p (G45_110100110011001002_eq _ _ _ _ _ _ _ _ _ _ _) ?_)
    refine bindV_mk p_f ?_
    refine g_split_f (fun c2 => ?_) (fun c2 => ?_)
    · try rw [c2]
      replace c2 := eq_of_bne_false c2
      refine bindS_mk (fa_mk (by kernel_rfl)) ?_
      refine bindV_mk (ld_mk hm6 (by kernel_rfl) rfl) ?_
      refine bindS_mk (fa_mk (by kernel_rfl)) ?_
      refine bindV_mk (ld_mk hm7 (by kernel_rfl) rfl) ?_
      refine bindS_mk (b_neq) ?_
      refine Meet.of (cast_p (G45_110100110011001004_eq _ _ _ _ _ _ _ _ _ _ _) ?_)
      refine bindV_mk p_f ?_
      refine g_split_f (fun c3 => ?_) (fun c3 => ?_)
      · try rw [c3]
        replace c3 := eq_of_bne_false c3
        refine bindS_mk (fa_mk (by kernel_rfl)) ?_
        refine bindV_mk (ld_mk hm6 (by kernel_rfl) rfl) ?_
        refine bindS_mk (fa_mk (by kernel_rfl)) ?_
        refine bindV_mk (ld_mk hm7 (by kernel_rfl) rfl) ?_
        refine bindS_mk (ne57g e1 e2 _) ?_
        refine Meet.of (cast_p (G45_110100110011001006_eq _ _ _ _ _ _ _ _ _ _ _) ?_)
        refine bindV_mk p_f ?_
        refine g_split_f (fun c4 => ?_) (fun c4 => ?_)
        · try rw [c4]
          have c4 : (e1.ck = e2.ck ∧ e1.txn = e2.txn ∧ e1.page = e2.page ∧ e1.off = e2.off ∧ e1.s = e2.s) := of_decide_eq_true (by simpa only [Bool.not_eq_false'] using c4)
          refine bindS_mk (fa_mk (by kernel_rfl)) ?_
          refine bindV_mk (ld_mk hm6 (by kernel_rfl) rfl) ?_
          refine bindV_mk (len_slc (by kernel_rfl)) ?_
          refine bindS_mk (fa_mk (by kernel_rfl)) ?_
          refine bindV_mk (ld_mk hm7 (by kernel_rfl) rfl) ?_
          refine bindV_mk (len_slc (by kernel_rfl)) ?_
          refine bindS_mk (b_neq) ?_
          refine Meet.of (cast_p (G45_110100110011001008_eq _ _ _ _ _ _ _ _ _ _ _) ?_)
          refine bindV_mk p_f ?_
          refine Meet.of (cast_p (J45_11010011001101_eq _ _ _ _ _ _ _ _ _ _) ?_)
          refine i_split (fun c5 => ?_) (fun c5 => ?_)
          · try rw [c5]
            replace c5 := ne_of_bne c5
            exact ⟨congrArg AEnd.ret ((congrArg V.bool (hF (fun q => by subst q; first | (exact absurd rfl (by assumption)) | (refine absurd ?_ (by assumption : ¬ (e1.ck = e1.ck ∧ e1.txn = e1.txn ∧ e1.page = e1.page ∧ e1.off = e1.off ∧ e1.s = e1.s)); simp))).symm).trans hv), fr⟩
          · try rw [c5]
            replace c5 := eq_of_bne_false c5
            refine Meet.of (cast_p (J45_1101001100111_eq _ _ _ _ _ _ _ _ _) ?_)
            refine bindS_mk (fa_mk (by kernel_rfl)) ?_
            refine bindV_mk (ld_mk hm6 (by kernel_rfl) rfl) ?_
            refine bindV_mk (len_slc (by kernel_rfl)) ?_
            have hkl : e1.keep.length = e2.keep.length := by omega
            refine ⟨e1.keep.length + 1, Meet.of (inner45 la lb hv (by omega) hkA hkB hkl hb0 ?_ hF hw hn fr hm6 hm7 cont e1.keep.length 0 _ (by omega) (by omega) (by omega) rfl)⟩
            intro q
            exact ev_ext (by omega) (by omega) (by omega) (by assumption) q
        · try rw [c4]
          have c4 : ¬ (e1.ck = e2.ck ∧ e1.txn = e2.txn ∧ e1.page = e2.page ∧ e1.off = e2.off ∧ e1.s = e2.s) := of_decide_eq_false (by simpa only [Bool.not_eq_true'] using c4)
          refine Meet.of (cast_p (G45_110100110011001008_eq _ _ _ _ _ _ _ _ _ _ _) ?_)
          refine bindV_mk p_t ?_
          refine Meet.of (cast_p (J45_11010011001101_eq _ _ _ _ _ _ _ _ _ _) ?_)
          refine i_t ?_
          exact ⟨congrArg AEnd.ret ((congrArg V.bool (hF (fun q => by subst q; first | (exact absurd rfl (by assumption)) | (refine absurd ?_ (by assumption : ¬ (e1.ck = e1.ck ∧ e1.txn = e1.txn ∧ e1.page = e1.page ∧ e1.off = e1.off ∧ e1.s = e1.s)); simp))).symm).trans hv), fr⟩
      · try rw [c3]
        replace c3 := ne_of_bne c3
        refine Meet.of (cast_p (G45_110100110011001006_eq _ _ _ _ _ _ _ _ _ _ _) ?_)
        refine bindV_mk p_t ?_
        refine g_tf ?_
        refine Meet.of (cast_p (G45_110100110011001008_eq _ _ _ _ _ _ _ _ _ _ _) ?_)
        refine bindV_mk p_t ?_
        refine Meet.of (cast_p (J45_11010011001101_eq _ _ _ _ _ _ _ _ _ _) ?_)
        refine i_t ?_
        exact ⟨congrArg AEnd.ret ((congrArg V.bool (hF (fun q => by subst q; first | (exact absurd rfl (by assumption)) | (refine absurd ?_ (by assumption : ¬ (e1.ck = e1.ck ∧ e1.txn = e1.txn ∧ e1.page = e1.page ∧ e1.off = e1.off ∧ e1.s = e1.s)); simp))).symm).trans hv), fr⟩
    · try rw [c2]
      replace c2 := ne_of_bne c2
      refine Meet.of (cast_p (G45_110100110011001004_eq _ _ _ _ _ _ _ _ _ _ _) ?_)
      refine bindV_mk p_t ?_
      refine g_tf ?_
      refine Meet.of (cast_p (G45_110100110011001006_eq _ _ _ _ _ _ _ _ _ _ _) ?_)
      refine bindV_mk p_t ?_
      refine g_tf ?_
      refine Meet.of (cast_p (G45_110100110011001008_eq _ _ _ _ _ _ _ _ _ _ _) ?_)
      refine bindV_mk p_t ?_
      refine Meet.of (cast_p (J45_11010011001101_eq _ _ _ _ _ _ _ _ _ _) ?_)
      refine i_t ?_
      exact ⟨congrArg AEnd.ret ((congrArg V.bool (hF (fun q => by subst q; first | (exact absurd rfl (by assumption)) | (refine absurd ?_ (by assumption : ¬ (e1.ck = e1.ck ∧ e1.txn = e1.txn ∧ e1.page = e1.page ∧ e1.off = e1.off ∧ e1.s = e1.s)); simp))).symm).trans hv), fr⟩
  · try rw [c1]
    replace c1 := ne_of_bne c1
    refine Meet.of (cast_p (G45_110100110011001002_eq _ _ _ _ _ _ _ _ _ _ _) ?_)
    refine bindV_mk p_t ?_
    refine g_tf ?_
    refine Meet.of (cast_p (G45_110100110011001004_eq _ _ _ _ _ _ _ _ _ _ _) ?_)
    refine bindV_mk p_t ?_
    refine g_tf ?_
    refine Meet.of (cast_p (G45_110100110011001006_eq _ _ _ _ _ _ _ _ _ _ _) ?_)
    refine bindV_mk p_t ?_
    refine g_tf ?_
    refine Meet.of (cast_p (G45_110100110011001008_eq _ _ _ _ _ _ _ _ _ _ _) ?_)
    refine bindV_mk p_t ?_
    refine Meet.of (cast_p (J45_11010011001101_eq _ _ _ _ _ _ _ _ _ _) ?_)
    refine i_t ?_
    exact ⟨congrArg AEnd.ret ((congrArg V.bool (hF (fun q => by subst q; first | (exact absurd rfl (by assumption)) | (refine absurd ?_ (by assumption : ¬ (e1.ck = e1.ck ∧ e1.txn = e1.txn ∧ e1.page = e1.page ∧ e1.off = e1.off ∧ e1.s = e1.s)); simp))).symm).trans hv), fr⟩
end
end Go.Proofs.YtcglbpjpbjaecaaGreat.Sh
namespace Go.Proofs.YtcglbpjpbjaecaaGreat.Sh
open Go Go.Ab Go.RowKit
open Go.Proofs.YtcglbpjpbjaecaaGreat.Ru (Pg okP)
set_option maxRecDepth 10000
section
variable (la lb : List Ev) {h0 : AH} {x y : V} {v : V} (hv : .bool (decide (la = lb)) = v) (hlen : la.length = lb.length)
include hv hlen
theorem step45 {h : AH} {e1 e2 : Ev} {i m : Nat} (hi : i < la.length) (hi2 : la.length ≤ 100000) (hA : ScrB h0 x la) (hB : ScrB h0 y lb) (q1 : la[i]? = some e1) (q2 : lb[i]? = some e2) (hb0 : e1.keep.length ≤ 100000) (hF : e1 ≠ e2 → decide (la = lb) = false)
    (hw : Owned h) (hn : h0.next ≤ h.next) (fr : ∀ n, n < h0.next → h.m n = h0.m n) (cont : e1 = e2 → ∀ h : AH, Owned h → h0.next ≤ h.next → (∀ n, n < h0.next → h.m n = h0.m n) → L45_11010 (Ends v h0) m x y (.int .i64 la.length) (.int .i64 ((i + 1 : Nat) : Int)) h) : J45_11010011 (Ends v h0) m x y (.int .i64 la.length) (.int .i64 i) h := by
  obtain ⟨nA, xa, k1, hnA, hxA, hmA, hxa, hkA⟩ := hA.at q1
  obtain ⟨nB, xb, k2, hnB, hxB, hmB, hxb, hkB⟩ := hB.at q2
  subst hxA; subst hxB
  have gA := (fr nA hnA).trans hmA
  have gB := (fr nB hnB).trans hmB
  obtain ⟨a1, s1⟩ := hkA.shape
  obtain ⟨a2, s2⟩ := hkB.shape
  have sh1 : hasShape Pg (evV e1 k1) 73 = true := by rw [s1]; exact s73 e1 a1 _
  have sh2 : hasShape Pg (evV e2 k2) 73 = true := by rw [s2]; exact s73 e2 a2 _
  have ga : getV (.agg xa) [0 + ((i : Nat) : Int).toNat] = some (evV e1 k1) := getV_row (by rw [show 0 + ((i : Nat) : Int).toNat = i by omega]; exact hxa)
  have gb : getV (.agg xb) [0 + ((i : Nat) : Int).toNat] = some (evV e2 k2) := getV_row (by rw [show 0 + ((i : Nat) : Int).toNat = i by omega]; exact hxb)
  rw [J45_11010011_eq]
  refine bindSO_mk (ia_slc _ (by kernel_rfl) (by omega) (by omega)) ?_
  refine bindVO_mk (ld_mk gA (by kernel_rfl) ga) ?_
  refine bindSO_mk (ia_slc _ (by kernel_rfl) (by omega) (by omega)) ?_
  refine bindVO_mk (ld_mk gB (by kernel_rfl) gb) ?_
  refine flo_mk z73 zs73 old73 hw ⟨ld_mk (show AH.m _ _ = _ by rw [make_m, if_neg (by omega)]; exact gB) (by kernel_rfl) gb, ?_⟩
  have w1 := hw.make (o := .cells true (.one 73) (.agg [.int .u8 0, .int .i64 0, .int .i64 0, .agg [.int .u8 0, .int .u64 0, .int .u16 0, .int .i64 0, .str []], .slc none 0])) rfl
  refine flo_mk z73 zs73 old73 w1 ⟨ld_mk (show AH.m _ _ = _ by rw [make_m, if_neg (by rw [make_next]; omega), make_m, if_neg (by omega)]; exact gB) (by kernel_rfl) gb, ?_⟩
  have w2 := w1.make (o := .cells true (.one 73) (.agg [.int .u8 0, .int .i64 0, .int .i64 0, .agg [.int .u8 0, .int .u64 0, .int .u16 0, .int .i64 0, .str []], .slc none 0])) rfl
  generalize hz : (V.agg [.int .u8 0, .int .i64 0, .int .i64 0, .agg [.int .u8 0, .int .u64 0, .int .u16 0, .int .i64 0, .str []], .slc none 0]) = zz at *
  refine bindV_mk (st_mk (p := []) (w := zz) (v' := evV e1 k1) (show AH.m _ _ = some (.cells true (.one 73) zz) by rw [make_m, if_neg (by rw [make_next]; omega), make_m, if_pos rfl]) (by kernel_rfl) rfl sh1 rfl) ?_
  refine ⟨ld_mk (show AH.m _ _ = _ by rw [put_m, if_neg (by omega), make_m, if_neg (by rw [make_next]; omega), make_m, if_neg (by omega)]; exact gB) (by kernel_rfl) gb, ?_⟩
  refine bindV_mk (st_mk (p := []) (w := zz) (v' := evV e2 k2) (show AH.m _ _ = some (.cells true (.one 73) zz) by rw [put_m, if_neg (by rw [make_next]; omega), make_m, if_pos rfl]) (by kernel_rfl) rfl sh2 rfl) ?_
  generalize hh9 : (AH.put (AH.put (AH.make (AH.make h _) _) _ _) _ _) = h9
  have t6 : h9.m h.next = some (.cells true (.one 73) (evV e1 k1)) := by rw [← hh9, put_m, if_neg (by rw [make_next]; omega), put_m, if_pos rfl]
  have t7 : h9.m (h.next + 1) = some (.cells true (.one 73) (evV e2 k2)) := by rw [← hh9, put_m, if_pos (by rw [make_next])]
  have tn : h9.next = h.next + 2 := by rw [← hh9]; rfl
  have to : ∀ n, n < h.next → h9.m n = h.m n := fun n q => by rw [← hh9, put_m, if_neg (by rw [make_next]; omega), put_m, if_neg (by omega), make_m, if_neg (by rw [make_next]; omega), make_m, if_neg (by omega)]
  have tw : Owned h9 := by rw [← hh9]; exact (w2.put rfl).put rfl
  have fr9 : ∀ n, n < h0.next → h9.m n = h0.m n := fun n q => (to n (by omega)).trans (fr n q)
  exact tail45 la lb hv hlen (by omega) (hkA.keep (by omega) fr9) (hkB.keep (by omega) fr9) hb0 hF tw (by omega) fr9 t6 t7 (fun q => cont q h9 tw (by omega) fr9)
theorem loop45 (hi2 : la.length ≤ 100000) (hb : ∀ e ∈ la, e.keep.length ≤ 100000) (hA : ScrB h0 x la) (hB : ScrB h0 y lb) : ∀ (j i m : Nat) (h : AH), i ≤ la.length → la.length - i = j → j < m → la.take i = lb.take i → Owned h → h0.next ≤ h.next → (∀ n, n < h0.next → h.m n = h0.m n) →
    L45_11010 (Ends v h0) m x y (.int .i64 la.length) (.int .i64 i) h := by
  intro j
  induction j with
  | zero =>
    intro i m h hi hj hm ht hw hn fr
    obtain ⟨m, rfl⟩ : ∃ j, m = j + 1 := ⟨m - 1, by omega⟩
    rw [L45_11010_eq]
    refine bindS_mk (b_lss) ?_
    refine i_split (fun c1 => ?_) (fun c1 => ?_)
    · try rw [c1]
      replace c1 := of_decide_eq_true c1
      exfalso; omega
    · try rw [c1]
      replace c1 := of_decide_eq_false c1
      refine Meet.of (cast_p (J45_111_eq _ _) ?_)
      have e : la = lb := by rw [List.take_of_length_le (by omega), List.take_of_length_le (by omega)] at ht; exact ht
      exact ⟨congrArg AEnd.ret ((congrArg V.bool (decide_eq_true e).symm).trans hv), fr⟩
  | succ j ih =>
    intro i m h hi hj hm ht hw hn fr
    obtain ⟨m, rfl⟩ : ∃ j, m = j + 1 := ⟨m - 1, by omega⟩
    obtain ⟨e1, he1⟩ : ∃ e, la[i]? = some e := ⟨la[i]'(by omega), List.getElem?_eq_getElem (by omega)⟩
    obtain ⟨e2, he2⟩ : ∃ e, lb[i]? = some e := ⟨lb[i]'(by omega), List.getElem?_eq_getElem (by omega)⟩
    rw [L45_11010_eq]
    refine bindS_mk (b_lss) ?_
    refine (show decide (((i : Nat) : Int) < ((la.length : Nat) : Int)) = true from decide_eq_true (by omega)) ▸ i_t ?_
    refine Meet.of ?_
    refine step45 la lb hv hlen (by omega) hi2 hA hB he1 he2 (hb e1 (List.mem_of_getElem? he1)) (fun hne => decide_eq_false fun q => hne ?_) hw hn fr (fun q h w n f => ih (i + 1) m h (by omega) (by omega) (by omega) ?_ w n f)
    · rw [q, he2] at he1; cases he1; rfl
    · rw [take_succ' he1, take_succ' he2, ht, q]
end
theorem same0 (la lb : List Ev) {h0 : AH} {x y : V} {v : V} (hv : .bool (decide (la = lb)) = v) (hi2 : la.length ≤ 100000) (hb : ∀ e ∈ la, e.keep.length ≤ 100000) (hA : ScrB h0 x la) (hB : ScrB h0 y lb) (hw : Owned h0) : ACalls Pg 45 [x, y] h0 (Ends v h0) := by
  obtain ⟨a1, s1⟩ := hA.shape
  obtain ⟨a2, s2⟩ := hB.shape
  subst s1; subst s2
  refine C45 _ _ _ _ ?_
  refine bindV_mk (len_slc (by kernel_rfl)) ?_
  refine bindV_mk (len_slc (by kernel_rfl)) ?_
  refine bindS_mk (b_neq) ?_
  refine i_split (fun c1 => ?_) (fun c1 => ?_)
  · try rw [c1]
    replace c1 := ne_of_bne c1
    exact ⟨congrArg AEnd.ret ((congrArg V.bool (decide_eq_false (fun q => c1 (by rw [q]))).symm).trans hv), fun n _ => rfl⟩
  · try rw [c1]
    replace c1 := eq_of_bne_false c1
    refine Meet.of (cast_p (J45_11_eq _ _ _ _) ?_)
    refine bindV_mk (len_slc (by kernel_rfl)) ?_
    exact ⟨la.length + 1, Meet.of (loop45 la lb hv (by omega) hi2 hb hA hB la.length 0 _ _ (by omega) (by omega) (by omega) rfl hw (by omega) (fun n _ => rfl))⟩
theorem KeepB.part {h : AH} {k : V} {l : List Bool} (b : KeepB h k l) : KeepB h.ownPart k l := by
  rcases b with ⟨rfl, rfl⟩ | ⟨n, h1, rfl, h3⟩
  · exact .inl ⟨rfl, rfl⟩
  · exact .inr ⟨n, h1, rfl, ownPart_at h3 rfl⟩
theorem ScrB.part {h : AH} {x : V} {l : List Ev} (b : ScrB h x l) : ScrB h.ownPart x l := by
  rcases b with ⟨rfl, rfl⟩ | ⟨n, xs, h1, rfl, h3, h4⟩
  · exact .inl ⟨rfl, rfl⟩
  · exact .inr ⟨n, xs, h1, rfl, ownPart_at h3 rfl, h4.1, fun i e he => let ⟨k, q1, q2⟩ := h4.2 i e he; ⟨k, q1, q2.part⟩⟩
theorem sameP (la lb : List Ev) {h : AH} {x y : V} (hi2 : la.length ≤ 100000) (hb : ∀ e ∈ la, e.keep.length ≤ 100000) (hA : ScrB h x la) (hB : ScrB h y lb) : ACalls Pg 45 [x, y] h (pureE (.bool (decide (la = lb))) h) :=
  acalls_subL (hs := h.ownPart) rfl (fun n o q => (ownPart_own q).2) rfl (acalls_forget (by rfl) (same0 la lb rfl hi2 hb hA.part hB.part fun n o q => (ownPart_own q).1))
end Go.Proofs.YtcglbpjpbjaecaaGreat.Sh
namespace Go.Proofs.YtcglbpjpbjaecaaGreat.It
open Go Go.Ab Go.RowKit
open Go.Proofs.YtcglbpjpbjaecaaGreat.Ru (Pg okP hd FT pu tabOk)
set_option maxRecDepth 100000
section
variable {P : Program} {B : Base} {ι : Names} {h : AH} {W : World}
theorem fits_put {l : Nat} {x x' : Obj} (F : Fits P B ι h W) (hl : W.heap[l]? = some x) (hx : (∀ a b c, x ≠ .cells a b c) ∧ (∀ a b, x ≠ .map a b) ∧ (∀ a b, x ≠ .stringIter a b) ∧ ∀ a b c d, x ≠ .mapIter a b c d) (hB : ¬ B.F l) : Fits P B ι h (W.putObj l x') := by
  have ne : ∀ b, b ≠ l → (W.putObj l x').heap[b]? = W.heap[b]? := fun b hb => World.putObj_heap_other hb
  have sz : (W.putObj l x').heap.size = W.heap.size := by simp [World.putObj]
  exact {
    obj := fun n o hm => by
      obtain ⟨L, h1, h2⟩ := F.obj n o hm
      refine ⟨L, h1, objR_keep (Names.le_refl _) (ne _ ?_) h2⟩
      intro e
      cases o with
      | cells own ty v => obtain ⟨_, _, a, b, c, elem, fr, g1, _⟩ := h2; rw [e, hl] at g1; cases g1; exact hx.1 _ _ _ rfl
      | mp kt et es => obtain ⟨xs, c, g1, _⟩ := h2; rw [e, hl] at g1; cases g1; exact hx.2.1 _ _ rfl
      | mps kt et es st c => obtain ⟨xs, g1, _⟩ := h2; rw [e, hl] at g1; cases g1; exact hx.2.1 _ _ rfl
      | sit s p => obtain ⟨_, g1⟩ := h2; rw [e, hl] at g1; cases g1; exact hx.2.2.1 _ _ rfl
      | mit m a b c => obtain ⟨_, mb, _, g1⟩ := h2; rw [e, hl] at g1; cases g1; exact hx.2.2.2 _ _ _ _ rfl
    fresh := F.fresh
    apart := F.apart
    free := F.free
    frame := fun b hb => ⟨(ne b (fun e => hB (e ▸ hb))).trans (F.frame b hb).1, by rw [sz]; exact (F.frame b hb).2⟩
    os := F.os
    tape := F.tape
    output := F.output
    size := by rw [sz]; exact F.size }
theorem piece (K0 : Ok P) {N : Nat} {c : Code} {k : KT} {D : List AD} {E E' : XE} {H H' : HT} (cc : ∀ e, Same e E → ∀ (Qv : AExit → Env → AH → Prop), (∀ e', Same e' E' → Qv .normal e' H'.ah) → vc P N c k Qv e H.ah)
    {e : Env} {a : Act} {Q : Exit → Act → World → Prop} (F : Fits P B ι H.ah W) (r : relE P ι N D e a) (hs : Same e E)
    (next : ∀ ι' W' e' a', Names.le ι ι' → Fits P B ι' H'.ah W' → relE P ι' N D e' a' → Same e' E' → Q .normal a' W') : c.wp P Q a W := by
  refine wp_mono (vc_ok K0 c k (fun x e h => x = .normal ∧ Same e E' ∧ h = H'.ah) ι H.ah W e a F r (cc e hs _ fun e' h => ⟨rfl, h, rfl⟩)) ?_
  rintro x a' w ⟨ι', h', e', ax, p1, p2, p3, p4, rfl, p6, rfl⟩
  cases x with
  | normal => exact next ι' w e' a' p1 p2 p3 p6
  | _ => exact p4.elim
end
theorem lift_nil {P : Program} {f : FuncId} {args : List V} {v : V} (ha : flatBs args = true) (hv : oldV (fun _ => false) v = true) (c : ACalls P f args AH0 fun e _ => e = .ret v) (h : AH) : ACalls P f args h (pureE v h) := by
  intro B ι W vs F r
  refine (c _ _ W vs (fits0 W) (flat_relL args vs ha r)).mono ?_
  rintro e w' ⟨ι', h', ae, h1, h2, h3, rfl⟩
  have hold : ∀ b, b < W.heap.size → w'.heap[b]? = W.heap[b]? := fun b hb => (h2.frame b hb).1
  refine ⟨ι, h, .ret v, Names.le_refl _, ?_, ?_, rfl, rfl⟩
  · exact (F.grow (fun _ => False) hold (fun _ h => h.elim) h2.os h2.tape h2.output h2.size).rebase (BaseLe.grow F _ hold h2.os h2.tape h2.output h2.size)
  · cases e with
    | returned x => exact rel_le (ι := fun _ => none) (fun n L h => by cases h) (old_rel (ι := fun _ => none) (fun n hn => by cases hn) h1 hv h3)
    | panicked c => exact h3.elim
    | outgrown => exact h3.elim
noncomputable def B155 : Code := (Tryz.f155.body).getD .skip
noncomputable def asg : Code := match subC B155 [1, 1, 1, 1, 0, 1, 0] with | .rangeFunc _ _ a _ => a | _ => .skip
noncomputable def bdy : Code := match subC B155 [1, 1, 1, 1, 0, 1, 0] with | .rangeFunc _ _ _ b => b | _ => .skip
noncomputable def C0 : Code := subC B155 [0]
noncomputable def C1 : Code := subC B155 [1, 0]
noncomputable def C2 : Code := subC B155 [1, 1, 0]
noncomputable def C3 : Code := subC B155 [1, 1, 1, 0]
noncomputable def C4 : Code := subC B155 [1, 1, 1, 1, 0, 0]
noncomputable def C5 : Code := subC B155 [1, 1, 1, 1, 1]
theorem shape : B155 = .seq C0 (.seq C1 (.seq C2 (.seq C3 (.seq (.seq C4 (.block 0 (.rangeFunc (.tmp 31) #[32, 33] asg bdy))) C5)))) := by kernel_rfl
noncomputable def exI : CallF := (exTabM Pg FT hd noMemo pu 60).ex
noncomputable def nx {R : Type} (k : XE → HT → Option R) : AExit → XE → HT → Option R := fun x E H => match x with
  | .normal => k E H
  | _ => none
theorem nx_some {R : Type} {k : XE → HT → Option R} {x : AExit} {E : XE} {H : HT} {r : R} (h : nx k x E H = some r) : x = .normal ∧ k E H = some r := by
  unfold nx at h
  cases x <;> first | exact ⟨rfl, h⟩ | cases h
def args : List V := [.int .u64 1, .str [], .int .u64 1]
noncomputable def E0 : XE := xInit args 0 .nil fun E => E
noncomputable def fin5 : AExit → XE → HT → Option Unit := fun x E H => match x with
  | .ret => bif sameV (XE.get E 6) (.slc none 0) && sameV (XE.get E 7) (.int .u64 1) then some () else none
  | _ => none
noncomputable def pre : Option (XE × HT) :=
  exC Pg 53 exI pu C0 (nx fun E H => exC Pg 53 exI pu C1 (nx fun E H => exC Pg 53 exI pu C2 (nx fun E H => exC Pg 53 exI pu C3 (nx fun E H => exC Pg 53 exI pu C4 (nx fun E H => some (E, H)) E H) E H) E H) E H) E0 HT0
noncomputable def E4 : XE := (pre.getD (.nil, HT0)).1
noncomputable def H4 : HT := (pre.getD (.nil, HT0)).2
theorem pre_eq : pre = some (E4, H4) := by kernel_rfl
def sP : V := .ptr (some ⟨3, .one 9, []⟩)
theorem slot31 : XE.get E4 31 = .fn (.func 266) [] [sP] := by kernel_rfl
noncomputable def post (l : Nat) : Option Unit := exI Unit 266 [.fn (.yield l) [] [], sP] H4 fun ae H => match ae with
    | .ret _ => exC Pg 53 exI pu C5 fin5 E4 H
    | .panic _ => none
theorem post_eq (l : Nat) : post l = some () := by kernel_rfl
theorem itemsC0 (hh : HdOk Pg hd) : ACalls Pg 155 args AH0 fun e _ => e = .ret (.tup [.slc none 0, .int .u64 1]) := by
  intro B ι W vs F ra
  have hx : CallOk Pg exI := (exTabM_ok okP tabOk hh noMemo_ok 60).1
  obtain ⟨E0', q1, q2⟩ := xInit_same args
  have hE0 : E0 = E0' := q1 XE fun E => E
  have hs0 : Same (initEnv 0 args) E0 := hE0 ▸ q2
  have hp := pre_eq
  unfold pre at hp
  obtain ⟨x, E1, H1, o1, hp, c0⟩ := exC_ok (pu := pu) hx C0 _ _ _ HT0_own hp
  obtain ⟨rfl, hp⟩ := nx_some hp
  have w1 := o1.own HT0_own
  obtain ⟨x, E2, H2, o2, hp, c1⟩ := exC_ok (pu := pu) hx C1 _ _ _ w1 hp
  obtain ⟨rfl, hp⟩ := nx_some hp
  have w2 := o2.own w1
  obtain ⟨x, E3, H3, o3, hp, c2⟩ := exC_ok (pu := pu) hx C2 _ _ _ w2 hp
  obtain ⟨rfl, hp⟩ := nx_some hp
  have w3 := o3.own w2
  obtain ⟨x, E3b, H3b, o3b, hp, c3⟩ := exC_ok (pu := pu) hx C3 _ _ _ w3 hp
  obtain ⟨rfl, hp⟩ := nx_some hp
  have w3b := o3b.own w3
  obtain ⟨x, E5, H5, o5, hp, c4⟩ := exC_ok (pu := pu) hx C4 _ _ _ w3b hp
  obtain ⟨rfl, hp⟩ := nx_some hp
  have w5 := o5.own w3b
  have hp : some (E5, H5) = some (E4, H4) := hp
  simp only [Option.some.injEq, Prod.mk.injEq] at hp
  obtain ⟨e5, h5⟩ := hp
  rw [e5, h5] at c4
  rw [h5] at w5
  rw [← HT0_ah] at F
  refine callsIn_wide (n := 0) |>.1 (callsIn_of_wp_marks Tryz.func155 (show Tryz.f155.body = some B155 from by kernel_rfl) trivial ?_)
  rw [wpIn_wide, shape]
  have hE : relE Pg ι 53 [] (initEnv 0 args) { tmps := vs.toArray ++ Array.replicate (Tryz.f155.ntmps - vs.toArray.size) undef, defers := [] } := initE (by kernel_rfl) ra
  refine wp_seq (piece okP c0 F hE hs0 fun ι1 W1 e1 a1 l1 F1 r1 s1 => ?_)
  refine wp_seq (piece okP c1 F1 r1 s1 fun ι2 W2 e2 a2 l2 F2 r2 s2 => ?_)
  refine wp_seq (piece okP c2 F2 r2 s2 fun ι3 W3 e3 a3 l3 F3 r3 s3 => ?_)
  refine wp_seq (piece okP c3 F3 r3 s3 fun ι4 W4 e4 a4 l4 F4 r4 s4 => ?_)
  refine wp_seq (wp_seq (piece okP c4 F4 r4 s4 fun ι5 W5 e5 a5 l5 F5 r5 s5 => ?_))
  have ll : Names.le ι ι5 := Names.le_trans l1 (Names.le_trans l2 (Names.le_trans l3 (Names.le_trans l4 l5)))
  refine wp_block ?_
  rw [← wpIn_wide (n := 0)]
  refine wpIn_rangeFunc fun fn hfn => ?_
  -- the two blocks
  obtain ⟨rec, hrec⟩ : ∃ rec : Loop, rec = { state := .ready, pending := none, fn, tmps := a5.tmps, params := #[32, 33], assign := asg, body := bdy, defers := W5.heap.size } := ⟨_, rfl⟩
  obtain ⟨Wl, hWl⟩ : ∃ Wl, (W5.alloc (.deferred (some []))).alloc (.loop rec) = Wl := ⟨_, rfl⟩
  have hL : Wl.heap[W5.heap.size + 1]? = some (.loop rec) := by
    rw [← hWl]; have := World.alloc_heap_new (W5.alloc (.deferred (some []))) (.loop rec); rwa [World.size_alloc] at this
  have hD : Wl.heap[W5.heap.size]? = some (.deferred (some [])) := by
    rw [← hWl]; exact (Below.heap_alloc _ _ _ (by simp)).trans (World.alloc_heap_new W5 _)
  have hb : ∀ b, b < W5.heap.size → Wl.heap[b]? = W5.heap[b]? := fun b hb => by
    rw [← hWl]; exact (Below.heap_alloc _ _ _ (by simp; omega)).trans (Below.heap_alloc _ _ _ hb)
  have hsz : Wl.heap.size = W5.heap.size + 2 := by rw [← hWl]; simp
  have ho : Wl.os = W5.os := by rw [← hWl]; rfl
  have ht : Wl.tape = W5.tape := by rw [← hWl]; rfl
  have hpp : Wl.output = W5.output := by rw [← hWl]; rfl
  have F6 := F5.grow (W' := Wl) (fun c => c = W5.heap.size ∨ c = W5.heap.size + 1) hb (fun b h => by omega) ho ht hpp (by omega)
  have nD : ¬ B.F W5.heap.size := fun h => Nat.lt_irrefl _ (F5.frame _ h).2
  have nL : ¬ B.F (W5.heap.size + 1) := fun h => by have := (F5.frame _ h).2; omega
  -- the iterator
  have hi := post_eq (W5.heap.size + 1)
  unfold post at hi
  obtain ⟨ae, H6, o6, hi, hent, hc⟩ := hx _ _ _ _ _ _ w5 hi
  cases ae with
  | panic _ => cases hi
  | ret u =>
  have hi : exC Pg 53 exI pu C5 fin5 E4 H6 = some () := hi
  obtain ⟨x, E7, H7, o7, hi, c7⟩ := exC_ok (pu := pu) hx C5 _ _ _ (o6.own w5) hi
  have hfin : x = .ret ∧ XE.get E7 6 = .slc none 0 ∧ XE.get E7 7 = .int .u64 1 := by
    unfold fin5 at hi
    cases x <;> first | (cases hi; done) | skip
    obtain ⟨hb, _⟩ := bif_some hi
    rw [Bool.and_eq_true] at hb
    exact ⟨rfl, sameV_eq _ _ hb.1, sameV_eq _ _ hb.2⟩
  obtain ⟨rfl, g6, g7⟩ := hfin
  have hρ := rel_opnd r5 (.tmp 31)
  rw [show opnd e5 (.tmp 31) = .fn (.func 266) [] [sP] from (s5 31).trans slot31] at hρ
  obtain ⟨fa, fb, hf1, hf2, hf3⟩ := rel_fn hρ
  simp only [relL] at hf2
  subst hf2
  refine ⟨W5.heap.size + 1, [{ target := .collected W5.heap.size, args := #[] }], Wl, { target := .fn (.func 266) fb.toArray, args := #[.func (.yield (W5.heap.size + 1)) #[] #[]] }, Wl, 266,
    #[.func (.yield (W5.heap.size + 1)) #[] #[]] ++ fb.toArray, Wl, ?_, ?_, fun _ _ => trivial, ?_, fun h => by simp [Fence.wide] at h, ?_⟩
  · rw [← hWl, hrec]; exact run_enterLoop_outer _ _ _ _ _
  · simp only [resolve, hf1]
    simp [go_sem]
  · exact run_callFunc hent _ Wl
  have ry : rel Pg ι5 (.fn (.yield (W5.heap.size + 1)) [] []) (.func (.yield (W5.heap.size + 1)) #[] #[]) := .inr ⟨rfl, [], [], rfl, rfl, rfl⟩
  have hcall := hc _ ι5 Wl (.func (.yield (W5.heap.size + 1)) #[] #[] :: fb) F6 (relL_cons ry hf3)
  have harr : (Value.func (.yield (W5.heap.size + 1)) #[] #[] :: fb).toArray = #[.func (.yield (W5.heap.size + 1)) #[] #[]] ++ fb.toArray := by simp
  rw [harr] at hcall
  refine callsIn_wide.2 (hcall.mono ?_)
  rintro e W6 ⟨ι6, h6, ae', l6, F7, re, rfl, rfl⟩
  cases e with
  | panicked _ => exact re.elim
  | outgrown => exact re.elim
  | returned v =>
  have hL6 : W6.heap[W5.heap.size + 1]? = some (.loop rec) := (F7.frame _ (.inr (.inr rfl))).1.trans hL
  refine ⟨none, W6.putObj (W5.heap.size + 1) (.loop { rec with state := .exhausted }), ?_, ?_⟩
  · have := run_endLoop (P := Pg) hL6 (by rw [hrec]; simp)
    rw [this, hrec]
  -- the rest
  obtain ⟨W7, hW7⟩ : ∃ W7, W6.putObj (W5.heap.size + 1) (.loop { rec with state := .exhausted }) = W7 := ⟨_, rfl⟩
  rw [hW7]
  have F8 : Fits Pg ⟨fun c => B.F c ∨ c = W5.heap.size, Wl⟩ ι6 H6.ah W7 := by
    rw [← hW7]
    refine fits_put (Fits.rebase (B' := ⟨fun c => B.F c ∨ (c = W5.heap.size ∨ c = W5.heap.size + 1), Wl⟩) ⟨fun c hc => ⟨hc.elim .inl fun h => .inr (.inl h), rfl⟩, rfl, rfl, rfl, Nat.le_refl _⟩ F7) hL6 ⟨fun _ _ _ h => (by cases h), fun _ _ h => (by cases h), fun _ _ h => (by cases h), fun _ _ _ _ h => (by cases h)⟩ ?_
    rintro (h | h)
    · exact nL h
    · omega
  have r5' := relE_le l6 r5
  have hdef : a5.defers = [] := r5'.2.1
  have r8 : relE Pg ι6 53 [(Pg.funcs.size, [.agg [.und, .int .u64 (W5.heap.size : Int)]])] e5 { a5 with defers := [{ target := .collected W5.heap.size, args := #[] }] ++ a5.defers } :=
    ⟨r5'.1, ⟨_, _, rfl, .inr ⟨Nat.le_refl _, W5.heap.size, rfl, rfl⟩, hdef⟩, r5'.2.2⟩
  show C5.wp Pg _ _ _
  refine wp_mono (vc_ok okP C5 _ (fun x e h => x = .ret ∧ Same e E7 ∧ h = H7.ah) ι6 H6.ah W7 e5 _ F8 r8 (c7 e5 s5 _ fun e' h => ⟨rfl, h, rfl⟩)) ?_
  rintro x a w ⟨ι', h', e', ax, p1, p2, p3, p4, rfl, p6, rfl⟩
  cases x with
  | ret =>
    obtain ⟨d, rest, hd, hx8, hr8⟩ := p3.2.1
    have hdm : d = { target := .collected W5.heap.size, args := #[] } := by
      rcases hx8 with ⟨cap, _, hbad⟩ | ⟨_, r, hr, hd⟩
      · exfalso
        obtain ⟨y, ys, h1, _, _⟩ := relL_cons_iff.1 hbad
        rcases h1 with h1 | ⟨_, h1⟩
        · cases h1
        · simp only [relC, relCs] at h1
          obtain ⟨_, _, h1, _⟩ := h1
          exact h1
      · simp only [List.cons.injEq, V.agg.injEq, V.int.injEq, true_and, and_true] at hr
        have : W5.heap.size = r := by omega
        rw [this]; exact hd
    have hrest : rest = [] := hr8
    have hDw : w.heap[W5.heap.size]? = some (.deferred (some [])) := (p2.frame _ (.inr rfl)).1.trans hD
    have F9 : Fits Pg ⟨fun c => B.F c ∨ False, Wl⟩ ι' H7.ah (w.putObj W5.heap.size (.deferred none)) := by
      refine fits_put (Fits.rebase (B' := ⟨fun c => B.F c ∨ c = W5.heap.size, Wl⟩) ⟨fun c hc => ⟨hc.elim .inl fun h => h.elim, rfl⟩, rfl, rfl, rfl, Nat.le_refl _⟩ p2) hDw ⟨fun _ _ _ h => (by cases h), fun _ _ h => (by cases h), fun _ _ h => (by cases h), fun _ _ _ _ h => (by cases h)⟩ ?_
      rintro (h | h)
      · exact nD h
      · exact h
    have hres : aRes Pg e' H7.ah Tryz.f155.results.toList = some [.slc none 0, .int .u64 1] := by
      show aRes Pg e' H7.ah [.tmp 6, .tmp 7] = _
      simp only [aRes, p6 6, p6 7, g6, g7]
    obtain ⟨v, hv1, hv2⟩ := run_results okP F9 p3 hres
    show LeavesInM Fence.wide 0 Pg Tryz.f155 a.tmps _ a.defers .returning w
    rw [hd, hdm, hrest]
    refine ⟨by simp, .inl ⟨W5.heap.size, _, rfl, run_takeDeferred hDw, ?_⟩⟩
    exact ⟨v, hv1, ι', H7.ah, .ret (one [.slc none 0, .int .u64 1]), Names.le_trans ll (Names.le_trans l6 p1), F9.rebase (BaseLe.grow F5 (fun _ => False) hb ho ht hpp (by omega)), hv2, rfl⟩
  | _ => exact p4.elim
theorem itemsP (hh : HdOk Pg hd) (h : AH) : ACalls Pg 155 args h (pureE (.tup [.slc none 0, .int .u64 1]) h) := lift_nil rfl rfl (itemsC0 hh) h
end Go.Proofs.YtcglbpjpbjaecaaGreat.It
namespace Go.Proofs.YtcglbpjpbjaecaaGreat.So
open Go Go.Ab Go.RowKit Go.Proofs
open Go.Proofs.YtcglbpjpbjaecaaGreat.Ru (Pg okP)
set_option maxRecDepth 100000
def slRen : Go.Shelf.Ren := ⟨fun | 6 => 161 | 10 => 238 | 11 => 239 | 12 => 240 | 13 => 241 | 14 => 242 | 24 => 276 | 25 => 277 | 26 => 278 | 27 => 279 | 28 => 280 | 29 => 281 | 30 => 282 | 31 => 283 | 32 => 284 | 33 => 285 | 34 => 295 | 35 => 296 | 36 => 297 | 37 => 298 | 38 => 299 | 39 => 304 | n => n, fun | 20 => 20 | 26 => 298 | 35 => 386 | 0 => 0 | 37 => 388 | 3 => 3 | 41 => 330 | 44 => 393 | 49 => 31 | 51 => 49 | 4 => 4 | 54 => 429 | 53 => 428 | 58 => 124 | 5 => 5 | 9 => 9 | 60 => 436 | 64 => 439 | 66 => 444 | 67 => 445 | 17 => 17 | 32 => 383 | 33 => 384 | 82 => 458 | 12 => 12 | 75 => 452 | 76 => 453 | 77 => 454 | 78 => 346 | 79 => 455 | 80 => 456 | n => n, fun n => n⟩
theorem slLay : LaysGg.n6 Tryz.prog slRen := {
  mixed := by kernel_rfl,
  f6 := Tryz.func161.trans (congrArg some (by kernel_rfl)),
  f10 := Tryz.func238.trans (congrArg some (by kernel_rfl)),
  f11 := Tryz.func239.trans (congrArg some (by kernel_rfl)),
  f12 := Tryz.func240.trans (congrArg some (by kernel_rfl)),
  f13 := Tryz.func241.trans (congrArg some (by kernel_rfl)),
  f14 := Tryz.func242.trans (congrArg some (by kernel_rfl)),
  f24 := Tryz.func276.trans (congrArg some (by kernel_rfl)),
  f25 := Tryz.func277.trans (congrArg some (by kernel_rfl)),
  f26 := Tryz.func278.trans (congrArg some (by kernel_rfl)),
  f27 := Tryz.func279.trans (congrArg some (by kernel_rfl)),
  f28 := Tryz.func280.trans (congrArg some (by kernel_rfl)),
  f29 := Tryz.func281.trans (congrArg some (by kernel_rfl)),
  f30 := Tryz.func282.trans (congrArg some (by kernel_rfl)),
  f31 := Tryz.func283.trans (congrArg some (by kernel_rfl)),
  f32 := Tryz.func284.trans (congrArg some (by kernel_rfl)),
  f33 := Tryz.func285.trans (congrArg some (by kernel_rfl)),
  f34 := Tryz.func295.trans (congrArg some (by kernel_rfl)),
  f35 := Tryz.func296.trans (congrArg some (by kernel_rfl)),
  f36 := Tryz.func297.trans (congrArg some (by kernel_rfl)),
  f37 := Tryz.func298.trans (congrArg some (by kernel_rfl)),
  f38 := Tryz.func299.trans (congrArg some (by kernel_rfl)),
  f39 := Tryz.func304.trans (congrArg some (by kernel_rfl)),
  t0 := Tryz.underlying0,
  a0 := Tryz.isAgg0,
  z0 := Tryz.sizeOf0,
  v0 := Tryz.zeroValue0,
  i0 := by kernel_rfl,
  t3 := Tryz.underlying3,
  a3 := Tryz.isAgg3,
  z3 := Tryz.sizeOf3,
  v3 := Tryz.zeroValue3,
  i3 := by kernel_rfl,
  t4 := Tryz.underlying4,
  a4 := Tryz.isAgg4,
  z4 := Tryz.sizeOf4,
  v4 := Tryz.zeroValue4,
  i4 := by kernel_rfl,
  t5 := Tryz.underlying5,
  a5 := Tryz.isAgg5,
  z5 := Tryz.sizeOf5,
  v5 := Tryz.zeroValue5,
  i5 := by kernel_rfl,
  t9 := Tryz.underlying9,
  a9 := Tryz.isAgg9,
  z9 := Tryz.sizeOf9,
  v9 := Tryz.zeroValue9,
  i9 := by kernel_rfl,
  t12 := Tryz.underlying12,
  a12 := Tryz.isAgg12,
  z12 := Tryz.sizeOf12,
  v12 := Tryz.zeroValue12,
  i12 := by kernel_rfl,
  t17 := Tryz.underlying17,
  a17 := Tryz.isAgg17,
  z17 := Tryz.sizeOf17,
  v17 := Tryz.zeroValue17,
  i17 := by kernel_rfl,
  t20 := Tryz.underlying20,
  a20 := Tryz.isAgg20,
  z20 := Tryz.sizeOf20,
  v20 := Tryz.zeroValue20,
  i20 := by kernel_rfl,
  t26 := Tryz.underlying298,
  a26 := Tryz.isAgg298,
  z26 := Tryz.sizeOf298,
  v26 := Tryz.zeroValue298,
  i26 := by kernel_rfl,
  t32 := Tryz.underlying383,
  a32 := Tryz.isAgg383,
  z32 := Tryz.sizeOf383,
  v32 := Tryz.zeroValue383,
  i32 := by kernel_rfl,
  t33 := Tryz.underlying384,
  a33 := Tryz.isAgg384,
  z33 := Tryz.sizeOf384,
  v33 := Tryz.zeroValue384,
  i33 := by kernel_rfl,
  t35 := Tryz.underlying386,
  a35 := Tryz.isAgg386,
  z35 := Tryz.sizeOf386,
  v35 := Tryz.zeroValue386,
  i35 := by kernel_rfl,
  t37 := Tryz.underlying388,
  a37 := Tryz.isAgg388,
  z37 := Tryz.sizeOf388,
  v37 := Tryz.zeroValue388,
  i37 := by kernel_rfl,
  t41 := Tryz.underlying330,
  a41 := Tryz.isAgg330,
  z41 := Tryz.sizeOf330,
  v41 := Tryz.zeroValue330,
  i41 := by kernel_rfl,
  t44 := Tryz.underlying393,
  a44 := Tryz.isAgg393,
  z44 := Tryz.sizeOf393,
  v44 := Tryz.zeroValue393,
  i44 := by kernel_rfl,
  t49 := Tryz.underlying31,
  a49 := Tryz.isAgg31,
  z49 := Tryz.sizeOf31,
  v49 := Tryz.zeroValue31,
  i49 := by kernel_rfl,
  t51 := Tryz.underlying49,
  a51 := Tryz.isAgg49,
  z51 := Tryz.sizeOf49,
  v51 := Tryz.zeroValue49,
  i51 := by kernel_rfl,
  t53 := Tryz.underlying428,
  a53 := Tryz.isAgg428,
  z53 := Tryz.sizeOf428,
  v53 := Tryz.zeroValue428,
  i53 := by kernel_rfl,
  t54 := Tryz.underlying429,
  a54 := Tryz.isAgg429,
  z54 := Tryz.sizeOf429,
  v54 := Tryz.zeroValue429,
  i54 := by kernel_rfl,
  t58 := Tryz.underlying124,
  a58 := Tryz.isAgg124,
  z58 := Tryz.sizeOf124,
  v58 := Tryz.zeroValue124,
  i58 := by kernel_rfl,
  t60 := Tryz.underlying436,
  a60 := Tryz.isAgg436,
  z60 := Tryz.sizeOf436,
  v60 := Tryz.zeroValue436,
  i60 := by kernel_rfl,
  t64 := Tryz.underlying439,
  a64 := Tryz.isAgg439,
  z64 := Tryz.sizeOf439,
  v64 := Tryz.zeroValue439,
  i64 := by kernel_rfl,
  t66 := Tryz.underlying444,
  a66 := Tryz.isAgg444,
  z66 := Tryz.sizeOf444,
  v66 := Tryz.zeroValue444,
  i66 := by kernel_rfl,
  t67 := Tryz.underlying445,
  a67 := Tryz.isAgg445,
  z67 := Tryz.sizeOf445,
  v67 := Tryz.zeroValue445,
  i67 := by kernel_rfl,
  t75 := Tryz.underlying452,
  a75 := Tryz.isAgg452,
  z75 := Tryz.sizeOf452,
  v75 := Tryz.zeroValue452,
  i75 := by kernel_rfl,
  t76 := Tryz.underlying453,
  a76 := Tryz.isAgg453,
  z76 := Tryz.sizeOf453,
  v76 := Tryz.zeroValue453,
  i76 := by kernel_rfl,
  t77 := Tryz.underlying454,
  a77 := Tryz.isAgg454,
  z77 := Tryz.sizeOf454,
  v77 := Tryz.zeroValue454,
  i77 := by kernel_rfl,
  t78 := Tryz.underlying346,
  a78 := Tryz.isAgg346,
  z78 := Tryz.sizeOf346,
  v78 := Tryz.zeroValue346,
  i78 := by kernel_rfl,
  t79 := Tryz.underlying455,
  a79 := Tryz.isAgg455,
  z79 := Tryz.sizeOf455,
  v79 := Tryz.zeroValue455,
  i79 := by kernel_rfl,
  t80 := Tryz.underlying456,
  a80 := Tryz.isAgg456,
  z80 := Tryz.sizeOf456,
  v80 := Tryz.zeroValue456,
  i80 := by kernel_rfl,
  t82 := Tryz.underlying458,
  a82 := Tryz.isAgg458,
  z82 := Tryz.sizeOf458,
  v82 := Tryz.zeroValue458,
  i82 := by kernel_rfl }
noncomputable def siT : TypeInfo := (Pg.info? 167).get (by kernel_rfl)
noncomputable def siE : TypeInfo := (Pg.info? 170).get (by kernel_rfl)
theorem kind170 (w : World) : Sem.run Pg (Extern.Rtype.kind 170) w = .ok 25 w := by kernel_rfl
theorem swp (n : Nat) (h : n ≤ 1) : Pg.funcs.findIdx? (·.name == "internal/reflectlite" ++ ".Swapper$" ++ toString (Lib.swapperK n siE 25)) = some (267 + n) := by
  rcases Nat.eq_zero_or_pos n with h0 | h0
  · subst h0; kernel_rfl
  · obtain rfl : n = 1 := by omega
    kernel_rfl
theorem tiny (p : Option Addr) (n c : Nat) (h : n ≤ 1) (lf : Fn) (la lb : Array Value) (w : World) :
    Calls Pg 161 #[.iface 167 (.slice p n c), .func lf la lb] w fun e w' => e = .returned (.tuple #[]) ∧ ∃ os, w' = Go.Sort.grow w os :=
  Any.sort_Slice_tiny slLay 167 170 siT siE (by kernel_rfl) (by kernel_rfl) (by kernel_rfl) (by kernel_rfl) 25 kind170 p n c h (267 + n) (swp n h) lf la lb w
theorem sortP (a : Option (PA × Nat)) (n : Nat) (hn : n ≤ 1) (f : Fn) (x y : List V) (h : AH) : ACalls Pg 161 [.ifc 167 (.slc a n), .fn f x y] h (pureE (.tup []) h) := by
  intro B ι W vs F r
  obtain ⟨v0, vs0, h0, r0, rfl⟩ := relL_cons_iff.1 r
  obtain ⟨v1, vs1, h1, r1, rfl⟩ := relL_cons_iff.1 r0
  simp only [relL] at r1
  subst r1
  obtain ⟨z, rfl, hz, _⟩ := rel_ifc h0
  obtain ⟨fa, fb, rfl, _, _⟩ := rel_fn h1
  obtain ⟨p, c, rfl⟩ : ∃ p c, z = .slice p n c := by
    cases a with
    | none => obtain ⟨rfl, rfl⟩ := rel_slc_nil hz; exact ⟨none, 0, rfl⟩
    | some a => obtain ⟨q, cap, rfl, _⟩ := rel_slc (a := a.1) (s := a.2) hz; exact ⟨some q, cap, rfl⟩
  refine (tiny p n c hn f fa.toArray fb.toArray W).mono ?_
  rintro e w' ⟨rfl, os, rfl⟩
  have hold : ∀ b, b < W.heap.size → (Go.Sort.grow W os).heap[b]? = W.heap[b]? := fun b hb => Go.Sort.heap_grow_old W os hb
  have hs : W.heap.size ≤ (Go.Sort.grow W os).heap.size := by simp
  refine ⟨ι, h, .ret (.tup []), Names.le_refl _, ?_, .inr ⟨rfl, [], by simp [relL], by simp [Value.cells]⟩, rfl, rfl⟩
  exact (F.grow (fun _ => False) hold (fun _ h => h.elim) rfl rfl rfl hs).rebase (BaseLe.grow F _ hold rfl rfl rfl hs)
noncomputable def siT2 : TypeInfo := (Pg.info? 193).get (by kernel_rfl)
noncomputable def siE2 : TypeInfo := (Pg.info? 22).get (by kernel_rfl)
theorem kind22 (w : World) : Sem.run Pg (Extern.Rtype.kind 22) w = .ok 9 w := by kernel_rfl
theorem swp2 (n : Nat) (h : n ≤ 1) : Pg.funcs.findIdx? (·.name == "internal/reflectlite" ++ ".Swapper$" ++ toString (Lib.swapperK n siE2 9)) = some (267 + n) := by
  rcases Nat.eq_zero_or_pos n with h0 | h0
  · subst h0; kernel_rfl
  · obtain rfl : n = 1 := by omega
    kernel_rfl
theorem tiny2 (p : Option Addr) (n c : Nat) (h : n ≤ 1) (lf : Fn) (la lb : Array Value) (w : World) :
    Calls Pg 161 #[.iface 193 (.slice p n c), .func lf la lb] w fun e w' => e = .returned (.tuple #[]) ∧ ∃ os, w' = Go.Sort.grow w os :=
  Any.sort_Slice_tiny slLay 193 22 siT2 siE2 (by kernel_rfl) (by kernel_rfl) (by kernel_rfl) (by kernel_rfl) 9 kind22 p n c h (267 + n) (swp2 n h) lf la lb w
theorem sortP2 (a : Option (PA × Nat)) (n : Nat) (hn : n ≤ 1) (f : Fn) (x y : List V) (h : AH) : ACalls Pg 161 [.ifc 193 (.slc a n), .fn f x y] h (pureE (.tup []) h) := by
  intro B ι W vs F r
  obtain ⟨v0, vs0, h0, r0, rfl⟩ := relL_cons_iff.1 r
  obtain ⟨v1, vs1, h1, r1, rfl⟩ := relL_cons_iff.1 r0
  simp only [relL] at r1
  subst r1
  obtain ⟨z, rfl, hz, _⟩ := rel_ifc h0
  obtain ⟨fa, fb, rfl, _, _⟩ := rel_fn h1
  obtain ⟨p, c, rfl⟩ : ∃ p c, z = .slice p n c := by
    cases a with
    | none => obtain ⟨rfl, rfl⟩ := rel_slc_nil hz; exact ⟨none, 0, rfl⟩
    | some a => obtain ⟨q, cap, rfl, _⟩ := rel_slc (a := a.1) (s := a.2) hz; exact ⟨some q, cap, rfl⟩
  refine (tiny2 p n c hn f fa.toArray fb.toArray W).mono ?_
  rintro e w' ⟨rfl, os, rfl⟩
  have hold : ∀ b, b < W.heap.size → (Go.Sort.grow W os).heap[b]? = W.heap[b]? := fun b hb => Go.Sort.heap_grow_old W os hb
  have hs : W.heap.size ≤ (Go.Sort.grow W os).heap.size := by simp
  refine ⟨ι, h, .ret (.tup []), Names.le_refl _, ?_, .inr ⟨rfl, [], by simp [relL], by simp [Value.cells]⟩, rfl, rfl⟩
  exact (F.grow (fun _ => False) hold (fun _ h => h.elim) rfl rfl rfl hs).rebase (BaseLe.grow F _ hold rfl rfl rfl hs)
end Go.Proofs.YtcglbpjpbjaecaaGreat.So
namespace Go.Proofs.YtcglbpjpbjaecaaGreat.Sh
open Go Go.Ab Go.RowKit
open Go.Proofs.YtcglbpjpbjaecaaGreat.Ru (Pg okP)
set_option maxRecDepth 100000
noncomputable def B265 : Code := (Tryz.f265.body).getD .skip
def R265 : List ResultVar := [.tmp 4]
abbrev N265 : Nat := 28
def K265 : KT := (.seq .leaf (.seq .leaf (.join (.seq .leaf (.one (.loop (.join (.seq .leaf (.two .leaf .leaf) [1, 5, 6, 12]) (.join (.one (.seq .leaf (.seq .leaf (.one (.loop (.seq .leaf (.join (.two .leaf .leaf) (.join (.one .leaf) .leaf [1, 5, 6, 21]) [1, 5, 6, 21]) [1, 5, 6, 21, 22]) [1, 5, 6, 21])) [1, 5, 6, 21]) [1, 5, 6])) .leaf [1, 5, 6]) [1, 5, 6]) [1, 5, 6])) [1, 5, 6]) (.seq .leaf .leaf [4]) [5]) [1, 5]) [0, 1])
def J265_1101001001100111 (Q : AEnd → AH → Prop) (n n1 : Nat) (x1 x5 x6 x21 : V) (h : AH) : Prop := vcAt Pg N265 B265 K265 [1, 1, 0, 1, 0, 0, 1, 0, 0, 1, 1, 0, 0, 1, 1, 1] [n, n1] (vcRet Pg R265 Q) [(1, x1), (5, x5), (6, x6), (21, x21)] h
def J265_110100100110011 (Q : AEnd → AH → Prop) (n n1 : Nat) (x1 x5 x6 x21 : V) (h : AH) : Prop := vcAt Pg N265 B265 K265 [1, 1, 0, 1, 0, 0, 1, 0, 0, 1, 1, 0, 0, 1, 1] [n, n1] (vcRet Pg R265 Q) [(1, x1), (5, x5), (6, x6), (21, x21)] h
def J265_11010011 (Q : AEnd → AH → Prop) (n : Nat) (x1 x5 x6 : V) (h : AH) : Prop := vcAt Pg N265 B265 K265 [1, 1, 0, 1, 0, 0, 1, 1] [n] (vcRet Pg R265 Q) [(1, x1), (5, x5), (6, x6)] h
def L265_110100100110 (Q : AEnd → AH → Prop) (n : Nat) (n1 : Nat) (x1 x5 x6 x21 : V) (h : AH) : Prop := loopAt Pg N265 B265 K265 [1, 1, 0, 1, 0, 0, 1, 0, 0, 1, 1, 0] [n] n1 (vcRet Pg R265 Q) [(1, x1), (5, x5), (6, x6), (21, x21)] h
def J265_1101001 (Q : AEnd → AH → Prop) (n : Nat) (x1 x5 x6 : V) (h : AH) : Prop := vcAt Pg N265 B265 K265 [1, 1, 0, 1, 0, 0, 1] [n] (vcRet Pg R265 Q) [(1, x1), (5, x5), (6, x6)] h
def J265_111 (Q : AEnd → AH → Prop) (x5 : V) (h : AH) : Prop := vcAt Pg N265 B265 K265 [1, 1, 1] [] (vcRet Pg R265 Q) [(5, x5)] h
def L265_11010 (Q : AEnd → AH → Prop) (n : Nat) (x1 x5 x6 : V) (h : AH) : Prop := loopAt Pg N265 B265 K265 [1, 1, 0, 1, 0] [] n (vcRet Pg R265 Q) [(1, x1), (5, x5), (6, x6)] h
theorem J265_1101001001100111_eq (Q : AEnd → AH → Prop) (n n1 : Nat) (x1 x5 x6 x21 : V) (h : AH) : J265_1101001001100111 Q n n1 x1 x5 x6 x21 h = (
  bindV (still (aBin Pg .add 3 x21 (V.int .i64 1) true) h) fun v17 h18 =>
  Meet (L265_110100100110 Q n n1 x1 x5 x6 v17 h18)) := by kernel_rfl
theorem J265_110100100110011_eq (Q : AEnd → AH → Prop) (n n1 : Nat) (x1 x5 x6 x21 : V) (h : AH) : J265_110100100110011 Q n n1 x1 x5 x6 x21 h = (
  ACalls Pg 294 [x5] h (aEnd (fun v15 h16 =>
  Meet (J265_1101001001100111 Q n n1 x1 v15 x6 x21 h16)) fun v h => Q (.panic v) h)) := by kernel_rfl
theorem J265_11010011_eq (Q : AEnd → AH → Prop) (n : Nat) (x1 x5 x6 : V) (h : AH) : J265_11010011 Q n x1 x5 x6 h = (
  bindV (still (aBin Pg .add 3 x6 (V.int .i64 1) true) h) fun v19 h20 =>
  Meet (L265_11010 Q n x1 x5 v19 h20)) := by kernel_rfl
theorem L265_110100100110_eq (Q : AEnd → AH → Prop) (n : Nat) (n1 : Nat) (x1 x5 x6 x21 : V) (h : AH) : L265_110100100110 Q n (n1 + 1) x1 x5 x6 x21 h = (
  bindV (still (aBin Pg .lss 3 x21 (V.int .i64 8) true) h) fun v13 h14 =>
  vcIf v13 (
  Meet (J265_110100100110011 Q n n1 x1 x5 x6 x21 h14)) (
  Meet (J265_11010011 Q n x1 x5 x6 h14))) := by kernel_rfl
theorem J265_1101001_eq (Q : AEnd → AH → Prop) (n : Nat) (x1 x5 x6 : V) (h : AH) : J265_1101001 Q n x1 x5 x6 h = (
  bindV (still (aIndex Pg 9 x1 x6) h) fun v7 h8 =>
  bindV (still (aConv Pg h8 5 31 v7) h8) fun v9 h10 =>
  bindV (still (aBin Pg .xor 31 x5 v9 false) h10) fun v11 h12 =>
  ∃ n1, Meet (L265_110100100110 Q n n1 x1 v11 x6 (V.int .i64 0) h12)) := by kernel_rfl
theorem J265_111_eq (Q : AEnd → AH → Prop) (x5 : V) (h : AH) : J265_111 Q x5 h = (
  bindV (still (aUn .xor x5) h) fun v21 h22 =>
  Q (.ret v21) h22) := by kernel_rfl
theorem L265_11010_eq (Q : AEnd → AH → Prop) (n : Nat) (x1 x5 x6 : V) (h : AH) : L265_11010 Q (n + 1) x1 x5 x6 h = (
  bindV (aBuiltin Pg h .len [9] [x1]) fun v3 h4 =>
  bindV (still (aBin Pg .lss 3 x6 v3 false) h4) fun v5 h6 =>
  vcIf v5 (
  Meet (J265_1101001 Q n x1 x5 x6 h6)) (
  Meet (J265_111 Q x5 h6))) := by kernel_rfl
theorem S265 (Q : AEnd → AH → Prop) (a0 a1 : V) (h : AH) : vc Pg N265 B265 K265 (vcRet Pg R265 Q) (initEnv 0 [a0, a1]) h = (
  bindV (still (aUn .xor a0) h) fun v1 h2 =>
  ∃ n, Meet (L265_11010 Q n a1 v1 (V.int .i64 0) h2)) := by kernel_rfl
theorem C265 (Q : AEnd → AH → Prop) (a0 a1 : V) (h : AH) (c :
  bindV (still (aUn .xor a0) h) fun v1 h2 =>
  ∃ n, Meet (L265_11010 Q n a1 v1 (V.int .i64 0) h2)) : ACalls Pg 265 [a0, a1] h Q :=
  acalls_of_vc okP Tryz.func265 (show Tryz.f265.body = some B265 from by kernel_rfl) K265 (by rw [← S265 Q a0 a1 h] at c; exact c)
noncomputable def B294 : Code := (Tryz.f294.body).getD .skip
def R294 : List ResultVar := [.tmp 2]
abbrev N294 : Nat := 10
def K294 : KT := (.seq .leaf (.seq .leaf .leaf [2]) [0])
theorem S294 (Q : AEnd → AH → Prop) (a0 : V) (h : AH) : vc Pg N294 B294 K294 (vcRet Pg R294 Q) (initEnv 0 [a0]) h = (
  bindV (still (aBin Pg .shr 31 a0 (V.int .u64 1) true) h) fun v1 h2 =>
  bindV (still (aBin Pg .and 31 a0 (V.int .u32 1) true) h2) fun v3 h4 =>
  bindV (still (aUn .neg v3) h4) fun v5 h6 =>
  bindV (still (aBin Pg .and 31 (V.int .u32 3988292384) v5 true) h6) fun v7 h8 =>
  bindV (still (aBin Pg .xor 31 v1 v7 false) h8) fun v9 h10 =>
  Q (.ret v9) h10) := by kernel_rfl
theorem C294 (Q : AEnd → AH → Prop) (a0 : V) (h : AH) (c :
  bindV (still (aBin Pg .shr 31 a0 (V.int .u64 1) true) h) fun v1 h2 =>
  bindV (still (aBin Pg .and 31 a0 (V.int .u32 1) true) h2) fun v3 h4 =>
  bindV (still (aUn .neg v3) h4) fun v5 h6 =>
  bindV (still (aBin Pg .and 31 (V.int .u32 3988292384) v5 true) h6) fun v7 h8 =>
  bindV (still (aBin Pg .xor 31 v1 v7 false) h8) fun v9 h10 =>
  Q (.ret v9) h10) : ACalls Pg 294 [a0] h Q :=
  acalls_of_vc okP Tryz.func294 (show Tryz.f294.body = some B294 from by kernel_rfl) K294 (by rw [← S294 Q a0 h] at c; exact c)
end Go.Proofs.YtcglbpjpbjaecaaGreat.Sh
namespace Go.Proofs.YtcglbpjpbjaecaaGreat.Sh
open Go Go.Ab Go.RowKit
open Go.Proofs.YtcglbpjpbjaecaaGreat.Ru (Pg okP crcStep crc8 crcGo)
set_option maxRecDepth 10000
theorem bv32 (v : Nat) (h : v < 4294967296) : (BitVec.ofInt 32 (v : Int)).toNat = v := by
  rw [BitVec.toNat_ofInt]
  have : ((v : Int) % ((2 ^ 32 : Nat) : Int)).toNat = v % 2 ^ 32 := by omega
  rw [this]; exact Nat.mod_eq_of_lt (by simpa using h)
theorem xor32 (a b : Nat) (ha : a < 4294967296) (hb : b < 4294967296) : bitI .xor .u32 (a : Int) (b : Int) = ((Nat.xor a b : Nat) : Int) ∧ Nat.xor a b < 4294967296 := by
  have h3 : (a ^^^ b) < 2 ^ 32 := Nat.xor_lt_two_pow (by simpa using ha) (by simpa using hb)
  have h4 : (a ^^^ b) < 4294967296 := by simpa using h3
  refine ⟨?_, h4⟩
  simp only [bitI]
  have : ((BitVec.ofInt IntKind.u32.bits (a : Int) ^^^ BitVec.ofInt IntKind.u32.bits (b : Int)).toNat) = a ^^^ b := by
    show (BitVec.ofInt 32 (a : Int) ^^^ BitVec.ofInt 32 (b : Int)).toNat = a ^^^ b
    rw [BitVec.toNat_xor, bv32 a ha, bv32 b hb]
  rw [this, wrap_u32]
  show _ = ((a ^^^ b : Nat) : Int)
  exact Int.emod_eq_of_lt (by omega) (by omega)
theorem and1 (a : Nat) (ha : a < 4294967296) : bitI .and .u32 (a : Int) 1 = ((a % 2 : Nat) : Int) := by
  simp only [bitI]
  have : ((BitVec.ofInt IntKind.u32.bits (a : Int) &&& BitVec.ofInt IntKind.u32.bits 1).toNat) = a % 2 := by
    show (BitVec.ofInt 32 (a : Int) &&& BitVec.ofInt 32 ((1 : Nat) : Int)).toNat = a % 2
    rw [BitVec.toNat_and, bv32 a ha, bv32 1 (by decide), Nat.and_one_is_mod]
  rw [this, wrap_u32]
  exact Int.emod_eq_of_lt (by omega) (by omega)
theorem step_eq (x : Nat) : crcStep x = Nat.xor (x / 2) (3988292384 * (x % 2)) := by
  unfold crcStep
  have h1 : Nat.shiftRight x 1 = x / 2 := rfl
  have h2 : Nat.land x 1 = x % 2 := Nat.and_one_is_mod x
  rw [h1, h2]
  rfl
theorem step_lt (x : Nat) (hx : x < 4294967296) : crcStep x < 4294967296 := by
  rw [step_eq]
  have h : 3988292384 * (x % 2) < 4294967296 := by omega
  exact (xor32 (x / 2) _ (by omega) h).2
theorem stepP (x : Nat) (hx : x < 4294967296) (h : AH) : ACalls Pg 294 [.int .u32 (x : Int)] h (pureE (.int .u32 ((crcStep x : Nat) : Int)) h) := by
  refine C294 _ _ _ ?_
  refine bindS_mk (b_shr (by decide)) ?_
  have e1 : shrI .u32 (x : Int) 1 = ((x / 2 : Nat) : Int) := by
    show (x : Int) / 2 ^ 1 = _
    omega
  rw [e1]
  refine bindS_mk b_and ?_
  rw [and1 x hx]
  refine bindS_mk (show aUn .neg (.int .u32 ((x % 2 : Nat) : Int)) = some (.int .u32 (IntKind.u32.wrap (0 - ((x % 2 : Nat) : Int)))) from rfl) ?_
  refine bindS_mk b_and ?_
  have e2 : bitI .and .u32 3988292384 (IntKind.u32.wrap (0 - ((x % 2 : Nat) : Int))) = ((3988292384 * (x % 2) : Nat) : Int) := by
    rcases Nat.mod_two_eq_zero_or_one x with h | h
    · rw [h]; decide +kernel
    · rw [h]; decide +kernel
  rw [e2]
  refine bindS_mk b_xor ?_
  rw [(xor32 (x / 2) (3988292384 * (x % 2)) (by omega) (by omega)).1, step_eq]
  exact ⟨rfl, rfl⟩
theorem crc8_lt : ∀ (n x : Nat), x < 4294967296 → crc8 n x < 4294967296
  | 0, x, h => h
  | n + 1, x, h => crc8_lt n _ (step_lt x h)
theorem inner (q : AEnd → Prop) (s : V) (i : V) (n1 : Nat) (h : AH) (next : Nat → Nat → Prop)
    (c : ∀ x, x < 4294967296 → next x 0 → J265_11010011 (fun e _ => q e) n1 s (.int .u32 (x : Int)) i h)
    (hn : ∀ x m, next x (m + 1) → next (crcStep x) m) : ∀ (m n x : Nat), m ≤ 8 → m < n → x < 4294967296 → next x m → L265_110100100110 (fun e _ => q e) n1 n s (.int .u32 (x : Int)) i (.int .i64 ((8 - m : Nat) : Int)) h
  | m, 0, x, _, hmn, _, _ => absurd hmn (by omega)
  | 0, n + 1, x, _, _, hx, hk => by
    rw [L265_110100100110_eq]
    refine bindS_mk (b_lss_f (by omega)) ?_
    refine i_f ?_
    exact Meet.of (c x hx hk)
  | m + 1, n + 1, x, hm, hmn, hx, hk => by
    rw [L265_110100100110_eq]
    refine bindS_mk (b_lss_t (by omega)) ?_
    refine i_t ?_
    refine Meet.of (cast_p (J265_110100100110011_eq _ _ _ _ _ _ _ _) ?_)
    refine call_mk (stepP x hx h) ?_
    refine Meet.of (cast_p (J265_1101001001100111_eq _ _ _ _ _ _ _ _) ?_)
    refine bindS_mk (c_inc (by omega)) ?_
    have e : 8 - (m + 1) + 1 = 8 - m := by omega
    rw [e]
    exact Meet.of (inner q s i n1 h next c hn m n (crcStep x) (by omega) (by omega) (step_lt x hx) (hn x m hk))
end Go.Proofs.YtcglbpjpbjaecaaGreat.Sh
namespace Go.Proofs.YtcglbpjpbjaecaaGreat.Sh
open Go Go.Ab Go.RowKit
open Go.Proofs.YtcglbpjpbjaecaaGreat.Ru (Pg okP crcStep crc8 crcGo crcMore)
set_option maxRecDepth 10000
theorem str9 : strT Pg 9 = true := by kernel_rfl
theorem crcGo_cons (b : UInt8) (t : List UInt8) (r : Nat) : crcGo (b :: t) r = crcGo t (crc8 8 (Nat.xor r b.toNat)) := by
  simp only [crcGo]
  rw [fNat_eq]
theorem outer (q : AEnd → Prop) (h : AH) (s : List UInt8) (hs : s.length < 1000000) : ∀ (t : List UInt8) (i n r : Nat), s.drop i = t → i + t.length = s.length → t.length < n → r < 4294967296 →
    q (.ret (.int .u32 ((Nat.xor (crcGo t r) 4294967295 : Nat) : Int))) → L265_11010 (fun e _ => q e) n (.str s) (.int .u32 (r : Int)) (.int .i64 (i : Int)) h
  | t, i, 0, r, _, _, hn, _, _ => absurd hn (by omega)
  | [], i, n + 1, r, hd, hl, _, hr, c => by
    rw [L265_11010_eq]
    simp only [List.length_nil] at hl
    refine bindV_mk (len_str (by kernel_rfl)) ?_
    refine bindS_mk (b_lss_f (by omega)) ?_
    refine i_f ?_
    refine Meet.of (cast_p (J265_111_eq _ _ _) ?_)
    refine bindS_mk (show aUn .xor (.int .u32 (r : Int)) = some (.int .u32 (bitI .xor .u32 ((4294967295 : Nat) : Int) (r : Int))) from rfl) ?_
    rw [(xor32 4294967295 r (by decide) hr).1]
    have e : Nat.xor 4294967295 r = Nat.xor (crcGo [] r) 4294967295 := by
      simp only [crcGo]
      exact Nat.xor_comm _ _
    rw [e]
    exact c
  | b :: t, i, n + 1, r, hd, hl, hn, hr, c => by
    rw [L265_11010_eq]
    simp only [List.length_cons] at hl hn
    have hi : i < s.length := by omega
    have hb : s.getD i 0 = b := by
      have := congrArg (fun l => l[0]?) hd
      simp only [List.getElem?_drop, Nat.add_zero, List.getElem?_cons_zero] at this
      rw [List.getD_eq_getElem?_getD, this]; rfl
    have hbt := b.toNat_lt
    refine bindV_mk (len_str (by kernel_rfl)) ?_
    refine bindS_mk (b_lss_t (by omega)) ?_
    refine i_t ?_
    refine Meet.of (cast_p (J265_1101001_eq _ _ _ _ _ _) ?_)
    refine bindS_mk (ix_str str9 hi) ?_
    rw [hb]
    refine bindS_mk (cv_int (d := 31) .u32 (by kernel_rfl)) ?_
    have e1 : IntKind.u32.wrap (b.toNat : Int) = (b.toNat : Int) := by rw [wrap_u32]; omega
    rw [e1]
    refine bindS_mk b_xor ?_
    have hx := xor32 r b.toNat hr (by omega)
    rw [hx.1]
    refine ⟨9, Meet.of ?_⟩
    have hlt := crc8_lt 8 _ hx.2
    refine inner q (.str s) (.int .i64 (i : Int)) n h (fun x m => crc8 m x = crc8 8 (Nat.xor r b.toNat)) (fun x hx' hk => ?_) (fun x m hk => hk) 8 9 (Nat.xor r b.toNat) (by omega) (by omega) hx.2 rfl
    have hk : x = crc8 8 (Nat.xor r b.toNat) := hk
    rw [J265_11010011_eq]
    refine bindS_mk (c_inc (by omega)) ?_
    refine Meet.of ?_
    rw [hk]
    refine outer q h s hs t (i + 1) n _ ?_ (by omega) (by omega) hlt ?_
    · rw [← List.drop_drop, hd]; rfl
    · rw [crcGo_cons] at c; exact c
theorem moreP (r : Nat) (hr : r < 4294967296) (s : List UInt8) (hs : s.length < 1000000) (h : AH) : ACalls Pg 265 [.int .u32 (r : Int), .str s] h (pureE (.int .u32 ((crcMore r s : Nat) : Int)) h) := by
  refine pure_lift rfl rfl (C265 _ _ _ _ ?_) h
  refine bindS_mk (show aUn .xor (.int .u32 (r : Int)) = some (.int .u32 (bitI .xor .u32 ((4294967295 : Nat) : Int) (r : Int))) from rfl) ?_
  have hx := xor32 4294967295 r (by decide) hr
  rw [hx.1]
  refine ⟨s.length + 1, Meet.of ?_⟩
  refine outer (fun e => e = .ret (.int .u32 ((crcMore r s : Nat) : Int))) AH0 s hs s 0 (s.length + 1) _ rfl (by omega) (by omega) hx.2 ?_
  have e : Nat.xor 4294967295 r = Nat.xor r 4294967295 := Nat.xor_comm _ _
  rw [e]
  rfl
end Go.Proofs.YtcglbpjpbjaecaaGreat.Sh
namespace Go.Proofs.YtcglbpjpbjaecaaGreat.Ru
open Go Go.Ab Go.RowKit
set_option maxRecDepth 10000
noncomputable def hdW : HdF := fun f a => match Nat.beq f 161 with
  | true => (match a with
    | [.ifc t (.slc p n), .fn g x y] => bif Nat.beq t 167 && Nat.ble n 1 then some (.tup []) else none
    | _ => none)
  | false => match Nat.beq f 155 with
    | true => bif sameVs a It.args then some (.tup [.slc none 0, .int .u64 1]) else none
    | false => hd f a
theorem hdW_ok (hh : HdOk Pg hd) : HdOk Pg hdW := by
  intro f args v hv
  unfold hdW at hv
  split at hv
  · rename_i hf
    obtain rfl := Nat.eq_of_beq_eq_true hf
    split at hv
    · obtain ⟨hc, hv2⟩ := bif_some hv
      clear hv
      rw [Bool.and_eq_true] at hc
      have h1 := Nat.eq_of_beq_eq_true hc.1
      subst h1
      simp only [Option.some.injEq] at hv2; subst hv2
      exact ⟨by kernel_rfl, fun h => So.sortP _ _ (Nat.le_of_ble_eq_true hc.2) _ _ _ h⟩
    · cases hv
  · split at hv
    · rename_i hf
      obtain rfl := Nat.eq_of_beq_eq_true hf
      obtain ⟨hc, hv2⟩ := bif_some hv
      clear hv
      have h1 := sameVs_eq _ _ hc
      subst h1
      simp only [Option.some.injEq] at hv2; subst hv2
      exact ⟨by kernel_rfl, fun h => It.itemsP hh h⟩
    · exact hh f args v hv
end Go.Proofs.YtcglbpjpbjaecaaGreat.Ru
namespace Go.Proofs.YtcglbpjpbjaecaaGreat.Sh
open Go Go.Ab Go.RowKit
open Go.Proofs.YtcglbpjpbjaecaaGreat.Ru (Pg okP)
set_option maxRecDepth 100000
noncomputable def B246 : Code := (Tryz.f246.body).getD .skip
def R246 : List ResultVar := [.tmp 2]
abbrev N246 : Nat := 20
def K246 : KT := (.seq .leaf (.seq .leaf (.join (.seq .leaf (.one (.loop (.seq .leaf (.join (.two .leaf .leaf) (.one (.seq .leaf .leaf [3, 4, 6])) [3, 6]) [3, 6, 8]) [3, 6])) [3, 6]) (.seq .leaf (.seq .leaf .leaf [2]) [3]) [3]) [0, 3]) [0])
def J246_11010011 (Q : AEnd → AH → Prop) (n : Nat) (x3 x6 : V) (h : AH) : Prop := vcAt Pg N246 B246 K246 [1, 1, 0, 1, 0, 0, 1, 1] [n] (vcRet Pg R246 Q) [(3, x3), (6, x6)] h
def J246_111 (Q : AEnd → AH → Prop) (x3 : V) (h : AH) : Prop := vcAt Pg N246 B246 K246 [1, 1, 1] [] (vcRet Pg R246 Q) [(3, x3)] h
def L246_11010 (Q : AEnd → AH → Prop) (n : Nat) (x3 x6 : V) (h : AH) : Prop := loopAt Pg N246 B246 K246 [1, 1, 0, 1, 0] [] n (vcRet Pg R246 Q) [(3, x3), (6, x6)] h
theorem J246_11010011_eq (Q : AEnd → AH → Prop) (n : Nat) (x3 x6 : V) (h : AH) : J246_11010011 Q n x3 x6 h = (
  vcEntry x6 h fun v9 h10 =>
  bindV (still (aExtract v9 0) h10) fun v11 h12 =>
  bindV (aLoadV Pg h12 193 x3) fun v13 h14 =>
  bindV (aBuildSlice Pg h14 193 1 [(0, v11)]) fun v15 h16 =>
  bindV (aBuiltin Pg h16 .append [193, 193] [v13, v15]) fun v17 h18 =>
  bindV (aStoreV Pg h18 193 x3 v17) fun _ h20 =>
  Meet (L246_11010 Q n x3 x6 h20)) := by kernel_rfl
theorem J246_111_eq (Q : AEnd → AH → Prop) (x3 : V) (h : AH) : J246_111 Q x3 h = (
  bindV (aLoadV Pg h 193 x3) fun v21 h22 =>
  bindV (still (aIface Pg 193 v21) h22) fun v23 h24 =>
  ACalls Pg 161 [v23, (V.fn (.func 286) [] [x3])] h24 (aEnd (fun v25 h26 =>
  bindV (aLoadV Pg h26 193 x3) fun v27 h28 =>
  Q (.ret v27) h28) fun v h => Q (.panic v) h)) := by kernel_rfl
theorem L246_11010_eq (Q : AEnd → AH → Prop) (n : Nat) (x3 x6 : V) (h : AH) : L246_11010 Q (n + 1) x3 x6 h = (
  vcNextM x6 h fun v5 h6 =>
  bindV (still (aExtract v5 0) h6) fun v7 h8 =>
  vcIf v7 (
  Meet (J246_11010011 Q n x3 x6 h8)) (
  Meet (J246_111 Q x3 h8))) := by kernel_rfl
theorem S246 (Q : AEnd → AH → Prop) (a0 : V) (h : AH) : vc Pg N246 B246 K246 (vcRet Pg R246 Q) (initEnv 0 [a0]) h = (
  bindV (aAlloc Pg h 193) fun v1 h2 =>
  vcRange Pg 395 a0 h2 fun v3 h4 =>
  ∃ n, Meet (L246_11010 Q n v1 v3 h4)) := by kernel_rfl
theorem C246 (Q : AEnd → AH → Prop) (a0 : V) (h : AH) (c :
  bindV (aAlloc Pg h 193) fun v1 h2 =>
  vcRange Pg 395 a0 h2 fun v3 h4 =>
  ∃ n, Meet (L246_11010 Q n v1 v3 h4)) : ACalls Pg 246 [a0] h Q :=
  acalls_of_vc okP Tryz.func246 (show Tryz.f246.body = some B246 from by kernel_rfl) K246 (by rw [← S246 Q a0 h] at c; exact c)
end Go.Proofs.YtcglbpjpbjaecaaGreat.Sh
namespace Go.Proofs.YtcglbpjpbjaecaaGreat.Sh
open Go Go.Ab Go.RowKit
open Go.Proofs.YtcglbpjpbjaecaaGreat.Ru (Pg okP)
set_option maxRecDepth 100000
theorem z193 : zeroV Pg 193 = some (.slc none 0) := by kernel_rfl
theorem s193 (a : Option (PA × Nat)) (n : Nat) : hasShape Pg (.slc a n) 193 = true := by kernel_rfl
theorem u395 : ul Pg 395 = some (.map 22 399) := by kernel_rfl
theorem b22 : Pg.bytesOf 22 = 2 := by kernel_rfl
theorem callS {f : FuncId} {args : List V} {h : AH} {v : V} {K X : V → AH → Prop} (c : ACalls Pg f args h (pureE v h)) (k : K v h) : ACalls Pg f args h (aEnd K X) :=
  c.mono fun e h' q => by
    cases e with
    | ret u => obtain ⟨rfl, rfl⟩ := q; exact k
    | panic _ => exact q.elim
theorem tail246 (q : AEnd → AH → Prop) (b : Nat) (a : Option (PA × Nat)) (n : Nat) (hn : n ≤ 1) (h : AH) (hb : h.m b = some (.cells true (.one 193) (.slc a n))) (k : q (.ret (.slc a n)) h) : J246_111 q (.ptr (some ⟨b, .one 193, []⟩)) h := by
  rw [J246_111_eq]
  refine bindV_mk (ld_mk hb (by kernel_rfl) rfl) ?_
  refine bindS_mk (show aIface Pg 193 (.slc a n) = some (.ifc 193 (.slc a n)) by kernel_rfl) ?_
  refine callS (So.sortP2 a n hn _ _ _ h) ?_
  exact bindV_mk (ld_mk hb (by kernel_rfl) rfl) k
theorem sorted0 (n : Nat) (h : AH) (hn : n < h.next) (hm : h.m n = some (.mp 22 399 [])) : ACalls Pg 246 [.map (some n)] h (pureE (.slc none 0) h) := by
  refine acalls_forget (by rfl) (C246 _ _ _ ?_)
  refine bindV_mk (al_mk z193 (s193 _ _)) ?_
  have hm1 : (h.make (.cells true (.one 193) (.slc none 0))).m n = some (.mp 22 399 []) := by rw [make_m, if_neg (by omega), hm]
  refine ⟨⟨22, 399, u395⟩, ?_⟩
  simp only [hm1]
  intro st clock hl hlt hnd
  obtain rfl : st = [] := List.length_eq_zero_iff.1 hl
  refine ⟨1, Meet.of ?_⟩
  rw [L246_11010_eq]
  generalize hg : ((h.make (.cells true (.one 193) (.slc none 0))).put n (.mps 22 399 [] [] clock)).make (.mit (some n) clock [] clock) = h2
  have e2 : h2.next = h.next + 2 := by rw [← hg, make_next, put_next, make_next]
  have g1 : h2.m n = some (.mps 22 399 [] [] clock) := by rw [← hg, make_m, if_neg (by rw [put_next, make_next]; omega), put_m, if_pos rfl]
  have g2 : h2.m h.next = some (.cells true (.one 193) (.slc none 0)) := by rw [← hg, make_m, if_neg (by rw [put_next, make_next]; omega), put_m, if_neg (by omega), make_m, if_pos rfl]
  have g3 : ∀ i, i < h.next → i ≠ n → h2.m i = h.m i := fun i hi hne => by rw [← hg, make_m, if_neg (by rw [put_next, make_next]; omega), put_m, if_neg hne, make_m, if_neg (by omega)]
  have g4 : h2.m (h.next + 1) = some (.mit (some n) clock [] clock) := by rw [← hg, make_m, if_pos (by rw [put_next, make_next])]
  have hit : itV (h.make (.cells true (.one 193) (.slc none 0))).next = .ptr (some ⟨h.next + 1, .one 0, []⟩) := rfl
  show vcNextM (itV (h.make (.cells true (.one 193) (.slc none 0))).next) h2 _
  rw [hit]
  refine nextM_mk g4 g1 rfl rfl (fun i k v b he => by simp at he) fun _ => ?_
  refine bindS_mk (show aExtract _ _ = some (.bool false) from rfl) ?_
  refine i_f (Meet.of ?_)
  refine tail246 _ h.next none 0 (by omega) _ ?_ ?_
  · show (h2.put n (.mp 22 399 [])).m h.next = _
    rw [put_m, if_neg (by omega), g2]
  · refine ⟨rfl, fun i hi => ?_⟩
    by_cases e : i = n
    · subst e; rw [put_m, if_pos rfl, hm]
    · rw [put_m, if_neg e, g3 i hi e]
theorem sorted1 (n : Nat) (h : AH) (hn : n < h.next) (k : Int) (v : V) (hm : h.m n = some (.mp 22 399 [(.int .u16 k, v)])) (h2 : AH) (hx : h2.next = h.next + 4)
    (hs : ∀ i o, h2.m i = some o → (i = h.next + 3 ∧ o = .cells true (.row 22) (.agg [.int .u16 k])) ∨ h.m i = some o) :
    ACalls Pg 246 [.map (some n)] h fun e h' => e = .ret (.slc (some (⟨h.next + 3, .row 22, []⟩, 0)) 1) ∧ h' = h2 := by
  have c : ACalls Pg 246 [.map (some n)] h fun e h' => e = .ret (.slc (some (⟨h.next + 3, .row 22, []⟩, 0)) 1) ∧ (h'.next = h.next + 4 ∧ h'.m (h.next + 3) = some (.cells true (.row 22) (.agg [.int .u16 k])) ∧ ∀ i, i < h.next → h'.m i = h.m i) := by
    refine C246 _ _ _ ?_
    refine bindV_mk (al_mk z193 (s193 _ _)) ?_
    have hm1 : (h.make (.cells true (.one 193) (.slc none 0))).m n = some (.mp 22 399 [(.int .u16 k, v)]) := by rw [make_m, if_neg (by omega), hm]
    refine ⟨⟨22, 399, u395⟩, ?_⟩
    simp only [hm1]
    intro st clock hl hlt hnd
    obtain ⟨b, rfl⟩ : ∃ b, st = [b] := List.length_eq_one_iff.1 hl
    refine ⟨2, Meet.of ?_⟩
    rw [L246_11010_eq]
    generalize hg : ((h.make (.cells true (.one 193) (.slc none 0))).put n (.mps 22 399 [(.int .u16 k, v)] [b] clock)).make (.mit (some n) clock [] clock) = h2
    have e2 : h2.next = h.next + 2 := by rw [← hg, make_next, put_next, make_next]
    have g1 : h2.m n = some (.mps 22 399 [(.int .u16 k, v)] [b] clock) := by rw [← hg, make_m, if_neg (by rw [put_next, make_next]; omega), put_m, if_pos rfl]
    have g2 : h2.m h.next = some (.cells true (.one 193) (.slc none 0)) := by rw [← hg, make_m, if_neg (by rw [put_next, make_next]; omega), put_m, if_neg (by omega), make_m, if_pos rfl]
    have g3 : ∀ i, i < h.next → i ≠ n → h2.m i = h.m i := fun i hi hne => by rw [← hg, make_m, if_neg (by rw [put_next, make_next]; omega), put_m, if_neg hne, make_m, if_neg (by omega)]
    have g4 : h2.m (h.next + 1) = some (.mit (some n) clock [] clock) := by rw [← hg, make_m, if_pos (by rw [put_next, make_next])]
    have hit : itV (h.make (.cells true (.one 193) (.slc none 0))).next = .ptr (some ⟨h.next + 1, .one 0, []⟩) := rfl
    show vcNextM (itV (h.make (.cells true (.one 193) (.slc none 0))).next) h2 _
    rw [hit]
    refine nextM_mk g4 g1 rfl rfl (fun i k' v' b' he hb _ => ?_) (fun hall => absurd (hall b (by simp)) (by simp))
    have hi : i = 0 := by
      cases i with
      | zero => rfl
      | succ i => simp at he
    subst hi
    simp only [List.getElem?_cons_zero, Option.some.injEq, Prod.mk.injEq] at he hb
    obtain ⟨rfl, rfl⟩ := he
    subst hb
    refine bindS_mk (show aExtract _ _ = some (.bool true) from rfl) ?_
    refine i_t (Meet.of ?_)
    rw [J246_11010011_eq]
    refine entry_mk (i := 0) (b := b) (k := .int .u16 k) (v := v) (es := [(.int .u16 k, v)]) (st := [b]) (kt := 22) (et := 399) (clock := clock) (seen := [] ++ [b]) (since := clock) (last := clock) (m := n) ?_ ?_ rfl rfl rfl rfl ?_
    · rw [put_m, if_pos rfl]
    · rw [put_m, if_neg (by omega), g1]
    refine bindS_mk (show aExtract _ _ = some (.int .u16 k) from rfl) ?_
    generalize hg5 : h2.put (h.next + 1) (.mit (some n) clock ([] ++ [b]) clock) = h5
    have e5 : h5.next = h.next + 2 := by rw [← hg5, put_next, e2]
    have f1 : h5.m n = some (.mps 22 399 [(.int .u16 k, v)] [b] clock) := by rw [← hg5, put_m, if_neg (by omega), g1]
    have f2 : h5.m h.next = some (.cells true (.one 193) (.slc none 0)) := by rw [← hg5, put_m, if_neg (by omega), g2]
    have f3 : ∀ i, i < h.next → i ≠ n → h5.m i = h.m i := fun i hi hne => by rw [← hg5, put_m, if_neg (by omega), g3 i hi hne]
    have f4 : h5.m (h.next + 1) = some (.mit (some n) clock [b] clock) := by rw [← hg5, put_m, if_pos rfl]; rfl
    refine bindV_mk (ld_mk f2 (by kernel_rfl) rfl) ?_
    refine bindV_mk (bs_mk (e := 22) (z := .int .u16 0) (l := [.int .u16 k]) (by kernel_rfl) (by kernel_rfl) (by kernel_rfl)) ?_
    refine bindV_mk (appN (e := 22) (ws := [.int .u16 k]) (by kernel_rfl) (elemsR (l := [.int .u16 k]) (own := true) (by rw [make_m, if_pos rfl]) (by simp)) (by simp) (by rw [b22]; simp)) ?_
    have f5 : ((h5.make (.cells true (.row 22) (.agg [.int .u16 k]))).make (.cells true (.row 22) (.agg [.int .u16 k]))).m h.next = some (.cells true (.one 193) (.slc none 0)) := by rw [make_m, if_neg (by rw [make_next]; omega), make_m, if_neg (by omega), f2]
    refine bindV_mk (st_mk (v' := .slc (some (⟨h.next + 3, .row 22, []⟩, 0)) 1) f5 (by kernel_rfl) rfl (s193 _ _) (by rw [make_next, e5]; rfl)) ?_
    refine Meet.of ?_
    rw [L246_11010_eq]
    generalize hg6 : (((h5.make (.cells true (.row 22) (.agg [.int .u16 k]))).make (.cells true (.row 22) (.agg [.int .u16 k]))).put h.next (.cells true (.one 193) (.slc (some (⟨h.next + 3, .row 22, []⟩, 0)) 1))) = h6
    have e6 : h6.next = h.next + 4 := by rw [← hg6, put_next, make_next, make_next, e5]
    have p1 : h6.m n = some (.mps 22 399 [(.int .u16 k, v)] [b] clock) := by rw [← hg6, put_m, if_neg (by omega), make_m, if_neg (by rw [make_next]; omega), make_m, if_neg (by omega), f1]
    have p2 : h6.m h.next = some (.cells true (.one 193) (.slc (some (⟨h.next + 3, .row 22, []⟩, 0)) 1)) := by rw [← hg6, put_m, if_pos rfl]
    have p3 : ∀ i, i < h.next → i ≠ n → h6.m i = h.m i := fun i hi hne => by rw [← hg6, put_m, if_neg (by omega), make_m, if_neg (by rw [make_next]; omega), make_m, if_neg (by omega), f3 i hi hne]
    have p4 : h6.m (h.next + 1) = some (.mit (some n) clock [b] clock) := by rw [← hg6, put_m, if_neg (by omega), make_m, if_neg (by rw [make_next]; omega), make_m, if_neg (by omega), f4]
    have p5 : h6.m (h.next + 3) = some (.cells true (.row 22) (.agg [.int .u16 k])) := by rw [← hg6, put_m, if_neg (by omega), make_m, if_pos (by rw [make_next, e5])]
    refine nextM_mk p4 p1 rfl rfl (fun i k' v' b' he hb hns => ?_) (fun _ => ?_)
    · exfalso
      cases i with
      | zero => simp at hb; subst hb; simp at hns
      | succ i => simp at he
    refine bindS_mk (show aExtract _ _ = some (.bool false) from rfl) ?_
    refine i_f (Meet.of ?_)
    refine tail246 _ h.next (some (⟨h.next + 3, .row 22, []⟩, 0)) 1 (by omega) _ ?_ ?_
    · show (h6.put n (.mp 22 399 [(.int .u16 k, v)])).m h.next = _
      rw [put_m, if_neg (by omega), p2]
    · refine ⟨rfl, by rw [put_next, e6], by rw [put_m, if_neg (by omega), p5], fun i hi => ?_⟩
      by_cases e : i = n
      · subst e; rw [put_m, if_pos rfl, hm]
      · rw [put_m, if_neg e, p3 i hi e]
  intro B ι W vs F r
  refine (c B ι W vs F r).mono ?_
  rintro e w' ⟨ι', h', ae, a1, a2, a3, rfl, b1, b2, b3⟩
  refine ⟨ι', h2, _, a1, a2.sub (by rw [hx, b1]) (fun i o ho => ?_), a3, rfl, rfl⟩
  rcases hs i o ho with ⟨rfl, rfl⟩ | h1
  · exact b2
  · have hi : i < h.next := by
      rcases Nat.lt_or_ge i h.next with k | k
      · exact k
      · obtain ⟨L, g1, _⟩ := F.obj i o h1
        rw [F.fresh i k] at g1; cases g1
    rw [b3 i hi]; exact h1
end Go.Proofs.YtcglbpjpbjaecaaGreat.Sh
