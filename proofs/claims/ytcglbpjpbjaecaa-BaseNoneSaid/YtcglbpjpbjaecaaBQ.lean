import Derived.Test.YtcglbpjpbjaecaaBT
set_option linter.unusedVariables false
set_option linter.unusedSimpArgs false
namespace Go.Proofs.Ytcglbpjpbjaecaa.Sh
open Go Go.Ab Go.RowKit
open Go.Proofs.Ytcglbpjpbjaecaa.Ru (Pg okP)
set_option maxRecDepth 100000
set_option linter.unusedVariables false
-- 3 varve/varvelaw20.BaseNone
noncomputable def B3 : Code := (Try.f3.body).getD .skip
def R3 : List ResultVar := [.tmp 4]
abbrev N3 : Nat := 57
def K3 : KT := (.seq .leaf (.seq .leaf (.join (.reg [[1, 5, 10, 15], [1, 5, 17, 20], [1, 5, 22, 25], [1, 5, 27, 30], [1, 5, 32, 35], [1, 5, 37, 40], [1, 42, 46], [48, 52], [54, 55]]) .leaf [4]) [1, 2, 5]) [1, 2])
def J3_111 (Q : AEnd → AH → Prop) (x4 : V) (h : AH) : Prop := vcAt Pg N3 B3 K3 [1, 1, 1] [] (vcRet Pg R3 Q) [(4, x4)] h
def G3_1101018 (Q : AEnd → AH → Prop) (x54 x55 : V) (h : AH) : Prop := segAt Pg N3 B3 K3 [1, 1, 0] 18 9 [] (vcRet Pg R3 Q) [(54, x54), (55, x55)] h
def G3_1101016 (Q : AEnd → AH → Prop) (x48 x52 : V) (h : AH) : Prop := segAt Pg N3 B3 K3 [1, 1, 0] 16 8 [] (vcRet Pg R3 Q) [(48, x48), (52, x52)] h
def G3_1101014 (Q : AEnd → AH → Prop) (x1 x42 x46 : V) (h : AH) : Prop := segAt Pg N3 B3 K3 [1, 1, 0] 14 7 [] (vcRet Pg R3 Q) [(1, x1), (42, x42), (46, x46)] h
def G3_1101012 (Q : AEnd → AH → Prop) (x1 x5 x37 x40 : V) (h : AH) : Prop := segAt Pg N3 B3 K3 [1, 1, 0] 12 6 [] (vcRet Pg R3 Q) [(1, x1), (5, x5), (37, x37), (40, x40)] h
def G3_1101010 (Q : AEnd → AH → Prop) (x1 x5 x32 x35 : V) (h : AH) : Prop := segAt Pg N3 B3 K3 [1, 1, 0] 10 5 [] (vcRet Pg R3 Q) [(1, x1), (5, x5), (32, x32), (35, x35)] h
def G3_1101008 (Q : AEnd → AH → Prop) (x1 x5 x27 x30 : V) (h : AH) : Prop := segAt Pg N3 B3 K3 [1, 1, 0] 8 4 [] (vcRet Pg R3 Q) [(1, x1), (5, x5), (27, x27), (30, x30)] h
def G3_1101006 (Q : AEnd → AH → Prop) (x1 x5 x22 x25 : V) (h : AH) : Prop := segAt Pg N3 B3 K3 [1, 1, 0] 6 3 [] (vcRet Pg R3 Q) [(1, x1), (5, x5), (22, x22), (25, x25)] h
def G3_1101004 (Q : AEnd → AH → Prop) (x1 x5 x17 x20 : V) (h : AH) : Prop := segAt Pg N3 B3 K3 [1, 1, 0] 4 2 [] (vcRet Pg R3 Q) [(1, x1), (5, x5), (17, x17), (20, x20)] h
def G3_1101002 (Q : AEnd → AH → Prop) (x1 x5 x10 x15 : V) (h : AH) : Prop := segAt Pg N3 B3 K3 [1, 1, 0] 2 1 [] (vcRet Pg R3 Q) [(1, x1), (5, x5), (10, x10), (15, x15)] h
theorem J3_111_eq (Q : AEnd → AH → Prop) (x4 : V) (h : AH) : J3_111 Q x4 h = (
  Q (.ret x4) h) := by kernel_rfl
theorem G3_1101018_eq (Q : AEnd → AH → Prop) (x54 x55 : V) (h : AH) : G3_1101018 Q x54 x55 h = (
  bindV (aPick x54 x55 (V.bool false) h) fun v25 h26 =>
  Meet (J3_111 Q v25 h26)) := by kernel_rfl
theorem G3_1101016_eq (Q : AEnd → AH → Prop) (x48 x52 : V) (h : AH) : G3_1101016 Q x48 x52 h = (
  bindV (aPick x48 x52 (V.bool false) h) fun v23 h24 =>
  vcG v23 true (
  ACalls Pg 14 [] h24 (aEnd (fun v27 h28 =>
  Meet (G3_1101018 Q v23 v27 h28)) fun v h => Q (.panic v) h)) (Meet (G3_1101018 Q v23 hole h24))) := by kernel_rfl
theorem G3_1101014_eq (Q : AEnd → AH → Prop) (x1 x42 x46 : V) (h : AH) : G3_1101014 Q x1 x42 x46 h = (
  bindV (aPick x42 x46 (V.bool false) h) fun v21 h22 =>
  vcG v21 true (
  ACalls Pg 13 [] h22 (aEnd (fun v29 h30 =>
  ACalls Pg 12 [(V.ptr none), v29, x1, (V.int .u32 1), (V.slc none 0), (V.int .u32 0), (V.int .u64 1)] h30 (aEnd (fun v31 h32 =>
  bindV (still (aBin Pg .eql 34 v31 (V.ptr none) true) h32) fun v33 h34 =>
  Meet (G3_1101016 Q v21 v33 h34)) fun v h => Q (.panic v) h)) fun v h => Q (.panic v) h)) (Meet (G3_1101016 Q v21 hole h22))) := by kernel_rfl
theorem G3_1101012_eq (Q : AEnd → AH → Prop) (x1 x5 x37 x40 : V) (h : AH) : G3_1101012 Q x1 x5 x37 x40 h = (
  bindV (aPick x37 x40 (V.bool false) h) fun v19 h20 =>
  vcG v19 true (
  ACalls Pg 11 [x5] h20 (aEnd (fun v35 h36 =>
  bindV (still (aBuild Pg 48 []) h36) fun v37 h38 =>
  bindV (still (aBin Pg .eql 48 v35 v37 false) h38) fun v39 h40 =>
  Meet (G3_1101014 Q x1 v19 v39 h40)) fun v h => Q (.panic v) h)) (Meet (G3_1101014 Q x1 v19 hole h20))) := by kernel_rfl
theorem G3_1101010_eq (Q : AEnd → AH → Prop) (x1 x5 x32 x35 : V) (h : AH) : G3_1101010 Q x1 x5 x32 x35 h = (
  bindV (aPick x32 x35 (V.bool false) h) fun v17 h18 =>
  vcG v17 true (
  ACalls Pg 10 [x5] h18 (aEnd (fun v41 h42 =>
  bindV (still (aBin Pg .eql 45 v41 (V.ptr none) true) h42) fun v43 h44 =>
  Meet (G3_1101012 Q x1 x5 v17 v43 h44)) fun v h => Q (.panic v) h)) (Meet (G3_1101012 Q x1 x5 v17 hole h18))) := by kernel_rfl
theorem G3_1101008_eq (Q : AEnd → AH → Prop) (x1 x5 x27 x30 : V) (h : AH) : G3_1101008 Q x1 x5 x27 x30 h = (
  bindV (aPick x27 x30 (V.bool false) h) fun v15 h16 =>
  vcG v15 true (
  ACalls Pg 9 [x5] h16 (aEnd (fun v45 h46 =>
  bindV (still (aBin Pg .eql 43 v45 (V.ptr none) true) h46) fun v47 h48 =>
  Meet (G3_1101010 Q x1 x5 v15 v47 h48)) fun v h => Q (.panic v) h)) (Meet (G3_1101010 Q x1 x5 v15 hole h16))) := by kernel_rfl
theorem G3_1101006_eq (Q : AEnd → AH → Prop) (x1 x5 x22 x25 : V) (h : AH) : G3_1101006 Q x1 x5 x22 x25 h = (
  bindV (aPick x22 x25 (V.bool false) h) fun v13 h14 =>
  vcG v13 true (
  ACalls Pg 8 [x5] h14 (aEnd (fun v49 h50 =>
  bindV (still (aBin Pg .eql 41 v49 (V.ptr none) true) h50) fun v51 h52 =>
  Meet (G3_1101008 Q x1 x5 v13 v51 h52)) fun v h => Q (.panic v) h)) (Meet (G3_1101008 Q x1 x5 v13 hole h14))) := by kernel_rfl
theorem G3_1101004_eq (Q : AEnd → AH → Prop) (x1 x5 x17 x20 : V) (h : AH) : G3_1101004 Q x1 x5 x17 x20 h = (
  bindV (aPick x17 x20 (V.bool false) h) fun v11 h12 =>
  vcG v11 true (
  ACalls Pg 7 [x5] h12 (aEnd (fun v53 h54 =>
  bindV (still (aBin Pg .eql 39 v53 (V.ptr none) true) h54) fun v55 h56 =>
  Meet (G3_1101006 Q x1 x5 v11 v55 h56)) fun v h => Q (.panic v) h)) (Meet (G3_1101006 Q x1 x5 v11 hole h12))) := by kernel_rfl
theorem G3_1101002_eq (Q : AEnd → AH → Prop) (x1 x5 x10 x15 : V) (h : AH) : G3_1101002 Q x1 x5 x10 x15 h = (
  bindV (aPick x10 x15 (V.bool false) h) fun v9 h10 =>
  vcG v9 true (
  ACalls Pg 6 [x5] h10 (aEnd (fun v57 h58 =>
  bindV (still (aBin Pg .eql 35 v57 (V.int .i64 1) true) h58) fun v59 h60 =>
  Meet (G3_1101004 Q x1 x5 v9 v59 h60)) fun v h => Q (.panic v) h)) (Meet (G3_1101004 Q x1 x5 v9 hole h10))) := by kernel_rfl
theorem S3 (Q : AEnd → AH → Prop) (a0 a1 : V) (h : AH) : vc Pg N3 B3 K3 (vcRet Pg R3 Q) (initEnv 0 [a0, a1]) h = (
  bindV (aNew Pg h 33 a0) fun v1 h2 =>
  bindV (aLoadV Pg h2 33 v1) fun v3 h4 =>
  ACalls Pg 4 [(V.ptr none), v3] h4 (aEnd (fun v5 h6 =>
  bindV (still (aBin Pg .eql 35 v5 (V.int .i64 1) true) h6) fun v7 h8 =>
  vcG v7 true (
  bindV (still (aFieldAddr Pg 33 v1 3) h8) fun v61 h62 =>
  bindV (aLoadV Pg h62 27 v61) fun v63 h64 =>
  ACalls Pg 5 [(V.ptr none), v63] h64 (aEnd (fun v65 h66 =>
  bindV (still (aBin Pg .eql 35 v65 (V.int .i64 1) true) h66) fun v67 h68 =>
  Meet (G3_1101002 Q a1 (V.ptr none) v7 v67 h68)) fun v h => Q (.panic v) h)) (Meet (G3_1101002 Q a1 (V.ptr none) v7 hole h8))) fun v h => Q (.panic v) h)) := by kernel_rfl
theorem C3 (Q : AEnd → AH → Prop) (a0 a1 : V) (h : AH) (c :
  bindV (aNew Pg h 33 a0) fun v1 h2 =>
  bindV (aLoadV Pg h2 33 v1) fun v3 h4 =>
  ACalls Pg 4 [(V.ptr none), v3] h4 (aEnd (fun v5 h6 =>
  bindV (still (aBin Pg .eql 35 v5 (V.int .i64 1) true) h6) fun v7 h8 =>
  vcG v7 true (
  bindV (still (aFieldAddr Pg 33 v1 3) h8) fun v61 h62 =>
  bindV (aLoadV Pg h62 27 v61) fun v63 h64 =>
  ACalls Pg 5 [(V.ptr none), v63] h64 (aEnd (fun v65 h66 =>
  bindV (still (aBin Pg .eql 35 v65 (V.int .i64 1) true) h66) fun v67 h68 =>
  Meet (G3_1101002 Q a1 (V.ptr none) v7 v67 h68)) fun v h => Q (.panic v) h)) (Meet (G3_1101002 Q a1 (V.ptr none) v7 hole h8))) fun v h => Q (.panic v) h)) : ACalls Pg 3 [a0, a1] h Q :=
  acalls_of_vc okP Try.func3 (show Try.f3.body = some B3 from by kernel_rfl) K3 (by rw [← S3 Q a0 a1 h] at c; exact c)

-- 5 (*varve/base.Base).Commit
noncomputable def B5 : Code := (Try.f5.body).getD .skip
def R5 : List ResultVar := [.tmp 4]
abbrev N5 : Nat := 34
def K5 : KT := (.seq .leaf (.join (.seq .leaf (.two (.seq .leaf .leaf [4]) .leaf) [0, 1, 10]) (.seq .leaf (.join (.seq .leaf (.seq .leaf (.two (.seq .leaf .leaf [4]) .leaf) [0, 8, 27]) [0, 8]) (.seq .leaf .leaf [4]) [0]) [0, 5]) [0, 1]) [0, 1])
def J5_1111 (Q : AEnd → AH → Prop) (x0 : V) (h : AH) : Prop := vcAt Pg N5 B5 K5 [1, 1, 1, 1] [] (vcRet Pg R5 Q) [(0, x0)] h
def J5_11 (Q : AEnd → AH → Prop) (x0 x1 : V) (h : AH) : Prop := vcAt Pg N5 B5 K5 [1, 1] [] (vcRet Pg R5 Q) [(0, x0), (1, x1)] h
theorem J5_1111_eq (Q : AEnd → AH → Prop) (x0 : V) (h : AH) : J5_1111 Q x0 h = (
  bindV (aNil x0 h) fun v25 h26 =>
  bindV (still (aFieldAddr Pg 57 v25 1) h26) fun v27 h28 =>
  bindV (aLoadV Pg h28 41 v27) fun v29 h30 =>
  ACalls Pg 25 [v29] h30 (aEnd (fun v31 h32 =>
  Q (.ret v31) h32) fun v h => Q (.panic v) h)) := by kernel_rfl
theorem J5_11_eq (Q : AEnd → AH → Prop) (x0 x1 : V) (h : AH) : J5_11 Q x0 x1 h = (
  bindV (still (aBuild Pg 33 [(0, (V.int .u8 6)), (3, x1)]) h) fun v3 h4 =>
  ACalls Pg 21 [v3] h4 (aEnd (fun v5 h6 =>
  bindV (still (aExtract v5 0) h6) fun v7 h8 =>
  bindV (still (aExtract v5 1) h8) fun v9 h10 =>
  bindV (aNil x0 h10) fun v11 h12 =>
  bindV (still (aFieldAddr Pg 57 v11 1) h12) fun v13 h14 =>
  bindV (aLoadV Pg h14 41 v13) fun v15 h16 =>
  ACalls Pg 22 [v15, v7] h16 (aEnd (fun v17 h18 =>
  bindV (still (aExtract v17 0) h18) fun v19 h20 =>
  bindV (still (aExtract v17 1) h20) fun v21 h22 =>
  bindV (still (aBin Pg .neq 35 v21 (V.int .i64 0) true) h22) fun v23 h24 =>
  vcIf v23 (
  Q (.ret v21) h24) (
  Meet (J5_1111 Q x0 h24))) fun v h => Q (.panic v) h)) fun v h => Q (.panic v) h)) := by kernel_rfl
theorem S5 (Q : AEnd → AH → Prop) (a0 a1 : V) (h : AH) : vc Pg N5 B5 K5 (vcRet Pg R5 Q) (initEnv 0 [a0, a1]) h = (
  bindV (still (aBin Pg .eql 34 a0 (V.ptr none) true) h) fun v1 h2 =>
  vcIf v1 (
  Q (.ret (V.int .i64 1)) h2) (
  Meet (J5_11 Q a0 a1 h2))) := by kernel_rfl
theorem C5 (Q : AEnd → AH → Prop) (a0 a1 : V) (h : AH) (c :
  bindV (still (aBin Pg .eql 34 a0 (V.ptr none) true) h) fun v1 h2 =>
  vcIf v1 (
  Q (.ret (V.int .i64 1)) h2) (
  Meet (J5_11 Q a0 a1 h2))) : ACalls Pg 5 [a0, a1] h Q :=
  acalls_of_vc okP Try.func5 (show Try.f5.body = some B5 from by kernel_rfl) K5 (by rw [← S5 Q a0 a1 h] at c; exact c)

-- 7 (*varve/base.Base).Disk
noncomputable def B7 : Code := (Try.f7.body).getD .skip
def R7 : List ResultVar := [.tmp 2]
abbrev N7 : Nat := 9
def K7 : KT := (.seq .leaf (.join (.seq .leaf (.two (.seq .leaf .leaf [2]) .leaf) [0, 4]) (.seq .leaf .leaf [2]) [0]) [0])
def J7_11 (Q : AEnd → AH → Prop) (x0 : V) (h : AH) : Prop := vcAt Pg N7 B7 K7 [1, 1] [] (vcRet Pg R7 Q) [(0, x0)] h
theorem J7_11_eq (Q : AEnd → AH → Prop) (x0 : V) (h : AH) : J7_11 Q x0 h = (
  bindV (aNil x0 h) fun v3 h4 =>
  bindV (still (aFieldAddr Pg 57 v3 0) h4) fun v5 h6 =>
  bindV (aLoadV Pg h6 39 v5) fun v7 h8 =>
  Q (.ret v7) h8) := by kernel_rfl
theorem S7 (Q : AEnd → AH → Prop) (a0 : V) (h : AH) : vc Pg N7 B7 K7 (vcRet Pg R7 Q) (initEnv 0 [a0]) h = (
  bindV (still (aBin Pg .eql 34 a0 (V.ptr none) true) h) fun v1 h2 =>
  vcIf v1 (
  Q (.ret (V.ptr none)) h2) (
  Meet (J7_11 Q a0 h2))) := by kernel_rfl
theorem C7 (Q : AEnd → AH → Prop) (a0 : V) (h : AH) (c :
  bindV (still (aBin Pg .eql 34 a0 (V.ptr none) true) h) fun v1 h2 =>
  vcIf v1 (
  Q (.ret (V.ptr none)) h2) (
  Meet (J7_11 Q a0 h2))) : ACalls Pg 7 [a0] h Q :=
  acalls_of_vc okP Try.func7 (show Try.f7.body = some B7 from by kernel_rfl) K7 (by rw [← S7 Q a0 h] at c; exact c)

-- 8 (*varve/base.Base).Log
noncomputable def B8 : Code := (Try.f8.body).getD .skip
def R8 : List ResultVar := [.tmp 2]
abbrev N8 : Nat := 9
def K8 : KT := (.seq .leaf (.join (.seq .leaf (.two (.seq .leaf .leaf [2]) .leaf) [0, 4]) (.seq .leaf .leaf [2]) [0]) [0])
def J8_11 (Q : AEnd → AH → Prop) (x0 : V) (h : AH) : Prop := vcAt Pg N8 B8 K8 [1, 1] [] (vcRet Pg R8 Q) [(0, x0)] h
theorem J8_11_eq (Q : AEnd → AH → Prop) (x0 : V) (h : AH) : J8_11 Q x0 h = (
  bindV (aNil x0 h) fun v3 h4 =>
  bindV (still (aFieldAddr Pg 57 v3 1) h4) fun v5 h6 =>
  bindV (aLoadV Pg h6 41 v5) fun v7 h8 =>
  Q (.ret v7) h8) := by kernel_rfl
theorem S8 (Q : AEnd → AH → Prop) (a0 : V) (h : AH) : vc Pg N8 B8 K8 (vcRet Pg R8 Q) (initEnv 0 [a0]) h = (
  bindV (still (aBin Pg .eql 34 a0 (V.ptr none) true) h) fun v1 h2 =>
  vcIf v1 (
  Q (.ret (V.ptr none)) h2) (
  Meet (J8_11 Q a0 h2))) := by kernel_rfl
theorem C8 (Q : AEnd → AH → Prop) (a0 : V) (h : AH) (c :
  bindV (still (aBin Pg .eql 34 a0 (V.ptr none) true) h) fun v1 h2 =>
  vcIf v1 (
  Q (.ret (V.ptr none)) h2) (
  Meet (J8_11 Q a0 h2))) : ACalls Pg 8 [a0] h Q :=
  acalls_of_vc okP Try.func8 (show Try.f8.body = some B8 from by kernel_rfl) K8 (by rw [← S8 Q a0 h] at c; exact c)

-- 9 (*varve/base.Base).Cache
noncomputable def B9 : Code := (Try.f9.body).getD .skip
def R9 : List ResultVar := [.tmp 2]
abbrev N9 : Nat := 9
def K9 : KT := (.seq .leaf (.join (.seq .leaf (.two (.seq .leaf .leaf [2]) .leaf) [0, 4]) (.seq .leaf .leaf [2]) [0]) [0])
def J9_11 (Q : AEnd → AH → Prop) (x0 : V) (h : AH) : Prop := vcAt Pg N9 B9 K9 [1, 1] [] (vcRet Pg R9 Q) [(0, x0)] h
theorem J9_11_eq (Q : AEnd → AH → Prop) (x0 : V) (h : AH) : J9_11 Q x0 h = (
  bindV (aNil x0 h) fun v3 h4 =>
  bindV (still (aFieldAddr Pg 57 v3 2) h4) fun v5 h6 =>
  bindV (aLoadV Pg h6 43 v5) fun v7 h8 =>
  Q (.ret v7) h8) := by kernel_rfl
theorem S9 (Q : AEnd → AH → Prop) (a0 : V) (h : AH) : vc Pg N9 B9 K9 (vcRet Pg R9 Q) (initEnv 0 [a0]) h = (
  bindV (still (aBin Pg .eql 34 a0 (V.ptr none) true) h) fun v1 h2 =>
  vcIf v1 (
  Q (.ret (V.ptr none)) h2) (
  Meet (J9_11 Q a0 h2))) := by kernel_rfl
theorem C9 (Q : AEnd → AH → Prop) (a0 : V) (h : AH) (c :
  bindV (still (aBin Pg .eql 34 a0 (V.ptr none) true) h) fun v1 h2 =>
  vcIf v1 (
  Q (.ret (V.ptr none)) h2) (
  Meet (J9_11 Q a0 h2))) : ACalls Pg 9 [a0] h Q :=
  acalls_of_vc okP Try.func9 (show Try.f9.body = some B9 from by kernel_rfl) K9 (by rw [← S9 Q a0 h] at c; exact c)

-- 10 (*varve/base.Base).Room
noncomputable def B10 : Code := (Try.f10.body).getD .skip
def R10 : List ResultVar := [.tmp 2]
abbrev N10 : Nat := 9
def K10 : KT := (.seq .leaf (.join (.seq .leaf (.two (.seq .leaf .leaf [2]) .leaf) [0, 4]) (.seq .leaf .leaf [2]) [0]) [0])
def J10_11 (Q : AEnd → AH → Prop) (x0 : V) (h : AH) : Prop := vcAt Pg N10 B10 K10 [1, 1] [] (vcRet Pg R10 Q) [(0, x0)] h
theorem J10_11_eq (Q : AEnd → AH → Prop) (x0 : V) (h : AH) : J10_11 Q x0 h = (
  bindV (aNil x0 h) fun v3 h4 =>
  bindV (still (aFieldAddr Pg 57 v3 3) h4) fun v5 h6 =>
  bindV (aLoadV Pg h6 45 v5) fun v7 h8 =>
  Q (.ret v7) h8) := by kernel_rfl
theorem S10 (Q : AEnd → AH → Prop) (a0 : V) (h : AH) : vc Pg N10 B10 K10 (vcRet Pg R10 Q) (initEnv 0 [a0]) h = (
  bindV (still (aBin Pg .eql 34 a0 (V.ptr none) true) h) fun v1 h2 =>
  vcIf v1 (
  Q (.ret (V.ptr none)) h2) (
  Meet (J10_11 Q a0 h2))) := by kernel_rfl
theorem C10 (Q : AEnd → AH → Prop) (a0 : V) (h : AH) (c :
  bindV (still (aBin Pg .eql 34 a0 (V.ptr none) true) h) fun v1 h2 =>
  vcIf v1 (
  Q (.ret (V.ptr none)) h2) (
  Meet (J10_11 Q a0 h2))) : ACalls Pg 10 [a0] h Q :=
  acalls_of_vc okP Try.func10 (show Try.f10.body = some B10 from by kernel_rfl) K10 (by rw [← S10 Q a0 h] at c; exact c)

-- 11 (*varve/base.Base).Config
noncomputable def B11 : Code := (Try.f11.body).getD .skip
def R11 : List ResultVar := [.cell 2 48]
abbrev N11 : Nat := 10
def K11 : KT := (.seq .leaf (.join (.seq .leaf (.two (.seq .leaf .leaf [2]) .leaf) [0, 2, 4]) (.seq .leaf .leaf [2]) [0, 2]) [0, 2])
def J11_11 (Q : AEnd → AH → Prop) (x0 x2 : V) (h : AH) : Prop := vcAt Pg N11 B11 K11 [1, 1] [] (vcRet Pg R11 Q) [(0, x0), (2, x2)] h
theorem J11_11_eq (Q : AEnd → AH → Prop) (x0 x2 : V) (h : AH) : J11_11 Q x0 x2 h = (
  bindV (aNil x0 h) fun v9 h10 =>
  bindV (still (aFieldAddr Pg 57 v9 4) h10) fun v11 h12 =>
  bindV (aLoadV Pg h12 48 v11) fun v13 h14 =>
  bindV (aStoreV Pg h14 48 x2 v13) fun _ h16 =>
  bindR (aRes Pg [(2, x2)] h16 R11) fun v => Q (.ret v) h16) := by kernel_rfl
theorem S11 (Q : AEnd → AH → Prop) (a0 : V) (h : AH) : vc Pg N11 B11 K11 (vcRet Pg R11 Q) (initEnv 0 [a0]) h = (
  bindV (aAlloc Pg h 48) fun v1 h2 =>
  bindV (still (aBin Pg .eql 34 a0 (V.ptr none) true) h2) fun v3 h4 =>
  vcIf v3 (
  bindV (still (aBuild Pg 48 []) h4) fun v5 h6 =>
  bindV (aStoreV Pg h6 48 v1 v5) fun _ h8 =>
  bindR (aRes Pg [(2, v1)] h8 R11) fun v => Q (.ret v) h8) (
  Meet (J11_11 Q a0 v1 h4))) := by kernel_rfl
theorem C11 (Q : AEnd → AH → Prop) (a0 : V) (h : AH) (c :
  bindV (aAlloc Pg h 48) fun v1 h2 =>
  bindV (still (aBin Pg .eql 34 a0 (V.ptr none) true) h2) fun v3 h4 =>
  vcIf v3 (
  bindV (still (aBuild Pg 48 []) h4) fun v5 h6 =>
  bindV (aStoreV Pg h6 48 v1 v5) fun _ h8 =>
  bindR (aRes Pg [(2, v1)] h8 R11) fun v => Q (.ret v) h8) (
  Meet (J11_11 Q a0 v1 h4))) : ACalls Pg 11 [a0] h Q :=
  acalls_of_vc okP Try.func11 (show Try.f11.body = some B11 from by kernel_rfl) K11 (by rw [← S11 Q a0 h] at c; exact c)

-- 12 varve/base.New
noncomputable def B12 : Code := (Try.f12.body).getD .skip
def R12 : List ResultVar := [.tmp 14]
abbrev N12 : Nat := 50
def K12 : KT := (.seq .leaf (.seq .leaf (.seq .leaf (.join (.seq .leaf (.two (.seq .leaf .leaf [14]) .leaf) [0, 8, 15, 16, 40]) (.seq (.eff [5, 8]) .leaf [14]) [0, 8, 15, 16]) [0, 8, 15, 16]) [0, 2, 8, 15]) [0, 2, 3, 4, 5, 6, 8])
def J12_1111 (Q : AEnd → AH → Prop) (x0 x8 x15 x16 : V) (h : AH) : Prop := vcAt Pg N12 B12 K12 [1, 1, 1, 1] [] (vcRet Pg R12 Q) [(0, x0), (8, x8), (15, x15), (16, x16)] h
theorem J12_1111_eq (Q : AEnd → AH → Prop) (x0 x8 x15 x16 : V) (h : AH) : J12_1111 Q x0 x8 x15 x16 h = (
  bindO (fstV (still (aFieldAddr Pg 48 x8 1) h)) fun v33 =>
  bindO (fstV (aLoadV Pg h 3 v33)) fun v34 =>
  (
  ∃ v35 h36, ACalls Pg 28 [v34] h (pureE v35 h36) ∧ (
  bindO (fstV (aLoadV Pg h36 48 x8)) fun v37 =>
  (aLoadV Pg h 48 x8 = some (v37, h)) ∧ (
  bindO (fstV (still (aBuild Pg 57 [(0, x0), (1, x15), (2, x16), (3, v35), (4, v37)]) h36)) fun v38 =>
  bindV (aNew Pg h36 57 v38) fun v39 h40 => (
  Q (.ret v39) h40))))) := by kernel_rfl
theorem S12 (Q : AEnd → AH → Prop) (a0 a1 a2 a3 a4 a5 a6 : V) (h : AH) : vc Pg N12 B12 K12 (vcRet Pg R12 Q) (initEnv 0 [a0, a1, a2, a3, a4, a5, a6]) h = (
  bindV (aNew Pg h 48 a1) fun v1 h2 =>
  bindV (still (aFieldAddr Pg 48 v1 0) h2) fun v3 h4 =>
  bindV (aLoadV Pg h4 3 v3) fun v5 h6 =>
  bindV (still (aBin Pg .add 3 (V.int .i64 2) v5 true) h6) fun v7 h8 =>
  bindV (still (aFieldAddr Pg 48 v1 1) h8) fun v9 h10 =>
  bindV (aLoadV Pg h10 3 v9) fun v11 h12 =>
  bindV (still (aBin Pg .add 3 v7 v11 false) h12) fun v13 h14 =>
  bindV (still (aFieldAddr Pg 48 v1 2) h14) fun v15 h16 =>
  bindV (aLoadV Pg h16 3 v15) fun v17 h18 =>
  ACalls Pg 26 [a0, v13, v17, a3, a4, a5, a6] h18 (aEnd (fun v19 h20 =>
  bindV (still (aFieldAddr Pg 48 v1 0) h20) fun v21 h22 =>
  bindV (aLoadV Pg h22 3 v21) fun v23 h24 =>
  bindV (still (aFieldAddr Pg 48 v1 1) h24) fun v25 h26 =>
  bindV (aLoadV Pg h26 3 v25) fun v27 h28 =>
  ACalls Pg 27 [a0, v19, a2, v23, v27] h28 (aEnd (fun v29 h30 =>
  bindV (still (aBin Pg .eql 43 v29 (V.ptr none) true) h30) fun v31 h32 =>
  vcIf v31 (
  Q (.ret (V.ptr none)) h32) (
  Meet (J12_1111 Q a0 v1 v19 v29 h32))) fun v h => Q (.panic v) h)) fun v h => Q (.panic v) h)) := by kernel_rfl
theorem C12 (Q : AEnd → AH → Prop) (a0 a1 a2 a3 a4 a5 a6 : V) (h : AH) (c :
  bindV (aNew Pg h 48 a1) fun v1 h2 =>
  bindV (still (aFieldAddr Pg 48 v1 0) h2) fun v3 h4 =>
  bindV (aLoadV Pg h4 3 v3) fun v5 h6 =>
  bindV (still (aBin Pg .add 3 (V.int .i64 2) v5 true) h6) fun v7 h8 =>
  bindV (still (aFieldAddr Pg 48 v1 1) h8) fun v9 h10 =>
  bindV (aLoadV Pg h10 3 v9) fun v11 h12 =>
  bindV (still (aBin Pg .add 3 v7 v11 false) h12) fun v13 h14 =>
  bindV (still (aFieldAddr Pg 48 v1 2) h14) fun v15 h16 =>
  bindV (aLoadV Pg h16 3 v15) fun v17 h18 =>
  ACalls Pg 26 [a0, v13, v17, a3, a4, a5, a6] h18 (aEnd (fun v19 h20 =>
  bindV (still (aFieldAddr Pg 48 v1 0) h20) fun v21 h22 =>
  bindV (aLoadV Pg h22 3 v21) fun v23 h24 =>
  bindV (still (aFieldAddr Pg 48 v1 1) h24) fun v25 h26 =>
  bindV (aLoadV Pg h26 3 v25) fun v27 h28 =>
  ACalls Pg 27 [a0, v19, a2, v23, v27] h28 (aEnd (fun v29 h30 =>
  bindV (still (aBin Pg .eql 43 v29 (V.ptr none) true) h30) fun v31 h32 =>
  vcIf v31 (
  Q (.ret (V.ptr none)) h32) (
  Meet (J12_1111 Q a0 v1 v19 v29 h32))) fun v h => Q (.panic v) h)) fun v h => Q (.panic v) h)) : ACalls Pg 12 [a0, a1, a2, a3, a4, a5, a6] h Q :=
  acalls_of_vc okP Try.func12 (show Try.f12.body = some B12 from by kernel_rfl) K12 (by rw [← S12 Q a0 a1 a2 a3 a4 a5 a6 h] at c; exact c)

-- 13 varve/varvelaw20.config
noncomputable def B13 : Code := (Try.f13.body).getD .skip
def R13 : List ResultVar := [.cell 0 48]
abbrev N13 : Nat := 2
def K13 : KT := (.seq .leaf (.seq .leaf .leaf [0]) [0])
theorem S13 (Q : AEnd → AH → Prop) (h : AH) : vc Pg N13 B13 K13 (vcRet Pg R13 Q) (initEnv 0 []) h = (
  bindV (aAlloc Pg h 48) fun v1 h2 =>
  bindV (still (aBuild Pg 48 [(0, (V.int .i64 3)), (1, (V.int .i64 4)), (2, (V.int .i64 80)), (3, (V.int .u32 1000))]) h2) fun v3 h4 =>
  bindV (aStoreV Pg h4 48 v1 v3) fun _ h6 =>
  bindR (aRes Pg [(0, v1)] h6 R13) fun v => Q (.ret v) h6) := by kernel_rfl
theorem C13 (Q : AEnd → AH → Prop) (h : AH) (c :
  bindV (aAlloc Pg h 48) fun v1 h2 =>
  bindV (still (aBuild Pg 48 [(0, (V.int .i64 3)), (1, (V.int .i64 4)), (2, (V.int .i64 80)), (3, (V.int .u32 1000))]) h2) fun v3 h4 =>
  bindV (aStoreV Pg h4 48 v1 v3) fun _ h6 =>
  bindR (aRes Pg [(0, v1)] h6 R13) fun v => Q (.ret v) h6) : ACalls Pg 13 [] h Q :=
  acalls_of_vc okP Try.func13 (show Try.f13.body = some B13 from by kernel_rfl) K13 (by rw [← S13 Q h] at c; exact c)

-- 26 varve/log.New
noncomputable def B26 : Code := (Try.f26.body).getD .skip
def R26 : List ResultVar := [.tmp 14]
abbrev N26 : Nat := 72
def K26 : KT := (.seq .leaf (.join (.join (.reg [[0, 1, 2, 3, 4, 5, 6, 23, 27]]) (.two (.seq .leaf .leaf [14]) .leaf) [0, 1, 2, 3, 4, 5, 6, 28]) (.seq .leaf (.join (.seq .leaf (.one (.loop (.seq .leaf (.join (.two .leaf .leaf) (.join (.one (.seq .leaf (.join (.join (.reg [[0, 1, 2, 3, 4, 5, 6, 17, 29, 30, 31, 46, 50], [0, 1, 2, 3, 4, 5, 6, 17, 29, 30, 31, 52, 56]]) (.two (.seq .leaf .leaf [14]) .leaf) [0, 1, 2, 3, 4, 5, 6, 17, 29, 30, 31, 57]) .leaf [0, 1, 2, 3, 4, 5, 6, 17, 29, 30, 31]) [0, 1, 2, 3, 4, 5, 6, 15, 16, 17, 29, 30, 31])) .leaf [0, 1, 2, 3, 4, 5, 6, 15, 29, 30, 31]) [0, 1, 2, 3, 4, 5, 6, 15, 29, 30, 31]) [0, 1, 2, 3, 4, 5, 6, 15, 29, 30, 31, 32]) [0, 1, 2, 3, 4, 5, 6, 15, 29, 30, 31])) [0, 1, 2, 3, 4, 5, 6, 15, 29, 30, 31]) (.seq .leaf .leaf [14]) [0, 1, 2, 3, 4, 5, 6]) [0, 1, 2, 3, 4, 5, 6, 15]) [0, 1, 2, 3, 4, 5, 6]) [0, 1, 2, 3, 4, 5, 6])
def J26_1110100111 (Q : AEnd → AH → Prop) (n : Nat) (x0 x1 x2 x3 x4 x5 x6 x15 x29 x30 x31 : V) (h : AH) : Prop := vcAt Pg N26 B26 K26 [1, 1, 1, 0, 1, 0, 0, 1, 1, 1] [n] (vcRet Pg R26 Q) [(0, x0), (1, x1), (2, x2), (3, x3), (4, x4), (5, x5), (6, x6), (15, x15), (29, x29), (30, x30), (31, x31)] h
def J26_1110100110011 (Q : AEnd → AH → Prop) (n : Nat) (x0 x1 x2 x3 x4 x5 x6 x17 x29 x30 x31 : V) (h : AH) : Prop := vcAt Pg N26 B26 K26 [1, 1, 1, 0, 1, 0, 0, 1, 1, 0, 0, 1, 1] [n] (vcRet Pg R26 Q) [(0, x0), (1, x1), (2, x2), (3, x3), (4, x4), (5, x5), (6, x6), (17, x17), (29, x29), (30, x30), (31, x31)] h
def J26_11101001100101 (Q : AEnd → AH → Prop) (n : Nat) (x0 x1 x2 x3 x4 x5 x6 x17 x29 x30 x31 x57 : V) (h : AH) : Prop := vcAt Pg N26 B26 K26 [1, 1, 1, 0, 1, 0, 0, 1, 1, 0, 0, 1, 0, 1] [n] (vcRet Pg R26 Q) [(0, x0), (1, x1), (2, x2), (3, x3), (4, x4), (5, x5), (6, x6), (17, x17), (29, x29), (30, x30), (31, x31), (57, x57)] h
def G26_111010011001001004 (Q : AEnd → AH → Prop) (n : Nat) (x0 x1 x2 x3 x4 x5 x6 x17 x29 x30 x31 x52 x56 : V) (h : AH) : Prop := segAt Pg N26 B26 K26 [1, 1, 1, 0, 1, 0, 0, 1, 1, 0, 0, 1, 0, 0] 4 2 [n] (vcRet Pg R26 Q) [(0, x0), (1, x1), (2, x2), (3, x3), (4, x4), (5, x5), (6, x6), (17, x17), (29, x29), (30, x30), (31, x31), (52, x52), (56, x56)] h
def G26_111010011001001002 (Q : AEnd → AH → Prop) (n : Nat) (x0 x1 x2 x3 x4 x5 x6 x17 x29 x30 x31 x46 x50 : V) (h : AH) : Prop := segAt Pg N26 B26 K26 [1, 1, 1, 0, 1, 0, 0, 1, 1, 0, 0, 1, 0, 0] 2 1 [n] (vcRet Pg R26 Q) [(0, x0), (1, x1), (2, x2), (3, x3), (4, x4), (5, x5), (6, x6), (17, x17), (29, x29), (30, x30), (31, x31), (46, x46), (50, x50)] h
def J26_111010011 (Q : AEnd → AH → Prop) (n : Nat) (x0 x1 x2 x3 x4 x5 x6 x15 x29 x30 x31 : V) (h : AH) : Prop := vcAt Pg N26 B26 K26 [1, 1, 1, 0, 1, 0, 0, 1, 1] [n] (vcRet Pg R26 Q) [(0, x0), (1, x1), (2, x2), (3, x3), (4, x4), (5, x5), (6, x6), (15, x15), (29, x29), (30, x30), (31, x31)] h
def J26_1111 (Q : AEnd → AH → Prop) (x0 x1 x2 x3 x4 x5 x6 : V) (h : AH) : Prop := vcAt Pg N26 B26 K26 [1, 1, 1, 1] [] (vcRet Pg R26 Q) [(0, x0), (1, x1), (2, x2), (3, x3), (4, x4), (5, x5), (6, x6)] h
def L26_111010 (Q : AEnd → AH → Prop) (n : Nat) (x0 x1 x2 x3 x4 x5 x6 x15 x29 x30 x31 : V) (h : AH) : Prop := loopAt Pg N26 B26 K26 [1, 1, 1, 0, 1, 0] [] n (vcRet Pg R26 Q) [(0, x0), (1, x1), (2, x2), (3, x3), (4, x4), (5, x5), (6, x6), (15, x15), (29, x29), (30, x30), (31, x31)] h
def J26_11 (Q : AEnd → AH → Prop) (x0 x1 x2 x3 x4 x5 x6 : V) (h : AH) : Prop := vcAt Pg N26 B26 K26 [1, 1] [] (vcRet Pg R26 Q) [(0, x0), (1, x1), (2, x2), (3, x3), (4, x4), (5, x5), (6, x6)] h
def J26_101 (Q : AEnd → AH → Prop) (x0 x1 x2 x3 x4 x5 x6 x28 : V) (h : AH) : Prop := vcAt Pg N26 B26 K26 [1, 0, 1] [] (vcRet Pg R26 Q) [(0, x0), (1, x1), (2, x2), (3, x3), (4, x4), (5, x5), (6, x6), (28, x28)] h
def G26_1001002 (Q : AEnd → AH → Prop) (x0 x1 x2 x3 x4 x5 x6 x23 x27 : V) (h : AH) : Prop := segAt Pg N26 B26 K26 [1, 0, 0] 2 1 [] (vcRet Pg R26 Q) [(0, x0), (1, x1), (2, x2), (3, x3), (4, x4), (5, x5), (6, x6), (23, x23), (27, x27)] h
theorem J26_1110100111_eq (Q : AEnd → AH → Prop) (n : Nat) (x0 x1 x2 x3 x4 x5 x6 x15 x29 x30 x31 : V) (h : AH) : J26_1110100111 Q n x0 x1 x2 x3 x4 x5 x6 x15 x29 x30 x31 h = (
  bindV (still (aBin Pg .add 3 x31 (V.int .i64 1) true) h) fun v41 h42 =>
  Meet (L26_111010 Q n x0 x1 x2 x3 x4 x5 x6 x15 x29 x30 v41 h42)) := by kernel_rfl
theorem J26_1110100110011_eq (Q : AEnd → AH → Prop) (n : Nat) (x0 x1 x2 x3 x4 x5 x6 x17 x29 x30 x31 : V) (h : AH) : J26_1110100110011 Q n x0 x1 x2 x3 x4 x5 x6 x17 x29 x30 x31 h = (
  bindV (still (aFieldAddr Pg 135 x17 1) h) fun v37 h38 =>
  bindV (aLoadV Pg h38 51 v37) fun v39 h40 =>
  Meet (J26_1110100111 Q n x0 x1 x2 x3 x4 x5 x6 v39 x29 x30 x31 h40)) := by kernel_rfl
theorem J26_11101001100101_eq (Q : AEnd → AH → Prop) (n : Nat) (x0 x1 x2 x3 x4 x5 x6 x17 x29 x30 x31 x57 : V) (h : AH) : J26_11101001100101 Q n x0 x1 x2 x3 x4 x5 x6 x17 x29 x30 x31 x57 h = (
  vcIf x57 (
  Q (.ret (V.ptr none)) h) (
  Meet (J26_1110100110011 Q n x0 x1 x2 x3 x4 x5 x6 x17 x29 x30 x31 h))) := by kernel_rfl
theorem G26_111010011001001004_eq (Q : AEnd → AH → Prop) (n : Nat) (x0 x1 x2 x3 x4 x5 x6 x17 x29 x30 x31 x52 x56 : V) (h : AH) : G26_111010011001001004 Q n x0 x1 x2 x3 x4 x5 x6 x17 x29 x30 x31 x52 x56 h = (
  bindV (aPick x52 (V.bool true) x56 h) fun v35 h36 =>
  Meet (J26_11101001100101 Q n x0 x1 x2 x3 x4 x5 x6 x17 x29 x30 x31 v35 h36)) := by kernel_rfl
theorem G26_111010011001001002_eq (Q : AEnd → AH → Prop) (n : Nat) (x0 x1 x2 x3 x4 x5 x6 x17 x29 x30 x31 x46 x50 : V) (h : AH) : G26_111010011001001002 Q n x0 x1 x2 x3 x4 x5 x6 x17 x29 x30 x31 x46 x50 h = (
  bindV (aPick x46 (V.bool true) x50 h) fun v33 h34 =>
  vcG v33 false (
  bindV (still (aFieldAddr Pg 135 x17 1) h34) fun v43 h44 =>
  bindV (aLoadV Pg h44 51 v43) fun v45 h46 =>
  bindV (still (aBin Pg .gtr 51 v45 x6 false) h46) fun v47 h48 =>
  Meet (G26_111010011001001004 Q n x0 x1 x2 x3 x4 x5 x6 x17 x29 x30 x31 v33 v47 h48)) (Meet (G26_111010011001001004 Q n x0 x1 x2 x3 x4 x5 x6 x17 x29 x30 x31 v33 hole h34))) := by kernel_rfl
theorem J26_111010011_eq (Q : AEnd → AH → Prop) (n : Nat) (x0 x1 x2 x3 x4 x5 x6 x15 x29 x30 x31 : V) (h : AH) : J26_111010011 Q n x0 x1 x2 x3 x4 x5 x6 x15 x29 x30 x31 h = (
  bindV (still (aIndexAddr Pg 71 x29 x31) h) fun v11 h12 =>
  bindV (aLoadV Pg h12 135 v11) fun v13 h14 =>
  bindV (aAlloc Pg h14 135) fun v15 h16 =>
  bindV (aStoreV Pg h16 135 v15 v13) fun _ h18 =>
  bindV (still (aFieldAddr Pg 135 v15 0) h18) fun v19 h20 =>
  bindV (aLoadV Pg h20 27 v19) fun v21 h22 =>
  bindV (aBuiltin Pg h22 .len [71] [x4]) fun v23 h24 =>
  bindV (still (aBin Pg .sub 3 v23 x31 false) h24) fun v25 h26 =>
  bindV (still (aConv Pg h26 3 27 v25) h26) fun v27 h28 =>
  bindV (still (aBin Pg .sub 27 x5 v27 false) h28) fun v29 h30 =>
  bindV (still (aBin Pg .neq 27 v21 v29 false) h30) fun v31 h32 =>
  vcG v31 false (
  bindV (still (aFieldAddr Pg 135 v15 1) h32) fun v49 h50 =>
  bindV (aLoadV Pg h50 51 v49) fun v51 h52 =>
  bindV (still (aBin Pg .lss 51 v51 x15 false) h52) fun v53 h54 =>
  Meet (G26_111010011001001002 Q n x0 x1 x2 x3 x4 x5 x6 v15 x29 x30 x31 v31 v53 h54)) (Meet (G26_111010011001001002 Q n x0 x1 x2 x3 x4 x5 x6 v15 x29 x30 x31 v31 hole h32))) := by kernel_rfl
theorem J26_1111_eq (Q : AEnd → AH → Prop) (x0 x1 x2 x3 x4 x5 x6 : V) (h : AH) : J26_1111 Q x0 x1 x2 x3 x4 x5 x6 h = (
  bindV (aBuiltin Pg h .append [71, 71] [(V.slc none 0), x4]) fun v55 h56 =>
  bindV (still (aBuild Pg 116 [(0, x0), (1, x1), (2, x2), (3, x3), (4, v55), (7, x5), (8, x6), (9, x6), (10, (V.bool true))]) h56) fun v57 h58 =>
  bindV (aNew Pg h58 116 v57) fun v59 h60 =>
  Q (.ret v59) h60) := by kernel_rfl
theorem L26_111010_eq (Q : AEnd → AH → Prop) (n : Nat) (x0 x1 x2 x3 x4 x5 x6 x15 x29 x30 x31 : V) (h : AH) : L26_111010 Q (n + 1) x0 x1 x2 x3 x4 x5 x6 x15 x29 x30 x31 h = (
  bindV (still (aBin Pg .lss 3 x31 x30 false) h) fun v9 h10 =>
  vcIf v9 (
  Meet (J26_111010011 Q n x0 x1 x2 x3 x4 x5 x6 x15 x29 x30 x31 h10)) (
  Meet (J26_1111 Q x0 x1 x2 x3 x4 x5 x6 h10))) := by kernel_rfl
theorem J26_11_eq (Q : AEnd → AH → Prop) (x0 x1 x2 x3 x4 x5 x6 : V) (h : AH) : J26_11 Q x0 x1 x2 x3 x4 x5 x6 h = (
  bindV (aBuiltin Pg h .len [71] [x4]) fun v7 h8 =>
  ∃ n, Meet (L26_111010 Q n x0 x1 x2 x3 x4 x5 x6 (V.int .u64 0) x4 v7 (V.int .i64 0) h8)) := by kernel_rfl
theorem J26_101_eq (Q : AEnd → AH → Prop) (x0 x1 x2 x3 x4 x5 x6 x28 : V) (h : AH) : J26_101 Q x0 x1 x2 x3 x4 x5 x6 x28 h = (
  vcIf x28 (
  Q (.ret (V.ptr none)) h) (
  Meet (J26_11 Q x0 x1 x2 x3 x4 x5 x6 h))) := by kernel_rfl
theorem G26_1001002_eq (Q : AEnd → AH → Prop) (x0 x1 x2 x3 x4 x5 x6 x23 x27 : V) (h : AH) : G26_1001002 Q x0 x1 x2 x3 x4 x5 x6 x23 x27 h = (
  bindV (aPick x23 (V.bool true) x27 h) fun v5 h6 =>
  Meet (J26_101 Q x0 x1 x2 x3 x4 x5 x6 v5 h6)) := by kernel_rfl
theorem S26 (Q : AEnd → AH → Prop) (a0 a1 a2 a3 a4 a5 a6 : V) (h : AH) : vc Pg N26 B26 K26 (vcRet Pg R26 Q) (initEnv 0 [a0, a1, a2, a3, a4, a5, a6]) h = (
  ACalls Pg 60 [a0, a1, a2] h (aEnd (fun v1 h2 =>
  bindV (still (aUn .not v1) h2) fun v3 h4 =>
  vcG v3 false (
  bindV (aBuiltin Pg h4 .len [71] [a4]) fun v61 h62 =>
  bindV (still (aBin Pg .gtr 3 v61 a2 false) h62) fun v63 h64 =>
  Meet (G26_1001002 Q a0 a1 a2 a3 a4 a5 a6 v3 v63 h64)) (Meet (G26_1001002 Q a0 a1 a2 a3 a4 a5 a6 v3 hole h4))) fun v h => Q (.panic v) h)) := by kernel_rfl
theorem C26 (Q : AEnd → AH → Prop) (a0 a1 a2 a3 a4 a5 a6 : V) (h : AH) (c :
  ACalls Pg 60 [a0, a1, a2] h (aEnd (fun v1 h2 =>
  bindV (still (aUn .not v1) h2) fun v3 h4 =>
  vcG v3 false (
  bindV (aBuiltin Pg h4 .len [71] [a4]) fun v61 h62 =>
  bindV (still (aBin Pg .gtr 3 v61 a2 false) h62) fun v63 h64 =>
  Meet (G26_1001002 Q a0 a1 a2 a3 a4 a5 a6 v3 v63 h64)) (Meet (G26_1001002 Q a0 a1 a2 a3 a4 a5 a6 v3 hole h4))) fun v h => Q (.panic v) h)) : ACalls Pg 26 [a0, a1, a2, a3, a4, a5, a6] h Q :=
  acalls_of_vc okP Try.func26 (show Try.f26.body = some B26 from by kernel_rfl) K26 (by rw [← S26 Q a0 a1 a2 a3 a4 a5 a6 h] at c; exact c)

-- 27 varve/cache.New
noncomputable def B27 : Code := (Try.f27.body).getD .skip
def R27 : List ResultVar := [.tmp 10]
abbrev N27 : Nat := 61
def K27 : KT := (.seq .leaf (.join (.join (.reg [[0, 1, 2, 3, 4, 13, 15], [0, 1, 2, 3, 4, 17, 19], [0, 1, 2, 3, 4, 21, 23], [0, 1, 2, 3, 4, 25, 27], [0, 1, 2, 3, 4, 29, 31], [0, 1, 2, 3, 4, 33, 35], [0, 1, 2, 3, 4, 37, 39], [0, 1, 2, 3, 4, 41, 48]]) (.two (.seq .leaf .leaf [10]) .leaf) [0, 1, 2, 3, 4, 49]) (.seq .leaf .leaf [10]) [0, 1, 2, 3, 4]) [0, 1, 2, 3, 4])
def J27_11 (Q : AEnd → AH → Prop) (x0 x1 x2 x3 x4 : V) (h : AH) : Prop := vcAt Pg N27 B27 K27 [1, 1] [] (vcRet Pg R27 Q) [(0, x0), (1, x1), (2, x2), (3, x3), (4, x4)] h
def J27_101 (Q : AEnd → AH → Prop) (x0 x1 x2 x3 x4 x49 : V) (h : AH) : Prop := vcAt Pg N27 B27 K27 [1, 0, 1] [] (vcRet Pg R27 Q) [(0, x0), (1, x1), (2, x2), (3, x3), (4, x4), (49, x49)] h
def G27_1001016 (Q : AEnd → AH → Prop) (x0 x1 x2 x3 x4 x41 x48 : V) (h : AH) : Prop := segAt Pg N27 B27 K27 [1, 0, 0] 16 8 [] (vcRet Pg R27 Q) [(0, x0), (1, x1), (2, x2), (3, x3), (4, x4), (41, x41), (48, x48)] h
def G27_1001014 (Q : AEnd → AH → Prop) (x0 x1 x2 x3 x4 x37 x39 : V) (h : AH) : Prop := segAt Pg N27 B27 K27 [1, 0, 0] 14 7 [] (vcRet Pg R27 Q) [(0, x0), (1, x1), (2, x2), (3, x3), (4, x4), (37, x37), (39, x39)] h
def G27_1001012 (Q : AEnd → AH → Prop) (x0 x1 x2 x3 x4 x33 x35 : V) (h : AH) : Prop := segAt Pg N27 B27 K27 [1, 0, 0] 12 6 [] (vcRet Pg R27 Q) [(0, x0), (1, x1), (2, x2), (3, x3), (4, x4), (33, x33), (35, x35)] h
def G27_1001010 (Q : AEnd → AH → Prop) (x0 x1 x2 x3 x4 x29 x31 : V) (h : AH) : Prop := segAt Pg N27 B27 K27 [1, 0, 0] 10 5 [] (vcRet Pg R27 Q) [(0, x0), (1, x1), (2, x2), (3, x3), (4, x4), (29, x29), (31, x31)] h
def G27_1001008 (Q : AEnd → AH → Prop) (x0 x1 x2 x3 x4 x25 x27 : V) (h : AH) : Prop := segAt Pg N27 B27 K27 [1, 0, 0] 8 4 [] (vcRet Pg R27 Q) [(0, x0), (1, x1), (2, x2), (3, x3), (4, x4), (25, x25), (27, x27)] h
def G27_1001006 (Q : AEnd → AH → Prop) (x0 x1 x2 x3 x4 x21 x23 : V) (h : AH) : Prop := segAt Pg N27 B27 K27 [1, 0, 0] 6 3 [] (vcRet Pg R27 Q) [(0, x0), (1, x1), (2, x2), (3, x3), (4, x4), (21, x21), (23, x23)] h
def G27_1001004 (Q : AEnd → AH → Prop) (x0 x1 x2 x3 x4 x17 x19 : V) (h : AH) : Prop := segAt Pg N27 B27 K27 [1, 0, 0] 4 2 [] (vcRet Pg R27 Q) [(0, x0), (1, x1), (2, x2), (3, x3), (4, x4), (17, x17), (19, x19)] h
def G27_1001002 (Q : AEnd → AH → Prop) (x0 x1 x2 x3 x4 x13 x15 : V) (h : AH) : Prop := segAt Pg N27 B27 K27 [1, 0, 0] 2 1 [] (vcRet Pg R27 Q) [(0, x0), (1, x1), (2, x2), (3, x3), (4, x4), (13, x13), (15, x15)] h
theorem J27_11_eq (Q : AEnd → AH → Prop) (x0 x1 x2 x3 x4 : V) (h : AH) : J27_11 Q x0 x1 x2 x3 x4 h = (
  bindV (still (aIface Pg 41 x1) h) fun v19 h20 =>
  ACalls Pg 62 [x2] h20 (aEnd (fun v21 h22 =>
  bindV (aMakeMap Pg h22 91) fun v23 h24 =>
  bindV (still (aBuild Pg 93 [(0, x0), (1, v19), (2, v21), (3, x3), (4, x4), (6, x2), (7, v23)]) h24) fun v25 h26 =>
  bindV (aNew Pg h26 93 v25) fun v27 h28 =>
  Q (.ret v27) h28) fun v h => Q (.panic v) h)) := by kernel_rfl
theorem J27_101_eq (Q : AEnd → AH → Prop) (x0 x1 x2 x3 x4 x49 : V) (h : AH) : J27_101 Q x0 x1 x2 x3 x4 x49 h = (
  vcIf x49 (
  Q (.ret (V.ptr none)) h) (
  Meet (J27_11 Q x0 x1 x2 x3 x4 h))) := by kernel_rfl
theorem G27_1001016_eq (Q : AEnd → AH → Prop) (x0 x1 x2 x3 x4 x41 x48 : V) (h : AH) : G27_1001016 Q x0 x1 x2 x3 x4 x41 x48 h = (
  bindV (aPick x41 (V.bool true) x48 h) fun v17 h18 =>
  Meet (J27_101 Q x0 x1 x2 x3 x4 v17 h18)) := by kernel_rfl
theorem G27_1001014_eq (Q : AEnd → AH → Prop) (x0 x1 x2 x3 x4 x37 x39 : V) (h : AH) : G27_1001014 Q x0 x1 x2 x3 x4 x37 x39 h = (
  bindV (aPick x37 (V.bool true) x39 h) fun v15 h16 =>
  vcG v15 false (
  bindV (still (aBin Pg .add 3 (V.int .i64 2) x3 true) h16) fun v29 h30 =>
  bindV (still (aBin Pg .add 3 v29 x4 false) h30) fun v31 h32 =>
  ACalls Pg 61 [x0] h32 (aEnd (fun v33 h34 =>
  bindV (still (aBin Pg .gtr 3 v31 v33 false) h34) fun v35 h36 =>
  Meet (G27_1001016 Q x0 x1 x2 x3 x4 v15 v35 h36)) fun v h => Q (.panic v) h)) (Meet (G27_1001016 Q x0 x1 x2 x3 x4 v15 hole h16))) := by kernel_rfl
theorem G27_1001012_eq (Q : AEnd → AH → Prop) (x0 x1 x2 x3 x4 x33 x35 : V) (h : AH) : G27_1001012 Q x0 x1 x2 x3 x4 x33 x35 h = (
  bindV (aPick x33 (V.bool true) x35 h) fun v13 h14 =>
  vcG v13 false (
  bindV (still (aBin Pg .gtr 3 x4 (V.int .i64 32) true) h14) fun v37 h38 =>
  Meet (G27_1001014 Q x0 x1 x2 x3 x4 v13 v37 h38)) (Meet (G27_1001014 Q x0 x1 x2 x3 x4 v13 hole h14))) := by kernel_rfl
theorem G27_1001010_eq (Q : AEnd → AH → Prop) (x0 x1 x2 x3 x4 x29 x31 : V) (h : AH) : G27_1001010 Q x0 x1 x2 x3 x4 x29 x31 h = (
  bindV (aPick x29 (V.bool true) x31 h) fun v11 h12 =>
  vcG v11 false (
  bindV (still (aBin Pg .lss 3 x4 (V.int .i64 1) true) h12) fun v39 h40 =>
  Meet (G27_1001012 Q x0 x1 x2 x3 x4 v11 v39 h40)) (Meet (G27_1001012 Q x0 x1 x2 x3 x4 v11 hole h12))) := by kernel_rfl
theorem G27_1001008_eq (Q : AEnd → AH → Prop) (x0 x1 x2 x3 x4 x25 x27 : V) (h : AH) : G27_1001008 Q x0 x1 x2 x3 x4 x25 x27 h = (
  bindV (aPick x25 (V.bool true) x27 h) fun v9 h10 =>
  vcG v9 false (
  bindV (still (aBin Pg .gtr 3 x3 (V.int .i64 16) true) h10) fun v41 h42 =>
  Meet (G27_1001010 Q x0 x1 x2 x3 x4 v9 v41 h42)) (Meet (G27_1001010 Q x0 x1 x2 x3 x4 v9 hole h10))) := by kernel_rfl
theorem G27_1001006_eq (Q : AEnd → AH → Prop) (x0 x1 x2 x3 x4 x21 x23 : V) (h : AH) : G27_1001006 Q x0 x1 x2 x3 x4 x21 x23 h = (
  bindV (aPick x21 (V.bool true) x23 h) fun v7 h8 =>
  vcG v7 false (
  bindV (still (aBin Pg .lss 3 x3 (V.int .i64 1) true) h8) fun v43 h44 =>
  Meet (G27_1001008 Q x0 x1 x2 x3 x4 v7 v43 h44)) (Meet (G27_1001008 Q x0 x1 x2 x3 x4 v7 hole h8))) := by kernel_rfl
theorem G27_1001004_eq (Q : AEnd → AH → Prop) (x0 x1 x2 x3 x4 x17 x19 : V) (h : AH) : G27_1001004 Q x0 x1 x2 x3 x4 x17 x19 h = (
  bindV (aPick x17 (V.bool true) x19 h) fun v5 h6 =>
  vcG v5 false (
  bindV (still (aBin Pg .gtr 3 x2 (V.int .i64 32) true) h6) fun v45 h46 =>
  Meet (G27_1001006 Q x0 x1 x2 x3 x4 v5 v45 h46)) (Meet (G27_1001006 Q x0 x1 x2 x3 x4 v5 hole h6))) := by kernel_rfl
theorem G27_1001002_eq (Q : AEnd → AH → Prop) (x0 x1 x2 x3 x4 x13 x15 : V) (h : AH) : G27_1001002 Q x0 x1 x2 x3 x4 x13 x15 h = (
  bindV (aPick x13 (V.bool true) x15 h) fun v3 h4 =>
  vcG v3 false (
  bindV (still (aBin Pg .lss 3 x2 (V.int .i64 4) true) h4) fun v47 h48 =>
  Meet (G27_1001004 Q x0 x1 x2 x3 x4 v3 v47 h48)) (Meet (G27_1001004 Q x0 x1 x2 x3 x4 v3 hole h4))) := by kernel_rfl
theorem S27 (Q : AEnd → AH → Prop) (a0 a1 a2 a3 a4 : V) (h : AH) : vc Pg N27 B27 K27 (vcRet Pg R27 Q) (initEnv 0 [a0, a1, a2, a3, a4]) h = (
  bindV (still (aBin Pg .eql 39 a0 (V.ptr none) true) h) fun v1 h2 =>
  vcG v1 false (
  bindV (still (aBin Pg .eql 41 a1 (V.ptr none) true) h2) fun v49 h50 =>
  Meet (G27_1001002 Q a0 a1 a2 a3 a4 v1 v49 h50)) (Meet (G27_1001002 Q a0 a1 a2 a3 a4 v1 hole h2))) := by kernel_rfl
theorem C27 (Q : AEnd → AH → Prop) (a0 a1 a2 a3 a4 : V) (h : AH) (c :
  bindV (still (aBin Pg .eql 39 a0 (V.ptr none) true) h) fun v1 h2 =>
  vcG v1 false (
  bindV (still (aBin Pg .eql 41 a1 (V.ptr none) true) h2) fun v49 h50 =>
  Meet (G27_1001002 Q a0 a1 a2 a3 a4 v1 v49 h50)) (Meet (G27_1001002 Q a0 a1 a2 a3 a4 v1 hole h2))) : ACalls Pg 27 [a0, a1, a2, a3, a4] h Q :=
  acalls_of_vc okP Try.func27 (show Try.f27.body = some B27 from by kernel_rfl) K27 (by rw [← S27 Q a0 a1 a2 a3 a4 h] at c; exact c)

-- 60 varve/log.region
noncomputable def B60 : Code := (Try.f60.body).getD .skip
def R60 : List ResultVar := [.tmp 6]
abbrev N60 : Nat := 31
def K60 : KT := (.seq .leaf (.join (.reg [[0, 1, 2, 9, 11], [0, 1, 2, 13, 15], [0, 1, 2, 17, 21], [23, 29]]) .leaf [6]) [0, 1, 2])
def J60_11 (Q : AEnd → AH → Prop) (x6 : V) (h : AH) : Prop := vcAt Pg N60 B60 K60 [1, 1] [] (vcRet Pg R60 Q) [(6, x6)] h
def G60_101008 (Q : AEnd → AH → Prop) (x23 x29 : V) (h : AH) : Prop := segAt Pg N60 B60 K60 [1, 0] 8 4 [] (vcRet Pg R60 Q) [(23, x23), (29, x29)] h
def G60_101006 (Q : AEnd → AH → Prop) (x0 x1 x2 x17 x21 : V) (h : AH) : Prop := segAt Pg N60 B60 K60 [1, 0] 6 3 [] (vcRet Pg R60 Q) [(0, x0), (1, x1), (2, x2), (17, x17), (21, x21)] h
def G60_101004 (Q : AEnd → AH → Prop) (x0 x1 x2 x13 x15 : V) (h : AH) : Prop := segAt Pg N60 B60 K60 [1, 0] 4 2 [] (vcRet Pg R60 Q) [(0, x0), (1, x1), (2, x2), (13, x13), (15, x15)] h
def G60_101002 (Q : AEnd → AH → Prop) (x0 x1 x2 x9 x11 : V) (h : AH) : Prop := segAt Pg N60 B60 K60 [1, 0] 2 1 [] (vcRet Pg R60 Q) [(0, x0), (1, x1), (2, x2), (9, x9), (11, x11)] h
theorem J60_11_eq (Q : AEnd → AH → Prop) (x6 : V) (h : AH) : J60_11 Q x6 h = (
  Q (.ret x6) h) := by kernel_rfl
theorem G60_101008_eq (Q : AEnd → AH → Prop) (x23 x29 : V) (h : AH) : G60_101008 Q x23 x29 h = (
  bindV (aPick x23 x29 (V.bool false) h) fun v9 h10 =>
  Meet (J60_11 Q v9 h10)) := by kernel_rfl
theorem G60_101006_eq (Q : AEnd → AH → Prop) (x0 x1 x2 x17 x21 : V) (h : AH) : G60_101006 Q x0 x1 x2 x17 x21 h = (
  bindV (aPick x17 x21 (V.bool false) h) fun v7 h8 =>
  vcG v7 true (
  ACalls Pg 61 [x0] h8 (aEnd (fun v11 h12 =>
  bindV (still (aBin Pg .sub 3 v11 x2 false) h12) fun v13 h14 =>
  bindV (still (aBin Pg .leq 3 x1 v13 false) h14) fun v15 h16 =>
  Meet (G60_101008 Q v7 v15 h16)) fun v h => Q (.panic v) h)) (Meet (G60_101008 Q v7 hole h8))) := by kernel_rfl
theorem G60_101004_eq (Q : AEnd → AH → Prop) (x0 x1 x2 x13 x15 : V) (h : AH) : G60_101004 Q x0 x1 x2 x13 x15 h = (
  bindV (aPick x13 x15 (V.bool false) h) fun v5 h6 =>
  vcG v5 true (
  ACalls Pg 61 [x0] h6 (aEnd (fun v17 h18 =>
  bindV (still (aBin Pg .leq 3 x2 v17 false) h18) fun v19 h20 =>
  Meet (G60_101006 Q x0 x1 x2 v5 v19 h20)) fun v h => Q (.panic v) h)) (Meet (G60_101006 Q x0 x1 x2 v5 hole h6))) := by kernel_rfl
theorem G60_101002_eq (Q : AEnd → AH → Prop) (x0 x1 x2 x9 x11 : V) (h : AH) : G60_101002 Q x0 x1 x2 x9 x11 h = (
  bindV (aPick x9 x11 (V.bool false) h) fun v3 h4 =>
  vcG v3 true (
  bindV (still (aBin Pg .geq 3 x2 (V.int .i64 1) true) h4) fun v21 h22 =>
  Meet (G60_101004 Q x0 x1 x2 v3 v21 h22)) (Meet (G60_101004 Q x0 x1 x2 v3 hole h4))) := by kernel_rfl
theorem S60 (Q : AEnd → AH → Prop) (a0 a1 a2 : V) (h : AH) : vc Pg N60 B60 K60 (vcRet Pg R60 Q) (initEnv 0 [a0, a1, a2]) h = (
  bindV (still (aBin Pg .neq 39 a0 (V.ptr none) true) h) fun v1 h2 =>
  vcG v1 true (
  bindV (still (aBin Pg .geq 3 a1 (V.int .i64 0) true) h2) fun v23 h24 =>
  Meet (G60_101002 Q a0 a1 a2 v1 v23 h24)) (Meet (G60_101002 Q a0 a1 a2 v1 hole h2))) := by kernel_rfl
theorem C60 (Q : AEnd → AH → Prop) (a0 a1 a2 : V) (h : AH) (c :
  bindV (still (aBin Pg .neq 39 a0 (V.ptr none) true) h) fun v1 h2 =>
  vcG v1 true (
  bindV (still (aBin Pg .geq 3 a1 (V.int .i64 0) true) h2) fun v23 h24 =>
  Meet (G60_101002 Q a0 a1 a2 v1 v23 h24)) (Meet (G60_101002 Q a0 a1 a2 v1 hole h2))) : ACalls Pg 60 [a0, a1, a2] h Q :=
  acalls_of_vc okP Try.func60 (show Try.f60.body = some B60 from by kernel_rfl) K60 (by rw [← S60 Q a0 a1 a2 h] at c; exact c)

-- 93 varve/crc.More
noncomputable def B93 : Code := (Try.f93.body).getD .skip
def R93 : List ResultVar := [.tmp 4]
abbrev N93 : Nat := 28
def K93 : KT := (.seq .leaf (.seq .leaf (.join (.seq .leaf (.one (.loop (.join (.seq .leaf (.two .leaf .leaf) [1, 5, 6, 12]) (.join (.one (.seq .leaf (.seq .leaf (.one (.loop (.seq .leaf (.join (.two .leaf .leaf) (.join (.one .leaf) .leaf [1, 5, 6, 21]) [1, 5, 6, 21]) [1, 5, 6, 21, 22]) [1, 5, 6, 21])) [1, 5, 6, 21]) [1, 5, 6])) .leaf [1, 5, 6]) [1, 5, 6]) [1, 5, 6])) [1, 5, 6]) (.seq .leaf .leaf [4]) [5]) [1, 5]) [0, 1])
def J93_1101001001100111 (Q : AEnd → AH → Prop) (n n1 : Nat) (x1 x5 x6 x21 : V) (h : AH) : Prop := vcAt Pg N93 B93 K93 [1, 1, 0, 1, 0, 0, 1, 0, 0, 1, 1, 0, 0, 1, 1, 1] [n, n1] (vcRet Pg R93 Q) [(1, x1), (5, x5), (6, x6), (21, x21)] h
def J93_110100100110011 (Q : AEnd → AH → Prop) (n n1 : Nat) (x1 x5 x6 x21 : V) (h : AH) : Prop := vcAt Pg N93 B93 K93 [1, 1, 0, 1, 0, 0, 1, 0, 0, 1, 1, 0, 0, 1, 1] [n, n1] (vcRet Pg R93 Q) [(1, x1), (5, x5), (6, x6), (21, x21)] h
def J93_11010011 (Q : AEnd → AH → Prop) (n : Nat) (x1 x5 x6 : V) (h : AH) : Prop := vcAt Pg N93 B93 K93 [1, 1, 0, 1, 0, 0, 1, 1] [n] (vcRet Pg R93 Q) [(1, x1), (5, x5), (6, x6)] h
def L93_110100100110 (Q : AEnd → AH → Prop) (n : Nat) (n1 : Nat) (x1 x5 x6 x21 : V) (h : AH) : Prop := loopAt Pg N93 B93 K93 [1, 1, 0, 1, 0, 0, 1, 0, 0, 1, 1, 0] [n] n1 (vcRet Pg R93 Q) [(1, x1), (5, x5), (6, x6), (21, x21)] h
def J93_1101001 (Q : AEnd → AH → Prop) (n : Nat) (x1 x5 x6 : V) (h : AH) : Prop := vcAt Pg N93 B93 K93 [1, 1, 0, 1, 0, 0, 1] [n] (vcRet Pg R93 Q) [(1, x1), (5, x5), (6, x6)] h
def J93_111 (Q : AEnd → AH → Prop) (x5 : V) (h : AH) : Prop := vcAt Pg N93 B93 K93 [1, 1, 1] [] (vcRet Pg R93 Q) [(5, x5)] h
def L93_11010 (Q : AEnd → AH → Prop) (n : Nat) (x1 x5 x6 : V) (h : AH) : Prop := loopAt Pg N93 B93 K93 [1, 1, 0, 1, 0] [] n (vcRet Pg R93 Q) [(1, x1), (5, x5), (6, x6)] h
theorem J93_1101001001100111_eq (Q : AEnd → AH → Prop) (n n1 : Nat) (x1 x5 x6 x21 : V) (h : AH) : J93_1101001001100111 Q n n1 x1 x5 x6 x21 h = (
  bindV (still (aBin Pg .add 3 x21 (V.int .i64 1) true) h) fun v17 h18 =>
  Meet (L93_110100100110 Q n n1 x1 x5 x6 v17 h18)) := by kernel_rfl
theorem J93_110100100110011_eq (Q : AEnd → AH → Prop) (n n1 : Nat) (x1 x5 x6 x21 : V) (h : AH) : J93_110100100110011 Q n n1 x1 x5 x6 x21 h = (
  ACalls Pg 95 [x5] h (aEnd (fun v15 h16 =>
  Meet (J93_1101001001100111 Q n n1 x1 v15 x6 x21 h16)) fun v h => Q (.panic v) h)) := by kernel_rfl
theorem J93_11010011_eq (Q : AEnd → AH → Prop) (n : Nat) (x1 x5 x6 : V) (h : AH) : J93_11010011 Q n x1 x5 x6 h = (
  bindV (still (aBin Pg .add 3 x6 (V.int .i64 1) true) h) fun v19 h20 =>
  Meet (L93_11010 Q n x1 x5 v19 h20)) := by kernel_rfl
theorem L93_110100100110_eq (Q : AEnd → AH → Prop) (n : Nat) (n1 : Nat) (x1 x5 x6 x21 : V) (h : AH) : L93_110100100110 Q n (n1 + 1) x1 x5 x6 x21 h = (
  bindV (still (aBin Pg .lss 3 x21 (V.int .i64 8) true) h) fun v13 h14 =>
  vcIf v13 (
  Meet (J93_110100100110011 Q n n1 x1 x5 x6 x21 h14)) (
  Meet (J93_11010011 Q n x1 x5 x6 h14))) := by kernel_rfl
theorem J93_1101001_eq (Q : AEnd → AH → Prop) (n : Nat) (x1 x5 x6 : V) (h : AH) : J93_1101001 Q n x1 x5 x6 h = (
  bindV (still (aIndex Pg 9 x1 x6) h) fun v7 h8 =>
  bindV (still (aConv Pg h8 5 27 v7) h8) fun v9 h10 =>
  bindV (still (aBin Pg .xor 27 x5 v9 false) h10) fun v11 h12 =>
  ∃ n1, Meet (L93_110100100110 Q n n1 x1 v11 x6 (V.int .i64 0) h12)) := by kernel_rfl
theorem J93_111_eq (Q : AEnd → AH → Prop) (x5 : V) (h : AH) : J93_111 Q x5 h = (
  bindV (still (aUn .xor x5) h) fun v21 h22 =>
  Q (.ret v21) h22) := by kernel_rfl
theorem L93_11010_eq (Q : AEnd → AH → Prop) (n : Nat) (x1 x5 x6 : V) (h : AH) : L93_11010 Q (n + 1) x1 x5 x6 h = (
  bindV (aBuiltin Pg h .len [9] [x1]) fun v3 h4 =>
  bindV (still (aBin Pg .lss 3 x6 v3 false) h4) fun v5 h6 =>
  vcIf v5 (
  Meet (J93_1101001 Q n x1 x5 x6 h6)) (
  Meet (J93_111 Q x5 h6))) := by kernel_rfl
theorem S93 (Q : AEnd → AH → Prop) (a0 a1 : V) (h : AH) : vc Pg N93 B93 K93 (vcRet Pg R93 Q) (initEnv 0 [a0, a1]) h = (
  bindV (still (aUn .xor a0) h) fun v1 h2 =>
  ∃ n, Meet (L93_11010 Q n a1 v1 (V.int .i64 0) h2)) := by kernel_rfl
theorem C93 (Q : AEnd → AH → Prop) (a0 a1 : V) (h : AH) (c :
  bindV (still (aUn .xor a0) h) fun v1 h2 =>
  ∃ n, Meet (L93_11010 Q n a1 v1 (V.int .i64 0) h2)) : ACalls Pg 93 [a0, a1] h Q :=
  acalls_of_vc okP Try.func93 (show Try.f93.body = some B93 from by kernel_rfl) K93 (by rw [← S93 Q a0 a1 h] at c; exact c)

-- 95 varve/crc.step
noncomputable def B95 : Code := (Try.f95.body).getD .skip
def R95 : List ResultVar := [.tmp 2]
abbrev N95 : Nat := 10
def K95 : KT := (.seq .leaf (.seq .leaf .leaf [2]) [0])
theorem S95 (Q : AEnd → AH → Prop) (a0 : V) (h : AH) : vc Pg N95 B95 K95 (vcRet Pg R95 Q) (initEnv 0 [a0]) h = (
  bindV (still (aBin Pg .shr 27 a0 (V.int .u64 1) true) h) fun v1 h2 =>
  bindV (still (aBin Pg .and 27 a0 (V.int .u32 1) true) h2) fun v3 h4 =>
  bindV (still (aUn .neg v3) h4) fun v5 h6 =>
  bindV (still (aBin Pg .and 27 (V.int .u32 3988292384) v5 true) h6) fun v7 h8 =>
  bindV (still (aBin Pg .xor 27 v1 v7 false) h8) fun v9 h10 =>
  Q (.ret v9) h10) := by kernel_rfl
theorem C95 (Q : AEnd → AH → Prop) (a0 : V) (h : AH) (c :
  bindV (still (aBin Pg .shr 27 a0 (V.int .u64 1) true) h) fun v1 h2 =>
  bindV (still (aBin Pg .and 27 a0 (V.int .u32 1) true) h2) fun v3 h4 =>
  bindV (still (aUn .neg v3) h4) fun v5 h6 =>
  bindV (still (aBin Pg .and 27 (V.int .u32 3988292384) v5 true) h6) fun v7 h8 =>
  bindV (still (aBin Pg .xor 27 v1 v7 false) h8) fun v9 h10 =>
  Q (.ret v9) h10) : ACalls Pg 95 [a0] h Q :=
  acalls_of_vc okP Try.func95 (show Try.f95.body = some B95 from by kernel_rfl) K95 (by rw [← S95 Q a0 h] at c; exact c)

end Go.Proofs.Ytcglbpjpbjaecaa.Sh
namespace Go.Proofs.Ytcglbpjpbjaecaa.Sh
open Go Go.Ab Go.RowKit
open Go.Proofs.Ytcglbpjpbjaecaa.Ru (Pg okP)
set_option maxRecDepth 100000
set_option linter.unusedVariables false
-- 4 (*varve/base.Base).Change
noncomputable def B4 : Code := (Try.f4.body).getD .skip
def R4 : List ResultVar := [.tmp 4]
abbrev N4 : Nat := 105
def K4 : KT := (.seq .leaf (.join (.join (.reg [[0, 3, 4, 13, 16], [0, 3, 4, 18, 21], [0, 3, 4, 23, 26]]) (.two (.seq .leaf .leaf [4]) .leaf) [0, 3, 4, 27]) (.seq (.eff [10, 11]) (.join (.seq .leaf (.two (.seq .leaf .leaf [4]) .leaf) [0, 3, 4, 5, 6, 39]) (.seq .leaf (.seq (.eff [14]) (.join (.seq .leaf (.two (.seq .leaf .leaf [4]) .leaf) [0, 3, 4, 5, 6, 62]) (.join (.seq .leaf (.two .leaf .leaf) [0, 3, 4, 5, 70]) (.seq .leaf (.join (.seq .leaf (.seq .leaf (.two (.seq .leaf .leaf [4]) .leaf) [0, 3, 4, 5, 10, 90]) [0, 3, 4, 5, 10]) (.seq .leaf (.seq .leaf (.seq .leaf .leaf [4]) []) [0, 3, 4, 5]) [0, 3, 4, 5]) [0, 3, 4, 5, 7]) [0, 3, 4, 5]) [0, 3, 4, 5]) [0, 3, 4, 5, 6]) [0, 3, 4, 5]) [0, 3, 4, 5]) [0, 3, 4, 5, 6]) [0, 3, 4]) [0, 3, 4])
def J4_1111111111 (Q : AEnd → AH → Prop) (ds : List AD) (x0 x3 x4 x5 : V) (h : AH) : Prop := vcAtF Pg N4 B4 K4 [1, 1, 1, 1, 1, 1, 1, 1, 1, 1] (vcRetD Pg R4 Q) ds [(0, x0), (3, x3), (4, x4), (5, x5)] h
def J4_11111111 (Q : AEnd → AH → Prop) (ds : List AD) (x0 x3 x4 x5 : V) (h : AH) : Prop := vcAtF Pg N4 B4 K4 [1, 1, 1, 1, 1, 1, 1, 1] (vcRetD Pg R4 Q) ds [(0, x0), (3, x3), (4, x4), (5, x5)] h
def J4_1111111 (Q : AEnd → AH → Prop) (ds : List AD) (x0 x3 x4 x5 : V) (h : AH) : Prop := vcAtF Pg N4 B4 K4 [1, 1, 1, 1, 1, 1, 1] (vcRetD Pg R4 Q) ds [(0, x0), (3, x3), (4, x4), (5, x5)] h
def J4_1111 (Q : AEnd → AH → Prop) (ds : List AD) (x0 x3 x4 x5 : V) (h : AH) : Prop := vcAtF Pg N4 B4 K4 [1, 1, 1, 1] (vcRetD Pg R4 Q) ds [(0, x0), (3, x3), (4, x4), (5, x5)] h
def J4_11 (Q : AEnd → AH → Prop) (ds : List AD) (x0 x3 x4 : V) (h : AH) : Prop := vcAtF Pg N4 B4 K4 [1, 1] (vcRetD Pg R4 Q) ds [(0, x0), (3, x3), (4, x4)] h
def J4_101 (Q : AEnd → AH → Prop) (ds : List AD) (x0 x3 x4 x27 : V) (h : AH) : Prop := vcAtF Pg N4 B4 K4 [1, 0, 1] (vcRetD Pg R4 Q) ds [(0, x0), (3, x3), (4, x4), (27, x27)] h
def G4_1001006 (Q : AEnd → AH → Prop) (ds : List AD) (x0 x3 x4 x23 x26 : V) (h : AH) : Prop := segAtF Pg N4 B4 K4 [1, 0, 0] 6 3 (vcRetD Pg R4 Q) ds [(0, x0), (3, x3), (4, x4), (23, x23), (26, x26)] h
def G4_1001004 (Q : AEnd → AH → Prop) (ds : List AD) (x0 x3 x4 x18 x21 : V) (h : AH) : Prop := segAtF Pg N4 B4 K4 [1, 0, 0] 4 2 (vcRetD Pg R4 Q) ds [(0, x0), (3, x3), (4, x4), (18, x18), (21, x21)] h
def G4_1001002 (Q : AEnd → AH → Prop) (ds : List AD) (x0 x3 x4 x13 x16 : V) (h : AH) : Prop := segAtF Pg N4 B4 K4 [1, 0, 0] 2 1 (vcRetD Pg R4 Q) ds [(0, x0), (3, x3), (4, x4), (13, x13), (16, x16)] h
theorem J4_101_eq (Q : AEnd → AH → Prop) (ds : List AD) (x0 x3 x4 x27 : V) (h : AH) : J4_101 Q ds x0 x3 x4 x27 h = (
  vcIf x27 (
  aLeaves Pg R4 Q [(V.int .i64 1)] ds none h) (
  Meet (J4_11 Q ds x0 x3 x4 h))) := by kernel_rfl
theorem G4_1001006_eq (Q : AEnd → AH → Prop) (ds : List AD) (x0 x3 x4 x23 x26 : V) (h : AH) : G4_1001006 Q ds x0 x3 x4 x23 x26 h = (
  bindV (aPick x23 (V.bool true) x26 h) fun v9 h10 =>
  Meet (J4_101 Q ds x0 x3 x4 v9 h10)) := by kernel_rfl
theorem G4_1001004_eq (Q : AEnd → AH → Prop) (ds : List AD) (x0 x3 x4 x18 x21 : V) (h : AH) : G4_1001004 Q ds x0 x3 x4 x18 x21 h = (
  bindV (aPick x18 (V.bool true) x21 h) fun v7 h8 =>
  vcG v7 false (
  bindV (still (aFieldAddr Pg 33 x3 0) h8) fun v99 h100 =>
  bindV (aLoadV Pg h100 5 v99) fun v101 h102 =>
  bindV (still (aBin Pg .eql 5 v101 (V.int .u8 6) true) h102) fun v103 h104 =>
  Meet (G4_1001006 Q ds x0 x3 x4 v7 v103 h104)) (Meet (G4_1001006 Q ds x0 x3 x4 v7 hole h8))) := by kernel_rfl
theorem G4_1001002_eq (Q : AEnd → AH → Prop) (ds : List AD) (x0 x3 x4 x13 x16 : V) (h : AH) : G4_1001002 Q ds x0 x3 x4 x13 x16 h = (
  bindV (aPick x13 (V.bool true) x16 h) fun v5 h6 =>
  vcG v5 false (
  bindV (still (aFieldAddr Pg 33 x3 0) h6) fun v105 h106 =>
  bindV (aLoadV Pg h106 5 v105) fun v107 h108 =>
  bindV (still (aBin Pg .eql 5 v107 (V.int .u8 1) true) h108) fun v109 h110 =>
  Meet (G4_1001004 Q ds x0 x3 x4 v5 v109 h110)) (Meet (G4_1001004 Q ds x0 x3 x4 v5 hole h6))) := by kernel_rfl
theorem S4 (Q : AEnd → AH → Prop) (a0 a1 : V) (h : AH) : vcD Pg N4 B4 K4 (vcRetD Pg R4 Q) [] (initEnv 0 [a0, a1]) h = (
  bindV (aNew Pg h 33 a1) fun v1 h2 =>
  bindV (still (aBin Pg .eql 34 a0 (V.ptr none) true) h2) fun v3 h4 =>
  vcG v3 false (
  bindV (aLoadV Pg h4 33 v1) fun v111 h112 =>
  ACalls Pg 15 [v111] h112 (aEnd (fun v113 h114 =>
  bindV (still (aUn .not v113) h114) fun v115 h116 =>
  Meet (G4_1001002 Q [] a0 v1 (V.int .i64 0) v3 v115 h116)) fun v h => aLeaves Pg R4 Q [(V.int .i64 0)] [] (some v) h)) (Meet (G4_1001002 Q [] a0 v1 (V.int .i64 0) v3 hole h4))) := by kernel_rfl
theorem C4 (Q : AEnd → AH → Prop) (a0 a1 : V) (h : AH) (c :
  bindV (aNew Pg h 33 a1) fun v1 h2 =>
  bindV (still (aBin Pg .eql 34 a0 (V.ptr none) true) h2) fun v3 h4 =>
  vcG v3 false (
  bindV (aLoadV Pg h4 33 v1) fun v111 h112 =>
  ACalls Pg 15 [v111] h112 (aEnd (fun v113 h114 =>
  bindV (still (aUn .not v113) h114) fun v115 h116 =>
  Meet (G4_1001002 Q [] a0 v1 (V.int .i64 0) v3 v115 h116)) fun v h => aLeaves Pg R4 Q [(V.int .i64 0)] [] (some v) h)) (Meet (G4_1001002 Q [] a0 v1 (V.int .i64 0) v3 hole h4))) : ACalls Pg 4 [a0, a1] h Q :=
  acalls_vcD okP Try.func4 (show Try.f4.body = some B4 from by kernel_rfl) K4 N4 R4 rfl (by kernel_rfl) (by rw [← S4 Q a0 a1 h] at c; exact c)

-- 6 (*varve/base.Base).Learn
noncomputable def B6 : Code := (Try.f6.body).getD .skip
def R6 : List ResultVar := [.tmp 2]
abbrev N6 : Nat := 43
def K6 : KT := (.seq .leaf (.join (.seq .leaf (.two (.seq .leaf .leaf [2]) .leaf) [0, 8]) (.join (.seq .leaf (.one (.loop (.seq .leaf (.join (.two .leaf .leaf) (.join (.one (.seq .leaf (.seq .leaf (.seq (.eff [9, 10]) (.join (.seq .leaf (.two (.seq .leaf .leaf [2]) .leaf) [0, 4, 5, 6, 13, 14, 30]) (.seq .leaf .leaf [0, 4, 5, 13, 14]) [0, 4, 5, 13, 14]) [0, 4, 5, 6, 13, 14]) [0, 4, 13, 14]) [0, 3, 13, 14])) .leaf [0, 13, 14]) [0, 13, 14]) [0, 13, 14, 15]) [0, 13, 14])) [0, 13, 14]) (.seq .leaf .leaf [2]) []) [0]) [0])
def J6_110100111 (Q : AEnd → AH → Prop) (n : Nat) (x0 x13 x14 : V) (h : AH) : Prop := vcAt Pg N6 B6 K6 [1, 1, 0, 1, 0, 0, 1, 1, 1] [n] (vcRet Pg R6 Q) [(0, x0), (13, x13), (14, x14)] h
def J6_11010011001111 (Q : AEnd → AH → Prop) (n : Nat) (x0 x4 x5 x13 x14 : V) (h : AH) : Prop := vcAt Pg N6 B6 K6 [1, 1, 0, 1, 0, 0, 1, 1, 0, 0, 1, 1, 1, 1] [n] (vcRet Pg R6 Q) [(0, x0), (4, x4), (5, x5), (13, x13), (14, x14)] h
def J6_11010011 (Q : AEnd → AH → Prop) (n : Nat) (x0 x13 x14 : V) (h : AH) : Prop := vcAt Pg N6 B6 K6 [1, 1, 0, 1, 0, 0, 1, 1] [n] (vcRet Pg R6 Q) [(0, x0), (13, x13), (14, x14)] h
def J6_111 (Q : AEnd → AH → Prop) (h : AH) : Prop := vcAt Pg N6 B6 K6 [1, 1, 1] [] (vcRet Pg R6 Q) [] h
def L6_11010 (Q : AEnd → AH → Prop) (n : Nat) (x0 x13 x14 : V) (h : AH) : Prop := loopAt Pg N6 B6 K6 [1, 1, 0, 1, 0] [] n (vcRet Pg R6 Q) [(0, x0), (13, x13), (14, x14)] h
def J6_11 (Q : AEnd → AH → Prop) (x0 : V) (h : AH) : Prop := vcAt Pg N6 B6 K6 [1, 1] [] (vcRet Pg R6 Q) [(0, x0)] h
theorem S6 (Q : AEnd → AH → Prop) (a0 : V) (h : AH) : vc Pg N6 B6 K6 (vcRet Pg R6 Q) (initEnv 0 [a0]) h = (
  bindV (still (aBin Pg .eql 34 a0 (V.ptr none) true) h) fun v1 h2 =>
  vcIf v1 (
  Q (.ret (V.int .i64 1)) h2) (
  Meet (J6_11 Q a0 h2))) := by kernel_rfl
theorem C6 (Q : AEnd → AH → Prop) (a0 : V) (h : AH) (c :
  bindV (still (aBin Pg .eql 34 a0 (V.ptr none) true) h) fun v1 h2 =>
  vcIf v1 (
  Q (.ret (V.int .i64 1)) h2) (
  Meet (J6_11 Q a0 h2))) : ACalls Pg 6 [a0] h Q :=
  acalls_of_vc okP Try.func6 (show Try.f6.body = some B6 from by kernel_rfl) K6 (by rw [← S6 Q a0 h] at c; exact c)

end Go.Proofs.Ytcglbpjpbjaecaa.Sh
