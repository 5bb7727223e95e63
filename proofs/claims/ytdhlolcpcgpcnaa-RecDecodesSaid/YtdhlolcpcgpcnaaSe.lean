import Derived.Test.YtdhlolcpcgpcnaaSa
import Derived.Test.YtdhlolcpcgpcnaaAbG
set_option linter.unusedVariables false
set_option linter.unusedSimpArgs false
namespace Go.Proofs.Ytdhlolcpcgpcnaa.Sh
open Go Go.Ab Go.RowKit
set_option maxRecDepth 100000
set_option linter.unusedVariables false
-- 12 varve/varvelaw08.RecDecodes
noncomputable def B12 : Code := (Try.f12.body).getD .skip
def R12 : List ResultVar := [.tmp 2]
abbrev N12 : Nat := 36
def K12 : KT := (.seq .leaf (.seq .leaf (.seq .leaf (.join (.reg [[4, 6, 20, 24], [4, 26, 28], [26, 28, 30], [26, 31], [33, 34]]) .leaf [2]) [3, 4, 5, 6]) [0, 3, 4]) [0])
def J12_1111 (Q : AEnd → AH → Prop) (x2 : V) (h : AH) : Prop := vcAt Pg N12 B12 K12 [1, 1, 1, 1] [] (vcRet Pg R12 Q) [(2, x2)] h
def G12_11101008 (Q : AEnd → AH → Prop) (x33 x34 : V) (h : AH) : Prop := segAt Pg N12 B12 K12 [1, 1, 1, 0] 8 5 [] (vcRet Pg R12 Q) [(33, x33), (34, x34)] h
def G12_11101006 (Q : AEnd → AH → Prop) (x26 x31 : V) (h : AH) : Prop := segAt Pg N12 B12 K12 [1, 1, 1, 0] 6 4 [] (vcRet Pg R12 Q) [(26, x26), (31, x31)] h
def G12_11101005 (Q : AEnd → AH → Prop) (x26 x28 x30 : V) (h : AH) : Prop := segAt Pg N12 B12 K12 [1, 1, 1, 0] 5 3 [] (vcRet Pg R12 Q) [(26, x26), (28, x28), (30, x30)] h
def G12_11101004 (Q : AEnd → AH → Prop) (x4 x26 x28 : V) (h : AH) : Prop := segAt Pg N12 B12 K12 [1, 1, 1, 0] 4 2 [] (vcRet Pg R12 Q) [(4, x4), (26, x26), (28, x28)] h
def G12_11101002 (Q : AEnd → AH → Prop) (x4 x6 x20 x24 : V) (h : AH) : Prop := segAt Pg N12 B12 K12 [1, 1, 1, 0] 2 1 [] (vcRet Pg R12 Q) [(4, x4), (6, x6), (20, x20), (24, x24)] h
theorem J12_1111_eq (Q : AEnd → AH → Prop) (x2 : V) (h : AH) : J12_1111 Q x2 h = (
  Q (.ret x2) h) := by kernel_rfl
theorem G12_11101008_eq (Q : AEnd → AH → Prop) (x33 x34 : V) (h : AH) : G12_11101008 Q x33 x34 h = (
  bindV (aPick x33 x34 (V.bool false) h) fun v31 h32 =>
  Meet (J12_1111 Q v31 h32)) := by kernel_rfl
theorem G12_11101006_eq (Q : AEnd → AH → Prop) (x26 x31 : V) (h : AH) : G12_11101006 Q x26 x31 h = (
  bindV (aPick x26 x31 (V.bool false) h) fun v29 h30 =>
  vcG v29 true (
  ACalls Pg 32 [] h30 (aEnd (fun v33 h34 =>
  Meet (G12_11101008 Q v29 v33 h34)) fun v h => Q (.panic v) h)) (Meet (G12_11101008 Q v29 hole h30))) := by kernel_rfl
theorem G12_11101005_eq (Q : AEnd → AH → Prop) (x26 x28 x30 : V) (h : AH) : G12_11101005 Q x26 x28 x30 h = (
  vcG x26 true (
  bindV (aPick x28 (V.bool true) x30 h) fun v35 h36 =>
  Meet (G12_11101006 Q x26 v35 h36)) (Meet (G12_11101006 Q x26 hole h))) := by kernel_rfl
theorem G12_11101004_eq (Q : AEnd → AH → Prop) (x4 x26 x28 : V) (h : AH) : G12_11101004 Q x4 x26 x28 h = (
  vcG x28 false (
  bindV (still (aBin Pg .eql 52 x4 (V.int .i64 2) true) h) fun v37 h38 =>
  Meet (G12_11101005 Q x26 x28 v37 h38)) (Meet (G12_11101005 Q x26 x28 hole h))) := by kernel_rfl
theorem G12_11101002_eq (Q : AEnd → AH → Prop) (x4 x6 x20 x24 : V) (h : AH) : G12_11101002 Q x4 x6 x20 x24 h = (
  bindV (aPick x20 x24 (V.bool false) h) fun v27 h28 =>
  vcG v27 true (
  Meet (G12_11101004 Q x4 v27 x6 h28)) (Meet (G12_11101004 Q x4 v27 hole h28))) := by kernel_rfl
theorem S12 (Q : AEnd → AH → Prop) (a0 : V) (h : AH) : vc Pg N12 B12 K12 (vcRet Pg R12 Q) (initEnv 0 [a0]) h = (
  ACalls Pg 33 [a0] h (aEnd (fun v1 h2 =>
  bindV (still (aExtract v1 0) h2) fun v3 h4 =>
  bindV (still (aExtract v1 1) h4) fun v5 h6 =>
  bindV (aAlloc Pg h6 51) fun v7 h8 =>
  bindV (aStoreV Pg h8 51 v7 v3) fun _ h10 =>
  ACalls Pg 34 [a0] h10 (aEnd (fun v11 h12 =>
  bindV (still (aExtract v11 0) h12) fun v13 h14 =>
  bindV (still (aExtract v11 1) h14) fun v15 h16 =>
  bindV (aAlloc Pg h16 51) fun v17 h18 =>
  bindV (aStoreV Pg h18 51 v17 v13) fun _ h20 =>
  bindV (aLoadV Pg h20 51 v7) fun v21 h22 =>
  bindV (aLoadV Pg h22 51 v17) fun v23 h24 =>
  bindV (still (aBin Pg .eql 51 v21 v23 false) h24) fun v25 h26 =>
  vcG v25 true (
  bindV (still (aBin Pg .eql 52 v5 (V.int .i64 0) true) h26) fun v39 h40 =>
  bindV (still (aBin Pg .eql 4 v39 v15 false) h40) fun v41 h42 =>
  Meet (G12_11101002 Q v5 v15 v25 v41 h42)) (Meet (G12_11101002 Q v5 v15 v25 hole h26))) fun v h => Q (.panic v) h)) fun v h => Q (.panic v) h)) := by kernel_rfl
theorem C12 (Q : AEnd → AH → Prop) (a0 : V) (h : AH) (c :
  ACalls Pg 33 [a0] h (aEnd (fun v1 h2 =>
  bindV (still (aExtract v1 0) h2) fun v3 h4 =>
  bindV (still (aExtract v1 1) h4) fun v5 h6 =>
  bindV (aAlloc Pg h6 51) fun v7 h8 =>
  bindV (aStoreV Pg h8 51 v7 v3) fun _ h10 =>
  ACalls Pg 34 [a0] h10 (aEnd (fun v11 h12 =>
  bindV (still (aExtract v11 0) h12) fun v13 h14 =>
  bindV (still (aExtract v11 1) h14) fun v15 h16 =>
  bindV (aAlloc Pg h16 51) fun v17 h18 =>
  bindV (aStoreV Pg h18 51 v17 v13) fun _ h20 =>
  bindV (aLoadV Pg h20 51 v7) fun v21 h22 =>
  bindV (aLoadV Pg h22 51 v17) fun v23 h24 =>
  bindV (still (aBin Pg .eql 51 v21 v23 false) h24) fun v25 h26 =>
  vcG v25 true (
  bindV (still (aBin Pg .eql 52 v5 (V.int .i64 0) true) h26) fun v39 h40 =>
  bindV (still (aBin Pg .eql 4 v39 v15 false) h40) fun v41 h42 =>
  Meet (G12_11101002 Q v5 v15 v25 v41 h42)) (Meet (G12_11101002 Q v5 v15 v25 hole h26))) fun v h => Q (.panic v) h)) fun v h => Q (.panic v) h)) : ACalls Pg 12 [a0] h Q :=
  acalls_of_vc okP Try.func12 (show Try.f12.body = some B12 from by kernel_rfl) K12 (by rw [← S12 Q a0 h] at c; exact c)

-- 13 varve/varvelaw08.RecBack
noncomputable def B13 : Code := (Try.f13.body).getD .skip
def R13 : List ResultVar := [.tmp 4]
abbrev N13 : Nat := 81
def K13 : KT := (.seq .leaf (.seq .leaf (.join (.seq .leaf (.two (.seq .leaf (.join (.reg [[1, 2, 5, 27, 30], [1, 2, 5, 32, 35], [1, 2, 5, 37, 40], [1, 42, 47]]) (.two (.seq .leaf .leaf [4]) .leaf) [1, 48]) [1, 2, 5, 7, 8]) .leaf) [1, 2, 5, 19]) (.seq .leaf (.join (.seq .leaf (.two (.join (.reg [[59, 60]]) .leaf [4]) .leaf) [1, 9, 55]) (.seq .leaf (.join (.reg [[9, 69, 72], [74, 76], [78, 79]]) .leaf [4]) [1, 9, 11, 12]) [1, 9]) [1, 9, 10]) [1]) [1, 2, 5, 6]) [1, 2])
def J13_11110101 (Q : AEnd → AH → Prop) (x4 : V) (h : AH) : Prop := vcAt Pg N13 B13 K13 [1, 1, 1, 1, 0, 1, 0, 1] [] (vcRet Pg R13 Q) [(4, x4)] h
def G13_111101001002 (Q : AEnd → AH → Prop) (x59 x60 : V) (h : AH) : Prop := segAt Pg N13 B13 K13 [1, 1, 1, 1, 0, 1, 0, 0] 2 1 [] (vcRet Pg R13 Q) [(59, x59), (60, x60)] h
def J13_1111111 (Q : AEnd → AH → Prop) (x4 : V) (h : AH) : Prop := vcAt Pg N13 B13 K13 [1, 1, 1, 1, 1, 1, 1] [] (vcRet Pg R13 Q) [(4, x4)] h
def G13_11111101006 (Q : AEnd → AH → Prop) (x78 x79 : V) (h : AH) : Prop := segAt Pg N13 B13 K13 [1, 1, 1, 1, 1, 1, 0] 6 3 [] (vcRet Pg R13 Q) [(78, x78), (79, x79)] h
def G13_11111101004 (Q : AEnd → AH → Prop) (x74 x76 : V) (h : AH) : Prop := segAt Pg N13 B13 K13 [1, 1, 1, 1, 1, 1, 0] 4 2 [] (vcRet Pg R13 Q) [(74, x74), (76, x76)] h
def G13_11111101002 (Q : AEnd → AH → Prop) (x9 x69 x72 : V) (h : AH) : Prop := segAt Pg N13 B13 K13 [1, 1, 1, 1, 1, 1, 0] 2 1 [] (vcRet Pg R13 Q) [(9, x9), (69, x69), (72, x72)] h
def J13_11111 (Q : AEnd → AH → Prop) (x1 x9 : V) (h : AH) : Prop := vcAt Pg N13 B13 K13 [1, 1, 1, 1, 1] [] (vcRet Pg R13 Q) [(1, x1), (9, x9)] h
def J13_111 (Q : AEnd → AH → Prop) (x1 : V) (h : AH) : Prop := vcAt Pg N13 B13 K13 [1, 1, 1] [] (vcRet Pg R13 Q) [(1, x1)] h
def J13_1101011 (Q : AEnd → AH → Prop) (x1 x48 : V) (h : AH) : Prop := vcAt Pg N13 B13 K13 [1, 1, 0, 1, 0, 1, 1] [] (vcRet Pg R13 Q) [(1, x1), (48, x48)] h
def G13_11010101008 (Q : AEnd → AH → Prop) (x1 x42 x47 : V) (h : AH) : Prop := segAtD Pg N13 B13 K13 [1, 1, 0, 1, 0, 1, 0] 8 4 23 [] (vcRet Pg R13 Q) [(1, x1), (42, x42), (47, x47)] h
def G13_11010101006 (Q : AEnd → AH → Prop) (x1 x2 x5 x37 x40 : V) (h : AH) : Prop := segAtD Pg N13 B13 K13 [1, 1, 0, 1, 0, 1, 0] 6 3 16 [] (vcRet Pg R13 Q) [(1, x1), (2, x2), (5, x5), (37, x37), (40, x40)] h
def G13_11010101004 (Q : AEnd → AH → Prop) (x1 x2 x5 x32 x35 : V) (h : AH) : Prop := segAtD Pg N13 B13 K13 [1, 1, 0, 1, 0, 1, 0] 4 2 11 [] (vcRet Pg R13 Q) [(1, x1), (2, x2), (5, x5), (32, x32), (35, x35)] h
def G13_11010101002 (Q : AEnd → AH → Prop) (x1 x2 x5 x27 x30 : V) (h : AH) : Prop := segAtD Pg N13 B13 K13 [1, 1, 0, 1, 0, 1, 0] 2 1 6 [] (vcRet Pg R13 Q) [(1, x1), (2, x2), (5, x5), (27, x27), (30, x30)] h
theorem J13_11110101_eq (Q : AEnd → AH → Prop) (x4 : V) (h : AH) : J13_11110101 Q x4 h = (
  Q (.ret x4) h) := by kernel_rfl
theorem G13_111101001002_eq (Q : AEnd → AH → Prop) (x59 x60 : V) (h : AH) : G13_111101001002 Q x59 x60 h = (
  bindV (aPick x59 x60 (V.bool false) h) fun v46 h47 =>
  Meet (J13_11110101 Q v46 h47)) := by kernel_rfl
theorem J13_1111111_eq (Q : AEnd → AH → Prop) (x4 : V) (h : AH) : J13_1111111 Q x4 h = (
  Q (.ret x4) h) := by kernel_rfl
theorem G13_11111101006_eq (Q : AEnd → AH → Prop) (x78 x79 : V) (h : AH) : G13_11111101006 Q x78 x79 h = (
  bindV (aPick x78 x79 (V.bool false) h) fun v64 h65 =>
  Meet (J13_1111111 Q v64 h65)) := by kernel_rfl
theorem G13_11111101004_eq (Q : AEnd → AH → Prop) (x74 x76 : V) (h : AH) : G13_11111101004 Q x74 x76 h = (
  bindV (aPick x74 x76 (V.bool false) h) fun v62 h63 =>
  vcG v62 true (
  ACalls Pg 32 [] h63 (aEnd (fun v66 h67 =>
  Meet (G13_11111101006 Q v62 v66 h67)) fun v h => Q (.panic v) h)) (Meet (G13_11111101006 Q v62 hole h63))) := by kernel_rfl
theorem G13_11111101002_eq (Q : AEnd → AH → Prop) (x9 x69 x72 : V) (h : AH) : G13_11111101002 Q x9 x69 x72 h = (
  bindV (aPick x69 x72 (V.bool false) h) fun v60 h61 =>
  vcG v60 true (
  bindV (aLoadV Pg h61 51 x9) fun v68 h69 =>
  ACalls Pg 31 [v68] h69 (aEnd (fun v70 h71 =>
  Meet (G13_11111101004 Q v60 v70 h71)) fun v h => Q (.panic v) h)) (Meet (G13_11111101004 Q v60 hole h61))) := by kernel_rfl
theorem J13_11111_eq (Q : AEnd → AH → Prop) (x1 x9 : V) (h : AH) : J13_11111 Q x1 x9 h = (
  bindV (aLoadV Pg h 51 x9) fun v50 h51 =>
  ACalls Pg 29 [v50] h51 (aEnd (fun v52 h53 =>
  bindV (still (aExtract v52 0) h53) fun v54 h55 =>
  bindV (still (aExtract v52 1) h55) fun v56 h57 =>
  bindV (still (aBin Pg .eql 52 v56 (V.int .i64 0) true) h57) fun v58 h59 =>
  vcG v58 true (
  bindV (still (aBin Pg .eql 9 v54 x1 false) h59) fun v72 h73 =>
  Meet (G13_11111101002 Q x9 v58 v72 h73)) (Meet (G13_11111101002 Q x9 v58 hole h59))) fun v h => Q (.panic v) h)) := by kernel_rfl
theorem J13_111_eq (Q : AEnd → AH → Prop) (x1 : V) (h : AH) : J13_111 Q x1 h = (
  ACalls Pg 33 [x1] h (aEnd (fun v28 h29 =>
  bindV (still (aExtract v28 0) h29) fun v30 h31 =>
  bindV (still (aExtract v28 1) h31) fun v32 h33 =>
  bindV (aAlloc Pg h33 51) fun v34 h35 =>
  bindV (aStoreV Pg h35 51 v34 v30) fun _ h37 =>
  bindV (still (aBin Pg .neq 52 v32 (V.int .i64 0) true) h37) fun v38 h39 =>
  vcIf v38 (
  bindV (aLoadV Pg h39 51 v34) fun v40 h41 =>
  bindV (still (aBuild Pg 51 []) h41) fun v42 h43 =>
  bindV (still (aBin Pg .eql 51 v40 v42 false) h43) fun v44 h45 =>
  vcG v44 true (
  ACalls Pg 32 [] h45 (aEnd (fun v48 h49 =>
  Meet (G13_111101001002 Q v44 v48 h49)) fun v h => Q (.panic v) h)) (Meet (G13_111101001002 Q v44 hole h45))) (
  Meet (J13_11111 Q x1 v34 h39))) fun v h => Q (.panic v) h)) := by kernel_rfl
theorem J13_1101011_eq (Q : AEnd → AH → Prop) (x1 x48 : V) (h : AH) : J13_1101011 Q x1 x48 h = (
  vcIf x48 (
  Q (.ret (V.bool false)) h) (
  Meet (J13_111 Q x1 h))) := by kernel_rfl
theorem G13_11010101008_eq (Q : AEnd → AH → Prop) (x1 x42 x47 : V) (h : AH) : G13_11010101008 Q x1 x42 x47 h = (
  bindO (fstV (aPick x42 (V.bool true) x47 h)) fun v27 =>
  Meet (J13_1101011 Q x1 v27 h)) := by kernel_rfl
theorem G13_11010101006_eq (Q : AEnd → AH → Prop) (x1 x2 x5 x37 x40 : V) (h : AH) : G13_11010101006 Q x1 x2 x5 x37 x40 h = (
  bindO (fstV (aPick x37 (V.bool true) x40 h)) fun v26 =>
  vcG v26 false (
  bindO (fstV (still (aIndex Pg 9 x5 (V.int .i64 0)) h)) fun v74 =>
  bindO (fstV (still (aFieldAddr Pg 51 x2 0) h)) fun v75 =>
  bindO (fstV (aLoadV Pg h 5 v75)) fun v76 =>
  bindO (fstV (still (aBin Pg .neq 5 v74 v76 false) h)) fun v77 =>
  Meet (G13_11010101008 Q x1 v26 v77 h)) (Meet (G13_11010101008 Q x1 v26 hole h))) := by kernel_rfl
theorem G13_11010101004_eq (Q : AEnd → AH → Prop) (x1 x2 x5 x32 x35 : V) (h : AH) : G13_11010101004 Q x1 x2 x5 x32 x35 h = (
  bindO (fstV (aPick x32 (V.bool true) x35 h)) fun v25 =>
  vcG v25 false (
  bindO (fstV (aBuiltin Pg h .len [9] [x5])) fun v78 =>
  bindO (fstV (still (aBin Pg .lss 3 v78 (V.int .i64 1) true) h)) fun v79 =>
  Meet (G13_11010101006 Q x1 x2 x5 v25 v79 h)) (Meet (G13_11010101006 Q x1 x2 x5 v25 hole h))) := by kernel_rfl
theorem G13_11010101002_eq (Q : AEnd → AH → Prop) (x1 x2 x5 x27 x30 : V) (h : AH) : G13_11010101002 Q x1 x2 x5 x27 x30 h = (
  bindO (fstV (aPick x27 (V.bool true) x30 h)) fun v24 =>
  vcG v24 false (
  bindO (fstV (aBuiltin Pg h .len [9] [x5])) fun v80 =>
  bindO (fstV (still (aBin Pg .gtr 3 v80 (V.int .i64 400) true) h)) fun v81 =>
  Meet (G13_11010101004 Q x1 x2 x5 v24 v81 h)) (Meet (G13_11010101004 Q x1 x2 x5 v24 hole h))) := by kernel_rfl
theorem S13 (Q : AEnd → AH → Prop) (a0 a1 : V) (h : AH) : vc Pg N13 B13 K13 (vcRet Pg R13 Q) (initEnv 0 [a0, a1]) h = (
  bindV (aNew Pg h 51 a0) fun v1 h2 =>
  bindV (aLoadV Pg h2 51 v1) fun v3 h4 =>
  ACalls Pg 29 [v3] h4 (aEnd (fun v5 h6 =>
  bindV (still (aExtract v5 0) h6) fun v7 h8 =>
  bindV (still (aExtract v5 1) h8) fun v9 h10 =>
  bindV (still (aBin Pg .eql 52 v9 (V.int .i64 0) true) h10) fun v11 h12 =>
  vcIf v11 (
  ACalls Pg 33 [v7] h12 (aEnd (fun v13 h14 =>
  bindV (still (aExtract v13 0) h14) fun v15 h16 =>
  bindV (still (aExtract v13 1) h16) fun v17 h18 =>
  bindV (aAlloc Pg h18 51) fun v19 h20 =>
  bindV (aStoreV Pg h20 51 v19 v15) fun _ h22 =>
  bindO (fstV (still (aBin Pg .neq 52 v17 (V.int .i64 0) true) h22)) fun v23 =>
  vcG v23 false (
  bindO (fstV (aLoadV Pg h22 51 v19)) fun v82 =>
  bindO (fstV (aLoadV Pg h22 51 v1)) fun v83 =>
  bindO (fstV (still (aBin Pg .neq 51 v82 v83 false) h22)) fun v84 =>
  Meet (G13_11010101002 Q a1 v1 v7 v23 v84 h22)) (Meet (G13_11010101002 Q a1 v1 v7 v23 hole h22))) fun v h => Q (.panic v) h)) (
  Meet (J13_111 Q a1 h12))) fun v h => Q (.panic v) h)) := by kernel_rfl
theorem C13 (Q : AEnd → AH → Prop) (a0 a1 : V) (h : AH) (c :
  bindV (aNew Pg h 51 a0) fun v1 h2 =>
  bindV (aLoadV Pg h2 51 v1) fun v3 h4 =>
  ACalls Pg 29 [v3] h4 (aEnd (fun v5 h6 =>
  bindV (still (aExtract v5 0) h6) fun v7 h8 =>
  bindV (still (aExtract v5 1) h8) fun v9 h10 =>
  bindV (still (aBin Pg .eql 52 v9 (V.int .i64 0) true) h10) fun v11 h12 =>
  vcIf v11 (
  ACalls Pg 33 [v7] h12 (aEnd (fun v13 h14 =>
  bindV (still (aExtract v13 0) h14) fun v15 h16 =>
  bindV (still (aExtract v13 1) h16) fun v17 h18 =>
  bindV (aAlloc Pg h18 51) fun v19 h20 =>
  bindV (aStoreV Pg h20 51 v19 v15) fun _ h22 =>
  bindO (fstV (still (aBin Pg .neq 52 v17 (V.int .i64 0) true) h22)) fun v23 =>
  vcG v23 false (
  bindO (fstV (aLoadV Pg h22 51 v19)) fun v82 =>
  bindO (fstV (aLoadV Pg h22 51 v1)) fun v83 =>
  bindO (fstV (still (aBin Pg .neq 51 v82 v83 false) h22)) fun v84 =>
  Meet (G13_11010101002 Q a1 v1 v7 v23 v84 h22)) (Meet (G13_11010101002 Q a1 v1 v7 v23 hole h22))) fun v h => Q (.panic v) h)) (
  Meet (J13_111 Q a1 h12))) fun v h => Q (.panic v) h)) : ACalls Pg 13 [a0, a1] h Q :=
  acalls_of_vc okP Try.func13 (show Try.f13.body = some B13 from by kernel_rfl) K13 (by rw [← S13 Q a0 a1 h] at c; exact c)

-- 14 varve/varvelaw08.RecCut
noncomputable def B14 : Code := (Try.f14.body).getD .skip
def R14 : List ResultVar := [.tmp 6]
abbrev N14 : Nat := 60
def K14 : KT := (.seq .leaf (.seq .leaf (.join (.seq .leaf (.two (.join (.reg [[22, 23]]) .leaf [6]) .leaf) [1, 2, 7, 19]) (.join (.seq .leaf (.two (.seq .leaf .leaf [6]) .leaf) [1, 2, 7, 26]) (.seq .leaf (.seq .leaf (.seq .leaf (.join (.reg [[50, 55], [57, 58]]) .leaf [6]) [2, 10, 12]) [2, 7, 10]) [1, 2, 7]) [1, 2, 7]) [1, 2, 7]) [1, 2, 7, 8]) [1, 2, 3])
def J14_110101 (Q : AEnd → AH → Prop) (x6 : V) (h : AH) : Prop := vcAt Pg N14 B14 K14 [1, 1, 0, 1, 0, 1] [] (vcRet Pg R14 Q) [(6, x6)] h
def G14_1101001002 (Q : AEnd → AH → Prop) (x22 x23 : V) (h : AH) : Prop := segAt Pg N14 B14 K14 [1, 1, 0, 1, 0, 0] 2 1 [] (vcRet Pg R14 Q) [(22, x22), (23, x23)] h
def J14_11111111 (Q : AEnd → AH → Prop) (x6 : V) (h : AH) : Prop := vcAt Pg N14 B14 K14 [1, 1, 1, 1, 1, 1, 1, 1] [] (vcRet Pg R14 Q) [(6, x6)] h
def G14_111111101004 (Q : AEnd → AH → Prop) (x57 x58 : V) (h : AH) : Prop := segAt Pg N14 B14 K14 [1, 1, 1, 1, 1, 1, 1, 0] 4 2 [] (vcRet Pg R14 Q) [(57, x57), (58, x58)] h
def G14_111111101002 (Q : AEnd → AH → Prop) (x50 x55 : V) (h : AH) : Prop := segAt Pg N14 B14 K14 [1, 1, 1, 1, 1, 1, 1, 0] 2 1 [] (vcRet Pg R14 Q) [(50, x50), (55, x55)] h
def J14_1111 (Q : AEnd → AH → Prop) (x1 x2 x7 : V) (h : AH) : Prop := vcAt Pg N14 B14 K14 [1, 1, 1, 1] [] (vcRet Pg R14 Q) [(1, x1), (2, x2), (7, x7)] h
def J14_111 (Q : AEnd → AH → Prop) (x1 x2 x7 : V) (h : AH) : Prop := vcAt Pg N14 B14 K14 [1, 1, 1] [] (vcRet Pg R14 Q) [(1, x1), (2, x2), (7, x7)] h
theorem J14_110101_eq (Q : AEnd → AH → Prop) (x6 : V) (h : AH) : J14_110101 Q x6 h = (
  Q (.ret x6) h) := by kernel_rfl
theorem G14_1101001002_eq (Q : AEnd → AH → Prop) (x22 x23 : V) (h : AH) : G14_1101001002 Q x22 x23 h = (
  bindV (aPick x22 x23 (V.bool false) h) fun v15 h16 =>
  Meet (J14_110101 Q v15 h16)) := by kernel_rfl
theorem J14_11111111_eq (Q : AEnd → AH → Prop) (x6 : V) (h : AH) : J14_11111111 Q x6 h = (
  Q (.ret x6) h) := by kernel_rfl
theorem G14_111111101004_eq (Q : AEnd → AH → Prop) (x57 x58 : V) (h : AH) : G14_111111101004 Q x57 x58 h = (
  bindV (aPick x57 x58 (V.bool false) h) fun v59 h60 =>
  Meet (J14_11111111 Q v59 h60)) := by kernel_rfl
theorem G14_111111101002_eq (Q : AEnd → AH → Prop) (x50 x55 : V) (h : AH) : G14_111111101002 Q x50 x55 h = (
  bindV (aPick x50 x55 (V.bool false) h) fun v57 h58 =>
  vcG v57 true (
  ACalls Pg 32 [] h58 (aEnd (fun v61 h62 =>
  Meet (G14_111111101004 Q v57 v61 h62)) fun v h => Q (.panic v) h)) (Meet (G14_111111101004 Q v57 hole h58))) := by kernel_rfl
theorem J14_1111_eq (Q : AEnd → AH → Prop) (x1 x2 x7 : V) (h : AH) : J14_1111 Q x1 x2 x7 h = (
  bindV (still (aConv Pg h 3 65 x1) h) fun v21 h22 =>
  bindV (aBuiltin Pg h22 .len [9] [x7]) fun v23 h24 =>
  bindV (still (aConv Pg h24 3 65 v23) h24) fun v25 h26 =>
  bindV (still (aBin Pg .rem 65 v21 v25 false) h26) fun v27 h28 =>
  bindV (still (aConv Pg h28 65 3 v27) h28) fun v29 h30 =>
  bindV (still (aSlice Pg h30 9 x7 none (some v29)) h30) fun v31 h32 =>
  ACalls Pg 33 [v31] h32 (aEnd (fun v33 h34 =>
  bindV (still (aExtract v33 0) h34) fun v35 h36 =>
  bindV (still (aExtract v33 1) h36) fun v37 h38 =>
  bindV (aAlloc Pg h38 51) fun v39 h40 =>
  bindV (aStoreV Pg h40 51 v39 v35) fun _ h42 =>
  bindV (still (aBin Pg .add 9 x7 x2 false) h42) fun v43 h44 =>
  ACalls Pg 33 [v43] h44 (aEnd (fun v45 h46 =>
  bindV (still (aExtract v45 0) h46) fun v47 h48 =>
  bindV (still (aExtract v45 1) h48) fun v49 h50 =>
  bindV (aAlloc Pg h50 51) fun v51 h52 =>
  bindV (aStoreV Pg h52 51 v51 v47) fun _ h54 =>
  bindV (still (aBin Pg .eql 52 v37 (V.int .i64 2) true) h54) fun v55 h56 =>
  vcG v55 true (
  bindV (still (aBin Pg .eql 52 v49 (V.int .i64 0) true) h56) fun v63 h64 =>
  bindV (still (aBin Pg .eql 9 x2 (V.str []) true) h64) fun v65 h66 =>
  bindV (still (aBin Pg .eql 4 v63 v65 false) h66) fun v67 h68 =>
  Meet (G14_111111101002 Q v55 v67 h68)) (Meet (G14_111111101002 Q v55 hole h56))) fun v h => Q (.panic v) h)) fun v h => Q (.panic v) h)) := by kernel_rfl
theorem J14_111_eq (Q : AEnd → AH → Prop) (x1 x2 x7 : V) (h : AH) : J14_111 Q x1 x2 x7 h = (
  bindV (still (aBin Pg .eql 9 x7 (V.str []) true) h) fun v19 h20 =>
  vcIf v19 (
  Q (.ret (V.bool false)) h20) (
  Meet (J14_1111 Q x1 x2 x7 h20))) := by kernel_rfl
theorem S14 (Q : AEnd → AH → Prop) (a0 a1 a2 : V) (h : AH) : vc Pg N14 B14 K14 (vcRet Pg R14 Q) (initEnv 0 [a0, a1, a2]) h = (
  bindV (aNew Pg h 51 a0) fun v1 h2 =>
  bindV (aLoadV Pg h2 51 v1) fun v3 h4 =>
  ACalls Pg 29 [v3] h4 (aEnd (fun v5 h6 =>
  bindV (still (aExtract v5 0) h6) fun v7 h8 =>
  bindV (still (aExtract v5 1) h8) fun v9 h10 =>
  bindV (still (aBin Pg .neq 52 v9 (V.int .i64 0) true) h10) fun v11 h12 =>
  vcIf v11 (
  bindV (still (aBin Pg .eql 9 v7 (V.str []) true) h12) fun v13 h14 =>
  vcG v13 true (
  ACalls Pg 32 [] h14 (aEnd (fun v17 h18 =>
  Meet (G14_1101001002 Q v13 v17 h18)) fun v h => Q (.panic v) h)) (Meet (G14_1101001002 Q v13 hole h14))) (
  Meet (J14_111 Q a1 a2 v7 h12))) fun v h => Q (.panic v) h)) := by kernel_rfl
theorem C14 (Q : AEnd → AH → Prop) (a0 a1 a2 : V) (h : AH) (c :
  bindV (aNew Pg h 51 a0) fun v1 h2 =>
  bindV (aLoadV Pg h2 51 v1) fun v3 h4 =>
  ACalls Pg 29 [v3] h4 (aEnd (fun v5 h6 =>
  bindV (still (aExtract v5 0) h6) fun v7 h8 =>
  bindV (still (aExtract v5 1) h8) fun v9 h10 =>
  bindV (still (aBin Pg .neq 52 v9 (V.int .i64 0) true) h10) fun v11 h12 =>
  vcIf v11 (
  bindV (still (aBin Pg .eql 9 v7 (V.str []) true) h12) fun v13 h14 =>
  vcG v13 true (
  ACalls Pg 32 [] h14 (aEnd (fun v17 h18 =>
  Meet (G14_1101001002 Q v13 v17 h18)) fun v h => Q (.panic v) h)) (Meet (G14_1101001002 Q v13 hole h14))) (
  Meet (J14_111 Q a1 a2 v7 h12))) fun v h => Q (.panic v) h)) : ACalls Pg 14 [a0, a1, a2] h Q :=
  acalls_of_vc okP Try.func14 (show Try.f14.body = some B14 from by kernel_rfl) K14 (by rw [← S14 Q a0 a1 a2 h] at c; exact c)

-- 19 varve/varveref01.Get
noncomputable def B19 : Code := (Try.f19.body).getD .skip
def R19 : List ResultVar := [.tmp 6, .tmp 7]
abbrev N19 : Nat := 53
def K19 : KT := (.seq .leaf (.join (.join (.reg [[0, 1, 2, 13, 15], [0, 1, 2, 17, 19], [0, 1, 2, 21, 25], [0, 1, 2, 27, 33]]) (.two (.seq .leaf .leaf [6, 7]) .leaf) [0, 1, 2, 34]) (.seq .leaf (.join (.seq .leaf (.one (.loop (.join (.seq .leaf (.two .leaf .leaf) [0, 1, 2, 8, 9, 10, 37]) (.join (.one (.seq .leaf .leaf [0, 1, 2, 8, 9, 10])) .leaf [0, 1, 2, 8, 9, 10]) [0, 1, 2, 8, 9, 10]) [0, 1, 2, 8, 9, 10])) [0, 1, 2, 8, 9, 10]) (.seq .leaf .leaf [6, 7]) [8]) [0, 1, 2, 8, 9]) [0, 1, 2]) [0, 1, 2])
def J19_111010011 (Q : AEnd → AH → Prop) (n : Nat) (x0 x1 x2 x8 x9 x10 : V) (h : AH) : Prop := vcAt Pg N19 B19 K19 [1, 1, 1, 0, 1, 0, 0, 1, 1] [n] (vcRet Pg R19 Q) [(0, x0), (1, x1), (2, x2), (8, x8), (9, x9), (10, x10)] h
def J19_11101001 (Q : AEnd → AH → Prop) (n : Nat) (x0 x1 x2 x8 x9 x10 : V) (h : AH) : Prop := vcAt Pg N19 B19 K19 [1, 1, 1, 0, 1, 0, 0, 1] [n] (vcRet Pg R19 Q) [(0, x0), (1, x1), (2, x2), (8, x8), (9, x9), (10, x10)] h
def J19_1111 (Q : AEnd → AH → Prop) (x8 : V) (h : AH) : Prop := vcAt Pg N19 B19 K19 [1, 1, 1, 1] [] (vcRet Pg R19 Q) [(8, x8)] h
def L19_111010 (Q : AEnd → AH → Prop) (n : Nat) (x0 x1 x2 x8 x9 x10 : V) (h : AH) : Prop := loopAt Pg N19 B19 K19 [1, 1, 1, 0, 1, 0] [] n (vcRet Pg R19 Q) [(0, x0), (1, x1), (2, x2), (8, x8), (9, x9), (10, x10)] h
def J19_11 (Q : AEnd → AH → Prop) (x0 x1 x2 : V) (h : AH) : Prop := vcAt Pg N19 B19 K19 [1, 1] [] (vcRet Pg R19 Q) [(0, x0), (1, x1), (2, x2)] h
def J19_101 (Q : AEnd → AH → Prop) (x0 x1 x2 x34 : V) (h : AH) : Prop := vcAt Pg N19 B19 K19 [1, 0, 1] [] (vcRet Pg R19 Q) [(0, x0), (1, x1), (2, x2), (34, x34)] h
def G19_1001008 (Q : AEnd → AH → Prop) (x0 x1 x2 x27 x33 : V) (h : AH) : Prop := segAt Pg N19 B19 K19 [1, 0, 0] 8 4 [] (vcRet Pg R19 Q) [(0, x0), (1, x1), (2, x2), (27, x27), (33, x33)] h
def G19_1001006 (Q : AEnd → AH → Prop) (x0 x1 x2 x21 x25 : V) (h : AH) : Prop := segAt Pg N19 B19 K19 [1, 0, 0] 6 3 [] (vcRet Pg R19 Q) [(0, x0), (1, x1), (2, x2), (21, x21), (25, x25)] h
def G19_1001004 (Q : AEnd → AH → Prop) (x0 x1 x2 x17 x19 : V) (h : AH) : Prop := segAt Pg N19 B19 K19 [1, 0, 0] 4 2 [] (vcRet Pg R19 Q) [(0, x0), (1, x1), (2, x2), (17, x17), (19, x19)] h
def G19_1001002 (Q : AEnd → AH → Prop) (x0 x1 x2 x13 x15 : V) (h : AH) : Prop := segAt Pg N19 B19 K19 [1, 0, 0] 2 1 [] (vcRet Pg R19 Q) [(0, x0), (1, x1), (2, x2), (13, x13), (15, x15)] h
theorem J19_111010011_eq (Q : AEnd → AH → Prop) (n : Nat) (x0 x1 x2 x8 x9 x10 : V) (h : AH) : J19_111010011 Q n x0 x1 x2 x8 x9 x10 h = (
  bindV (still (aBin Pg .add 3 x10 (V.int .i64 1) true) h) fun v25 h26 =>
  Meet (L19_111010 Q n x0 x1 x2 x8 x9 v25 h26)) := by kernel_rfl
theorem J19_11101001_eq (Q : AEnd → AH → Prop) (n : Nat) (x0 x1 x2 x8 x9 x10 : V) (h : AH) : J19_11101001 Q n x0 x1 x2 x8 x9 x10 h = (
  bindV (still (aBin Pg .add 3 x1 x10 false) h) fun v13 h14 =>
  bindV (still (aIndex Pg 9 x0 v13) h14) fun v15 h16 =>
  bindV (still (aConv Pg h16 5 22 v15) h16) fun v17 h18 =>
  bindV (still (aBin Pg .mul 22 x9 v17 false) h18) fun v19 h20 =>
  bindV (still (aBin Pg .add 22 x8 v19 false) h20) fun v21 h22 =>
  bindV (still (aBin Pg .mul 22 x9 (V.int .u64 256) true) h22) fun v23 h24 =>
  Meet (J19_111010011 Q n x0 x1 x2 v21 v23 x10 h24)) := by kernel_rfl
theorem J19_1111_eq (Q : AEnd → AH → Prop) (x8 : V) (h : AH) : J19_1111 Q x8 h = (
  Q (.ret (V.tup [x8, (V.bool true)])) h) := by kernel_rfl
theorem L19_111010_eq (Q : AEnd → AH → Prop) (n : Nat) (x0 x1 x2 x8 x9 x10 : V) (h : AH) : L19_111010 Q (n + 1) x0 x1 x2 x8 x9 x10 h = (
  bindV (still (aBin Pg .lss 3 x10 x2 false) h) fun v11 h12 =>
  vcIf v11 (
  Meet (J19_11101001 Q n x0 x1 x2 x8 x9 x10 h12)) (
  Meet (J19_1111 Q x8 h12))) := by kernel_rfl
theorem J19_11_eq (Q : AEnd → AH → Prop) (x0 x1 x2 : V) (h : AH) : J19_11 Q x0 x1 x2 h = (
  ∃ n, Meet (L19_111010 Q n x0 x1 x2 (V.int .u64 0) (V.int .u64 1) (V.int .i64 0) h)) := by kernel_rfl
theorem J19_101_eq (Q : AEnd → AH → Prop) (x0 x1 x2 x34 : V) (h : AH) : J19_101 Q x0 x1 x2 x34 h = (
  vcIf x34 (
  Q (.ret (V.tup [(V.int .u64 0), (V.bool false)])) h) (
  Meet (J19_11 Q x0 x1 x2 h))) := by kernel_rfl
theorem G19_1001008_eq (Q : AEnd → AH → Prop) (x0 x1 x2 x27 x33 : V) (h : AH) : G19_1001008 Q x0 x1 x2 x27 x33 h = (
  bindV (aPick x27 (V.bool true) x33 h) fun v9 h10 =>
  Meet (J19_101 Q x0 x1 x2 v9 h10)) := by kernel_rfl
theorem G19_1001006_eq (Q : AEnd → AH → Prop) (x0 x1 x2 x21 x25 : V) (h : AH) : G19_1001006 Q x0 x1 x2 x21 x25 h = (
  bindV (aPick x21 (V.bool true) x25 h) fun v7 h8 =>
  vcG v7 false (
  bindV (aBuiltin Pg h8 .len [9] [x0]) fun v27 h28 =>
  bindV (still (aBin Pg .sub 3 v27 x1 false) h28) fun v29 h30 =>
  bindV (still (aBin Pg .lss 3 v29 x2 false) h30) fun v31 h32 =>
  Meet (G19_1001008 Q x0 x1 x2 v7 v31 h32)) (Meet (G19_1001008 Q x0 x1 x2 v7 hole h8))) := by kernel_rfl
theorem G19_1001004_eq (Q : AEnd → AH → Prop) (x0 x1 x2 x17 x19 : V) (h : AH) : G19_1001004 Q x0 x1 x2 x17 x19 h = (
  bindV (aPick x17 (V.bool true) x19 h) fun v5 h6 =>
  vcG v5 false (
  bindV (aBuiltin Pg h6 .len [9] [x0]) fun v33 h34 =>
  bindV (still (aBin Pg .gtr 3 x1 v33 false) h34) fun v35 h36 =>
  Meet (G19_1001006 Q x0 x1 x2 v5 v35 h36)) (Meet (G19_1001006 Q x0 x1 x2 v5 hole h6))) := by kernel_rfl
theorem G19_1001002_eq (Q : AEnd → AH → Prop) (x0 x1 x2 x13 x15 : V) (h : AH) : G19_1001002 Q x0 x1 x2 x13 x15 h = (
  bindV (aPick x13 (V.bool true) x15 h) fun v3 h4 =>
  vcG v3 false (
  bindV (still (aBin Pg .lss 3 x1 (V.int .i64 0) true) h4) fun v37 h38 =>
  Meet (G19_1001004 Q x0 x1 x2 v3 v37 h38)) (Meet (G19_1001004 Q x0 x1 x2 v3 hole h4))) := by kernel_rfl
theorem S19 (Q : AEnd → AH → Prop) (a0 a1 a2 : V) (h : AH) : vc Pg N19 B19 K19 (vcRet Pg R19 Q) (initEnv 0 [a0, a1, a2]) h = (
  bindV (still (aBin Pg .lss 3 a2 (V.int .i64 0) true) h) fun v1 h2 =>
  vcG v1 false (
  bindV (still (aBin Pg .gtr 3 a2 (V.int .i64 8) true) h2) fun v39 h40 =>
  Meet (G19_1001002 Q a0 a1 a2 v1 v39 h40)) (Meet (G19_1001002 Q a0 a1 a2 v1 hole h2))) := by kernel_rfl
theorem C19 (Q : AEnd → AH → Prop) (a0 a1 a2 : V) (h : AH) (c :
  bindV (still (aBin Pg .lss 3 a2 (V.int .i64 0) true) h) fun v1 h2 =>
  vcG v1 false (
  bindV (still (aBin Pg .gtr 3 a2 (V.int .i64 8) true) h2) fun v39 h40 =>
  Meet (G19_1001002 Q a0 a1 a2 v1 v39 h40)) (Meet (G19_1001002 Q a0 a1 a2 v1 hole h2))) : ACalls Pg 19 [a0, a1, a2] h Q :=
  acalls_of_vc okP Try.func19 (show Try.f19.body = some B19 from by kernel_rfl) K19 (by rw [← S19 Q a0 a1 a2 h] at c; exact c)

-- 33 varve/rec.Decode
noncomputable def B33 : Code := (Try.f33.body).getD .skip
def R33 : List ResultVar := [.cell 2 51, .cell 3 52]
abbrev N33 : Nat := 123
def K33 : KT := (.seq .leaf (.seq .leaf (.seq .leaf (.seq .leaf (.join (.seq .leaf (.one (.seq .leaf (.two (.seq .leaf (.seq .leaf (.seq .leaf (.join (.join (.reg [[2, 3, 4, 5, 7, 33, 36], [2, 3, 4, 5, 7, 38, 42], [2, 3, 4, 5, 7, 38, 42, 48], [2, 3, 4, 5, 7, 38, 49]]) (.two (.seq .leaf .leaf [2, 3]) .leaf) [2, 3, 4, 5, 7, 50]) .leaf [2, 3, 4, 5, 7]) [2, 3, 4, 5, 6, 7]) [2, 3, 4, 5, 6]) [2, 3, 4, 5, 6]) (.seq .leaf (.two (.seq .leaf .leaf [2, 3, 4, 5]) (.join (.seq .leaf (.two .leaf (.seq .leaf (.two .leaf .leaf) [2, 3, 4, 5, 17, 73])) [2, 3, 4, 5, 17, 73]) (.two (.seq .leaf (.seq .leaf (.seq .leaf (.two (.seq .leaf .leaf [2, 3, 4, 5]) .leaf) [2, 3, 4, 5, 88]) [2, 3, 4, 5]) [2, 3, 4, 5]) (.seq .leaf (.two .leaf .leaf) [2, 3, 4, 5, 105])) [2, 3, 4, 5, 17, 73])) [2, 3, 4, 5, 17, 56])) [2, 3, 4, 5, 17, 18])) [2, 3, 4, 5, 17]) (.join (.join (.reg [[2, 3, 5, 116, 119]]) (.two (.seq .leaf .leaf [2, 3]) .leaf) [2, 3, 5, 120]) (.seq .leaf .leaf [2, 3]) [2, 3, 5]) [2, 3, 4, 5]) [2, 3, 4, 5]) [2, 3, 4]) [0, 2, 3]) [0, 2, 3])
def J33_111111 (Q : AEnd → AH → Prop) (ds : List AD) (x2 x3 x5 : V) (h : AH) : Prop := vcAtF Pg N33 B33 K33 [1, 1, 1, 1, 1, 1] (vcRetD Pg R33 Q) ds [(2, x2), (3, x3), (5, x5)] h
def J33_1111101 (Q : AEnd → AH → Prop) (ds : List AD) (x2 x3 x5 x120 : V) (h : AH) : Prop := vcAtF Pg N33 B33 K33 [1, 1, 1, 1, 1, 0, 1] (vcRetD Pg R33 Q) ds [(2, x2), (3, x3), (5, x5), (120, x120)] h
def G33_11111001002 (Q : AEnd → AH → Prop) (ds : List AD) (x2 x3 x5 x116 x119 : V) (h : AH) : Prop := segAtF Pg N33 B33 K33 [1, 1, 1, 1, 1, 0, 0] 2 1 (vcRetD Pg R33 Q) ds [(2, x2), (3, x3), (5, x5), (116, x116), (119, x119)] h
def J33_11111 (Q : AEnd → AH → Prop) (ds : List AD) (x2 x3 x4 x5 : V) (h : AH) : Prop := vcAtF Pg N33 B33 K33 [1, 1, 1, 1, 1] (vcRetD Pg R33 Q) ds [(2, x2), (3, x3), (4, x4), (5, x5)] h
def J33_1111010101111 (Q : AEnd → AH → Prop) (ds : List AD) (x2 x3 x4 x5 x7 : V) (h : AH) : Prop := vcAtF Pg N33 B33 K33 [1, 1, 1, 1, 0, 1, 0, 1, 0, 1, 1, 1, 1] (vcRetD Pg R33 Q) ds [(2, x2), (3, x3), (4, x4), (5, x5), (7, x7)] h
def J33_11110101011101 (Q : AEnd → AH → Prop) (ds : List AD) (x2 x3 x4 x5 x7 x50 : V) (h : AH) : Prop := vcAtF Pg N33 B33 K33 [1, 1, 1, 1, 0, 1, 0, 1, 0, 1, 1, 1, 0, 1] (vcRetD Pg R33 Q) ds [(2, x2), (3, x3), (4, x4), (5, x5), (7, x7), (50, x50)] h
def G33_111101010111001006 (Q : AEnd → AH → Prop) (ds : List AD) (x2 x3 x4 x5 x7 x38 x49 : V) (h : AH) : Prop := segAtF Pg N33 B33 K33 [1, 1, 1, 1, 0, 1, 0, 1, 0, 1, 1, 1, 0, 0] 6 4 (vcRetD Pg R33 Q) ds [(2, x2), (3, x3), (4, x4), (5, x5), (7, x7), (38, x38), (49, x49)] h
def G33_111101010111001005 (Q : AEnd → AH → Prop) (ds : List AD) (x2 x3 x4 x5 x7 x38 x42 x48 : V) (h : AH) : Prop := segAtF Pg N33 B33 K33 [1, 1, 1, 1, 0, 1, 0, 1, 0, 1, 1, 1, 0, 0] 5 3 (vcRetD Pg R33 Q) ds [(2, x2), (3, x3), (4, x4), (5, x5), (7, x7), (38, x38), (42, x42), (48, x48)] h
def G33_111101010111001004 (Q : AEnd → AH → Prop) (ds : List AD) (x2 x3 x4 x5 x7 x38 x42 : V) (h : AH) : Prop := segAtF Pg N33 B33 K33 [1, 1, 1, 1, 0, 1, 0, 1, 0, 1, 1, 1, 0, 0] 4 2 (vcRetD Pg R33 Q) ds [(2, x2), (3, x3), (4, x4), (5, x5), (7, x7), (38, x38), (42, x42)] h
def G33_111101010111001002 (Q : AEnd → AH → Prop) (ds : List AD) (x2 x3 x4 x5 x7 x33 x36 : V) (h : AH) : Prop := segAtF Pg N33 B33 K33 [1, 1, 1, 1, 0, 1, 0, 1, 0, 1, 1, 1, 0, 0] 2 1 (vcRetD Pg R33 Q) ds [(2, x2), (3, x3), (4, x4), (5, x5), (7, x7), (33, x33), (36, x36)] h
def J33_111101011111 (Q : AEnd → AH → Prop) (ds : List AD) (x2 x3 x4 x5 x17 x73 : V) (h : AH) : Prop := vcAtF Pg N33 B33 K33 [1, 1, 1, 1, 0, 1, 0, 1, 1, 1, 1, 1] (vcRetD Pg R33 Q) ds [(2, x2), (3, x3), (4, x4), (5, x5), (17, x17), (73, x73)] h
theorem J33_111111_eq (Q : AEnd → AH → Prop) (ds : List AD) (x2 x3 x5 : V) (h : AH) : J33_111111 Q ds x2 x3 x5 h = (
  bindV (aLoadV Pg h 51 x5) fun v75 h76 =>
  bindV (aStoreV Pg h76 51 x2 v75) fun _ h78 =>
  bindV (aStoreV Pg h78 52 x3 (V.int .i64 0)) fun _ h80 =>
  aLeaves Pg R33 Q [x2, x3] ds none h80) := by kernel_rfl
theorem J33_1111101_eq (Q : AEnd → AH → Prop) (ds : List AD) (x2 x3 x5 x120 : V) (h : AH) : J33_1111101 Q ds x2 x3 x5 x120 h = (
  vcIf x120 (
  bindV (still (aBuild Pg 51 []) h) fun v69 h70 =>
  bindV (aStoreV Pg h70 51 x2 v69) fun _ h72 =>
  bindV (aStoreV Pg h72 52 x3 (V.int .i64 2)) fun _ h74 =>
  aLeaves Pg R33 Q [x2, x3] ds none h74) (
  Meet (J33_111111 Q ds x2 x3 x5 h))) := by kernel_rfl
theorem G33_11111001002_eq (Q : AEnd → AH → Prop) (ds : List AD) (x2 x3 x5 x116 x119 : V) (h : AH) : G33_11111001002 Q ds x2 x3 x5 x116 x119 h = (
  bindV (aPick x116 (V.bool true) x119 h) fun v67 h68 =>
  Meet (J33_1111101 Q ds x2 x3 x5 v67 h68)) := by kernel_rfl
theorem J33_11111_eq (Q : AEnd → AH → Prop) (ds : List AD) (x2 x3 x4 x5 : V) (h : AH) : J33_11111 Q ds x2 x3 x4 x5 h = (
  bindV (aNil x4 h) fun v59 h60 =>
  bindV (still (aFieldAddr Pg 77 v59 0) h60) fun v61 h62 =>
  bindV (aLoadV Pg h62 9 v61) fun v63 h64 =>
  bindV (still (aBin Pg .neq 9 v63 (V.str []) true) h64) fun v65 h66 =>
  vcG v65 false (
  bindV (aLoadV Pg h66 51 x5) fun v81 h82 =>
  ACalls Pg 31 [v81] h82 (aEnd (fun v83 h84 =>
  bindV (still (aUn .not v83) h84) fun v85 h86 =>
  Meet (G33_11111001002 Q ds x2 x3 x5 v65 v85 h86)) fun v h => aLeaves Pg R33 Q [x2, x3] ds (some v) h)) (Meet (G33_11111001002 Q ds x2 x3 x5 v65 hole h66))) := by kernel_rfl
theorem J33_1111010101111_eq (Q : AEnd → AH → Prop) (ds : List AD) (x2 x3 x4 x5 x7 : V) (h : AH) : J33_1111010101111 Q ds x2 x3 x4 x5 x7 h = (
  bindV (still (aFieldAddr Pg 51 x5 2) h) fun v53 h54 =>
  bindV (still (aSlice Pg h54 44 v53 none none) h54) fun v55 h56 =>
  bindV (aBuiltin Pg h56 .copy [67, 9] [v55, x7]) fun v57 h58 =>
  Meet (J33_11111 Q ds x2 x3 x4 x5 h58)) := by kernel_rfl
theorem J33_11110101011101_eq (Q : AEnd → AH → Prop) (ds : List AD) (x2 x3 x4 x5 x7 x50 : V) (h : AH) : J33_11110101011101 Q ds x2 x3 x4 x5 x7 x50 h = (
  vcIf x50 (
  bindV (still (aBuild Pg 51 []) h) fun v47 h48 =>
  bindV (aStoreV Pg h48 51 x2 v47) fun _ h50 =>
  bindV (aStoreV Pg h50 52 x3 (V.int .i64 2)) fun _ h52 =>
  aLeaves Pg R33 Q [x2, x3] ds none h52) (
  Meet (J33_1111010101111 Q ds x2 x3 x4 x5 x7 h))) := by kernel_rfl
theorem G33_111101010111001006_eq (Q : AEnd → AH → Prop) (ds : List AD) (x2 x3 x4 x5 x7 x38 x49 : V) (h : AH) : G33_111101010111001006 Q ds x2 x3 x4 x5 x7 x38 x49 h = (
  bindV (aPick x38 (V.bool true) x49 h) fun v45 h46 =>
  Meet (J33_11110101011101 Q ds x2 x3 x4 x5 x7 v45 h46)) := by kernel_rfl
theorem G33_111101010111001005_eq (Q : AEnd → AH → Prop) (ds : List AD) (x2 x3 x4 x5 x7 x38 x42 x48 : V) (h : AH) : G33_111101010111001005 Q ds x2 x3 x4 x5 x7 x38 x42 x48 h = (
  vcG x38 false (
  bindV (aPick x42 x48 (V.bool false) h) fun v87 h88 =>
  Meet (G33_111101010111001006 Q ds x2 x3 x4 x5 x7 x38 v87 h88)) (Meet (G33_111101010111001006 Q ds x2 x3 x4 x5 x7 x38 hole h))) := by kernel_rfl
theorem G33_111101010111001004_eq (Q : AEnd → AH → Prop) (ds : List AD) (x2 x3 x4 x5 x7 x38 x42 : V) (h : AH) : G33_111101010111001004 Q ds x2 x3 x4 x5 x7 x38 x42 h = (
  vcG x42 true (
  bindV (aBuiltin Pg h .len [9] [x7]) fun v89 h90 =>
  bindV (still (aBin Pg .sub 3 v89 (V.int .i64 1) true) h90) fun v91 h92 =>
  bindV (still (aIndex Pg 9 x7 v91) h92) fun v93 h94 =>
  bindV (still (aBin Pg .eql 5 v93 (V.int .u8 0) true) h94) fun v95 h96 =>
  Meet (G33_111101010111001005 Q ds x2 x3 x4 x5 x7 x38 x42 v95 h96)) (Meet (G33_111101010111001005 Q ds x2 x3 x4 x5 x7 x38 x42 hole h))) := by kernel_rfl
theorem G33_111101010111001002_eq (Q : AEnd → AH → Prop) (ds : List AD) (x2 x3 x4 x5 x7 x33 x36 : V) (h : AH) : G33_111101010111001002 Q ds x2 x3 x4 x5 x7 x33 x36 h = (
  bindV (aPick x33 (V.bool true) x36 h) fun v43 h44 =>
  vcG v43 false (
  bindV (aBuiltin Pg h44 .len [9] [x7]) fun v97 h98 =>
  bindV (still (aBin Pg .gtr 3 v97 (V.int .i64 0) true) h98) fun v99 h100 =>
  Meet (G33_111101010111001004 Q ds x2 x3 x4 x5 x7 v43 v99 h100)) (Meet (G33_111101010111001004 Q ds x2 x3 x4 x5 x7 v43 hole h44))) := by kernel_rfl
theorem J33_111101011111_eq (Q : AEnd → AH → Prop) (ds : List AD) (x2 x3 x4 x5 x17 x73 : V) (h : AH) : J33_111101011111 Q ds x2 x3 x4 x5 x17 x73 h = (
  vcIf x73 (
  ACalls Pg 41 [x4, (V.int .i64 2)] h (aEnd (fun v139 h140 =>
  bindV (still (aConv Pg h140 22 40 v139) h140) fun v141 h142 =>
  bindV (still (aBuild Pg 42 [(0, (V.bool true)), (1, v141)]) h142) fun v143 h144 =>
  bindV (still (aFieldAddr Pg 51 x5 1) h144) fun v145 h146 =>
  bindV (aStoreV Pg h146 42 v145 v143) fun _ h148 =>
  ACalls Pg 41 [x4, (V.int .i64 1)] h148 (aEnd (fun v149 h150 =>
  bindV (still (aConv Pg h150 22 5 v149) h150) fun v151 h152 =>
  bindV (still (aFieldAddr Pg 51 x5 6) h152) fun v153 h154 =>
  bindV (aStoreV Pg h154 5 v153 v151) fun _ h156 =>
  bindV (still (aFieldAddr Pg 51 x5 0) h156) fun v157 h158 =>
  bindV (aLoadV Pg h158 5 v157) fun v159 h160 =>
  bindV (still (aBin Pg .eql 5 v159 (V.int .u8 3) true) h160) fun v161 h162 =>
  vcIf v161 (
  ACalls Pg 41 [x4, (V.int .i64 2)] h162 (aEnd (fun v163 h164 =>
  bindV (still (aConv Pg h164 22 40 v163) h164) fun v165 h166 =>
  ACalls Pg 41 [x4, (V.int .i64 4)] h166 (aEnd (fun v167 h168 =>
  bindV (still (aConv Pg h168 22 45 v167) h168) fun v169 h170 =>
  bindV (still (aBuild Pg 49 [(0, (V.bool true)), (1, v165), (2, v169)]) h170) fun v171 h172 =>
  bindV (still (aFieldAddr Pg 51 x5 7) h172) fun v173 h174 =>
  bindV (aStoreV Pg h174 49 v173 v171) fun _ h176 =>
  ACalls Pg 43 [x4] h176 (aEnd (fun v177 h178 =>
  ACalls Pg 42 [x4] h178 (aEnd (fun v179 h180 =>
  bindV (still (aFieldAddr Pg 51 x5 7) h180) fun v181 h182 =>
  bindV (still (aFieldAddr Pg 49 v181 3) h182) fun v183 h184 =>
  bindV (aStoreV Pg h184 47 v183 v177) fun _ h186 =>
  bindV (still (aFieldAddr Pg 51 x5 7) h186) fun v187 h188 =>
  bindV (still (aFieldAddr Pg 49 v187 4) h188) fun v189 h190 =>
  bindV (aStoreV Pg h190 9 v189 v179) fun _ h192 =>
  Meet (J33_11111 Q ds x2 x3 x4 x5 h192)) fun v h => aLeaves Pg R33 Q [x2, x3] ds (some v) h)) fun v h => aLeaves Pg R33 Q [x2, x3] ds (some v) h)) fun v h => aLeaves Pg R33 Q [x2, x3] ds (some v) h)) fun v h => aLeaves Pg R33 Q [x2, x3] ds (some v) h)) (
  Meet (J33_11111 Q ds x2 x3 x4 x5 h162))) fun v h => aLeaves Pg R33 Q [x2, x3] ds (some v) h)) fun v h => aLeaves Pg R33 Q [x2, x3] ds (some v) h)) (
  bindV (still (aBin Pg .eql 5 x17 (V.int .u8 6) true) h) fun v193 h194 =>
  vcIf v193 (
  ACalls Pg 41 [x4, (V.int .i64 4)] h194 (aEnd (fun v195 h196 =>
  bindV (still (aConv Pg h196 22 45 v195) h196) fun v197 h198 =>
  bindV (still (aFieldAddr Pg 51 x5 3) h198) fun v199 h200 =>
  bindV (aStoreV Pg h200 45 v199 v197) fun _ h202 =>
  Meet (J33_11111 Q ds x2 x3 x4 x5 h202)) fun v h => aLeaves Pg R33 Q [x2, x3] ds (some v) h)) (
  Meet (J33_11111 Q ds x2 x3 x4 x5 h194)))) := by kernel_rfl
theorem S33 (Q : AEnd → AH → Prop) (a0 : V) (h : AH) : vcD Pg N33 B33 K33 (vcRetD Pg R33 Q) [] (initEnv 0 [a0]) h = (
  bindV (aAlloc Pg h 51) fun v1 h2 =>
  bindV (aAlloc Pg h2 52) fun v3 h4 =>
  bindV (still (aBuild Pg 77 [(0, a0)]) h4) fun v5 h6 =>
  bindV (aNew Pg h6 77 v5) fun v7 h8 =>
  ACalls Pg 41 [v7, (V.int .i64 1)] h8 (aEnd (fun v9 h10 =>
  bindV (still (aConv Pg h10 22 5 v9) h10) fun v11 h12 =>
  bindV (still (aBuild Pg 51 [(0, v11)]) h12) fun v13 h14 =>
  bindV (aAlloc Pg h14 51) fun v15 h16 =>
  bindV (aStoreV Pg h16 51 v15 v13) fun _ h18 =>
  bindV (still (aFieldAddr Pg 51 v15 0) h18) fun v19 h20 =>
  bindV (aLoadV Pg h20 5 v19) fun v21 h22 =>
  bindV (still (aBin Pg .eql 5 v21 (V.int .u8 1) true) h22) fun v23 h24 =>
  vcIf v23 (
  ACalls Pg 41 [v7, (V.int .i64 1)] h24 (aEnd (fun v25 h26 =>
  bindV (still (aBin Pg .eql 22 v25 (V.int .u64 1) true) h26) fun v27 h28 =>
  ACalls Pg 41 [v7, (V.int .i64 2)] h28 (aEnd (fun v29 h30 =>
  bindV (still (aConv Pg h30 22 40 v29) h30) fun v31 h32 =>
  bindV (still (aBuild Pg 42 [(0, v27), (1, v31)]) h32) fun v33 h34 =>
  bindV (still (aFieldAddr Pg 51 v15 1) h34) fun v35 h36 =>
  bindV (aStoreV Pg h36 42 v35 v33) fun _ h38 =>
  ACalls Pg 42 [v7] h38 (aEnd (fun v39 h40 =>
  bindV (still (aBin Pg .gtr 22 v25 (V.int .u64 1) true) h40) fun v41 h42 =>
  vcG v41 false (
  bindV (aBuiltin Pg h42 .len [9] [v39]) fun v101 h102 =>
  bindV (still (aBin Pg .gtr 3 v101 (V.int .i64 224) true) h102) fun v103 h104 =>
  Meet (G33_111101010111001002 Q ((40, [v1, v3]) :: []) v1 v3 v7 v15 v39 v41 v103 h104)) (Meet (G33_111101010111001002 Q ((40, [v1, v3]) :: []) v1 v3 v7 v15 v39 v41 hole h42))) fun v h => aLeaves Pg R33 Q [v1, v3] ((40, [v1, v3]) :: []) (some v) h)) fun v h => aLeaves Pg R33 Q [v1, v3] ((40, [v1, v3]) :: []) (some v) h)) fun v h => aLeaves Pg R33 Q [v1, v3] ((40, [v1, v3]) :: []) (some v) h)) (
  bindV (still (aBin Pg .eql 5 v21 (V.int .u8 2) true) h24) fun v105 h106 =>
  vcIf v105 (
  ACalls Pg 41 [v7, (V.int .i64 2)] h106 (aEnd (fun v107 h108 =>
  bindV (still (aConv Pg h108 22 40 v107) h108) fun v109 h110 =>
  ACalls Pg 41 [v7, (V.int .i64 4)] h110 (aEnd (fun v111 h112 =>
  bindV (still (aConv Pg h112 22 45 v111) h112) fun v113 h114 =>
  bindV (still (aFieldAddr Pg 51 v15 1) h114) fun v115 h116 =>
  bindV (still (aFieldAddr Pg 42 v115 1) h116) fun v117 h118 =>
  bindV (aStoreV Pg h118 40 v117 v109) fun _ h120 =>
  bindV (still (aFieldAddr Pg 51 v15 3) h120) fun v121 h122 =>
  bindV (aStoreV Pg h122 45 v121 v113) fun _ h124 =>
  ACalls Pg 43 [v7] h124 (aEnd (fun v125 h126 =>
  ACalls Pg 42 [v7] h126 (aEnd (fun v127 h128 =>
  bindV (still (aFieldAddr Pg 51 v15 4) h128) fun v129 h130 =>
  bindV (aStoreV Pg h130 47 v129 v125) fun _ h132 =>
  bindV (still (aFieldAddr Pg 51 v15 5) h132) fun v133 h134 =>
  bindV (aStoreV Pg h134 9 v133 v127) fun _ h136 =>
  Meet (J33_11111 Q ((40, [v1, v3]) :: []) v1 v3 v7 v15 h136)) fun v h => aLeaves Pg R33 Q [v1, v3] ((40, [v1, v3]) :: []) (some v) h)) fun v h => aLeaves Pg R33 Q [v1, v3] ((40, [v1, v3]) :: []) (some v) h)) fun v h => aLeaves Pg R33 Q [v1, v3] ((40, [v1, v3]) :: []) (some v) h)) fun v h => aLeaves Pg R33 Q [v1, v3] ((40, [v1, v3]) :: []) (some v) h)) (
  bindV (still (aBin Pg .eql 5 v21 (V.int .u8 3) true) h106) fun v137 h138 =>
  vcIf v137 (
  Meet (J33_111101011111 Q ((40, [v1, v3]) :: []) v1 v3 v7 v15 v21 v137 h138)) (
  bindV (still (aBin Pg .eql 5 v21 (V.int .u8 4) true) h138) fun v203 h204 =>
  vcIf v203 (
  Meet (J33_111101011111 Q ((40, [v1, v3]) :: []) v1 v3 v7 v15 v21 v203 h204)) (
  bindV (still (aBin Pg .eql 5 v21 (V.int .u8 5) true) h204) fun v205 h206 =>
  Meet (J33_111101011111 Q ((40, [v1, v3]) :: []) v1 v3 v7 v15 v21 v205 h206)))))) fun v h => aLeaves Pg R33 Q [v1, v3] ((40, [v1, v3]) :: []) (some v) h)) := by kernel_rfl
theorem C33 (Q : AEnd → AH → Prop) (a0 : V) (h : AH) (c :
  bindV (aAlloc Pg h 51) fun v1 h2 =>
  bindV (aAlloc Pg h2 52) fun v3 h4 =>
  bindV (still (aBuild Pg 77 [(0, a0)]) h4) fun v5 h6 =>
  bindV (aNew Pg h6 77 v5) fun v7 h8 =>
  ACalls Pg 41 [v7, (V.int .i64 1)] h8 (aEnd (fun v9 h10 =>
  bindV (still (aConv Pg h10 22 5 v9) h10) fun v11 h12 =>
  bindV (still (aBuild Pg 51 [(0, v11)]) h12) fun v13 h14 =>
  bindV (aAlloc Pg h14 51) fun v15 h16 =>
  bindV (aStoreV Pg h16 51 v15 v13) fun _ h18 =>
  bindV (still (aFieldAddr Pg 51 v15 0) h18) fun v19 h20 =>
  bindV (aLoadV Pg h20 5 v19) fun v21 h22 =>
  bindV (still (aBin Pg .eql 5 v21 (V.int .u8 1) true) h22) fun v23 h24 =>
  vcIf v23 (
  ACalls Pg 41 [v7, (V.int .i64 1)] h24 (aEnd (fun v25 h26 =>
  bindV (still (aBin Pg .eql 22 v25 (V.int .u64 1) true) h26) fun v27 h28 =>
  ACalls Pg 41 [v7, (V.int .i64 2)] h28 (aEnd (fun v29 h30 =>
  bindV (still (aConv Pg h30 22 40 v29) h30) fun v31 h32 =>
  bindV (still (aBuild Pg 42 [(0, v27), (1, v31)]) h32) fun v33 h34 =>
  bindV (still (aFieldAddr Pg 51 v15 1) h34) fun v35 h36 =>
  bindV (aStoreV Pg h36 42 v35 v33) fun _ h38 =>
  ACalls Pg 42 [v7] h38 (aEnd (fun v39 h40 =>
  bindV (still (aBin Pg .gtr 22 v25 (V.int .u64 1) true) h40) fun v41 h42 =>
  vcG v41 false (
  bindV (aBuiltin Pg h42 .len [9] [v39]) fun v101 h102 =>
  bindV (still (aBin Pg .gtr 3 v101 (V.int .i64 224) true) h102) fun v103 h104 =>
  Meet (G33_111101010111001002 Q ((40, [v1, v3]) :: []) v1 v3 v7 v15 v39 v41 v103 h104)) (Meet (G33_111101010111001002 Q ((40, [v1, v3]) :: []) v1 v3 v7 v15 v39 v41 hole h42))) fun v h => aLeaves Pg R33 Q [v1, v3] ((40, [v1, v3]) :: []) (some v) h)) fun v h => aLeaves Pg R33 Q [v1, v3] ((40, [v1, v3]) :: []) (some v) h)) fun v h => aLeaves Pg R33 Q [v1, v3] ((40, [v1, v3]) :: []) (some v) h)) (
  bindV (still (aBin Pg .eql 5 v21 (V.int .u8 2) true) h24) fun v105 h106 =>
  vcIf v105 (
  ACalls Pg 41 [v7, (V.int .i64 2)] h106 (aEnd (fun v107 h108 =>
  bindV (still (aConv Pg h108 22 40 v107) h108) fun v109 h110 =>
  ACalls Pg 41 [v7, (V.int .i64 4)] h110 (aEnd (fun v111 h112 =>
  bindV (still (aConv Pg h112 22 45 v111) h112) fun v113 h114 =>
  bindV (still (aFieldAddr Pg 51 v15 1) h114) fun v115 h116 =>
  bindV (still (aFieldAddr Pg 42 v115 1) h116) fun v117 h118 =>
  bindV (aStoreV Pg h118 40 v117 v109) fun _ h120 =>
  bindV (still (aFieldAddr Pg 51 v15 3) h120) fun v121 h122 =>
  bindV (aStoreV Pg h122 45 v121 v113) fun _ h124 =>
  ACalls Pg 43 [v7] h124 (aEnd (fun v125 h126 =>
  ACalls Pg 42 [v7] h126 (aEnd (fun v127 h128 =>
  bindV (still (aFieldAddr Pg 51 v15 4) h128) fun v129 h130 =>
  bindV (aStoreV Pg h130 47 v129 v125) fun _ h132 =>
  bindV (still (aFieldAddr Pg 51 v15 5) h132) fun v133 h134 =>
  bindV (aStoreV Pg h134 9 v133 v127) fun _ h136 =>
  Meet (J33_11111 Q ((40, [v1, v3]) :: []) v1 v3 v7 v15 h136)) fun v h => aLeaves Pg R33 Q [v1, v3] ((40, [v1, v3]) :: []) (some v) h)) fun v h => aLeaves Pg R33 Q [v1, v3] ((40, [v1, v3]) :: []) (some v) h)) fun v h => aLeaves Pg R33 Q [v1, v3] ((40, [v1, v3]) :: []) (some v) h)) fun v h => aLeaves Pg R33 Q [v1, v3] ((40, [v1, v3]) :: []) (some v) h)) (
  bindV (still (aBin Pg .eql 5 v21 (V.int .u8 3) true) h106) fun v137 h138 =>
  vcIf v137 (
  Meet (J33_111101011111 Q ((40, [v1, v3]) :: []) v1 v3 v7 v15 v21 v137 h138)) (
  bindV (still (aBin Pg .eql 5 v21 (V.int .u8 4) true) h138) fun v203 h204 =>
  vcIf v203 (
  Meet (J33_111101011111 Q ((40, [v1, v3]) :: []) v1 v3 v7 v15 v21 v203 h204)) (
  bindV (still (aBin Pg .eql 5 v21 (V.int .u8 5) true) h204) fun v205 h206 =>
  Meet (J33_111101011111 Q ((40, [v1, v3]) :: []) v1 v3 v7 v15 v21 v205 h206)))))) fun v h => aLeaves Pg R33 Q [v1, v3] ((40, [v1, v3]) :: []) (some v) h)) : ACalls Pg 33 [a0] h Q :=
  acalls_vcD okP Try.func33 (show Try.f33.body = some B33 from by kernel_rfl) K33 N33 R33 rfl (by kernel_rfl) (by rw [← S33 Q a0 h] at c; exact c)

-- 34 varve/varveref08.Decode
noncomputable def B34 : Code := (Try.f34.body).getD .skip
def R34 : List ResultVar := [.cell 2 51, .tmp 3]
abbrev N34 : Nat := 127
def K34 : KT := (.seq .leaf (.join (.seq .leaf (.two (.seq .leaf .leaf [2, 3]) .leaf) [0, 2, 10]) (.seq .leaf (.join (.seq .leaf (.one (.seq .leaf (.two (.seq .leaf (.seq .leaf (.seq .leaf (.one (.loop (.join (.join (.reg [[0, 2, 4, 5, 6, 33, 35]]) (.two .leaf .leaf) [0, 2, 4, 5, 6, 36]) (.join (.one .leaf) .leaf [0, 2, 4, 5, 6]) [0, 2, 4, 5, 6]) [0, 2, 4, 5, 6])) [0, 2, 4, 5, 6]) [0, 2, 4, 5]) [0, 2, 4]) (.seq .leaf (.two (.seq .leaf (.seq .leaf (.seq .leaf .leaf [0, 2, 4]) [0, 2, 4]) [0, 2, 4]) (.seq .leaf (.two (.seq .leaf (.seq .leaf .leaf [0, 2, 4]) [0, 2, 4]) (.join (.seq .leaf (.two .leaf .leaf) [0, 2, 4, 16, 95]) (.two (.seq .leaf .leaf [0, 2, 4]) (.seq .leaf (.two .leaf .leaf) [0, 2, 4, 107])) [0, 2, 4, 16, 95])) [0, 2, 4, 16, 67])) [0, 2, 4, 16, 45])) [0, 2, 4, 16, 17])) [0, 2, 4, 16]) (.seq .leaf (.join (.join (.reg [[2, 4, 120, 123]]) (.two (.seq .leaf .leaf [2, 3]) .leaf) [2, 4, 124]) (.seq .leaf .leaf [2, 3]) [2, 4]) [0, 2, 4, 7, 8]) [0, 2, 4]) [0, 2, 4]) [0, 2]) [0, 2])
def J34_111010101110011 (Q : AEnd → AH → Prop) (n : Nat) (x0 x2 x4 x5 x6 : V) (h : AH) : Prop := vcAt Pg N34 B34 K34 [1, 1, 1, 0, 1, 0, 1, 0, 1, 1, 1, 0, 0, 1, 1] [n] (vcRet Pg R34 Q) [(0, x0), (2, x2), (4, x4), (5, x5), (6, x6)] h
def J34_11101010111001 (Q : AEnd → AH → Prop) (n : Nat) (x0 x2 x4 x5 x6 : V) (h : AH) : Prop := vcAt Pg N34 B34 K34 [1, 1, 1, 0, 1, 0, 1, 0, 1, 1, 1, 0, 0, 1] [n] (vcRet Pg R34 Q) [(0, x0), (2, x2), (4, x4), (5, x5), (6, x6)] h
def J34_111111 (Q : AEnd → AH → Prop) (x2 x4 : V) (h : AH) : Prop := vcAt Pg N34 B34 K34 [1, 1, 1, 1, 1, 1] [] (vcRet Pg R34 Q) [(2, x2), (4, x4)] h
def J34_1111101 (Q : AEnd → AH → Prop) (x2 x4 x124 : V) (h : AH) : Prop := vcAt Pg N34 B34 K34 [1, 1, 1, 1, 1, 0, 1] [] (vcRet Pg R34 Q) [(2, x2), (4, x4), (124, x124)] h
def G34_11111001002 (Q : AEnd → AH → Prop) (x2 x4 x120 x123 : V) (h : AH) : Prop := segAt Pg N34 B34 K34 [1, 1, 1, 1, 1, 0, 0] 2 1 [] (vcRet Pg R34 Q) [(2, x2), (4, x4), (120, x120), (123, x123)] h
def J34_1111 (Q : AEnd → AH → Prop) (x0 x2 x4 : V) (h : AH) : Prop := vcAt Pg N34 B34 K34 [1, 1, 1, 1] [] (vcRet Pg R34 Q) [(0, x0), (2, x2), (4, x4)] h
def J34_111010101110001 (Q : AEnd → AH → Prop) (n : Nat) (x0 x2 x4 x5 x6 x36 : V) (h : AH) : Prop := vcAt Pg N34 B34 K34 [1, 1, 1, 0, 1, 0, 1, 0, 1, 1, 1, 0, 0, 0, 1] [n] (vcRet Pg R34 Q) [(0, x0), (2, x2), (4, x4), (5, x5), (6, x6), (36, x36)] h
def G34_1110101011100001002 (Q : AEnd → AH → Prop) (n : Nat) (x0 x2 x4 x5 x6 x33 x35 : V) (h : AH) : Prop := segAt Pg N34 B34 K34 [1, 1, 1, 0, 1, 0, 1, 0, 1, 1, 1, 0, 0, 0, 0] 2 1 [n] (vcRet Pg R34 Q) [(0, x0), (2, x2), (4, x4), (5, x5), (6, x6), (33, x33), (35, x35)] h
def L34_111010101110 (Q : AEnd → AH → Prop) (n : Nat) (x0 x2 x4 x5 x6 : V) (h : AH) : Prop := loopAt Pg N34 B34 K34 [1, 1, 1, 0, 1, 0, 1, 0, 1, 1, 1, 0] [] n (vcRet Pg R34 Q) [(0, x0), (2, x2), (4, x4), (5, x5), (6, x6)] h
def J34_1110101111111 (Q : AEnd → AH → Prop) (x0 x2 x4 x16 x95 : V) (h : AH) : Prop := vcAt Pg N34 B34 K34 [1, 1, 1, 0, 1, 0, 1, 1, 1, 1, 1, 1, 1] [] (vcRet Pg R34 Q) [(0, x0), (2, x2), (4, x4), (16, x16), (95, x95)] h
def J34_11 (Q : AEnd → AH → Prop) (x0 x2 : V) (h : AH) : Prop := vcAt Pg N34 B34 K34 [1, 1] [] (vcRet Pg R34 Q) [(0, x0), (2, x2)] h
theorem J34_111010101110011_eq (Q : AEnd → AH → Prop) (n : Nat) (x0 x2 x4 x5 x6 : V) (h : AH) : J34_111010101110011 Q n x0 x2 x4 x5 x6 h = (
  bindV (still (aBin Pg .add 3 x6 (V.int .i64 1) true) h) fun v53 h54 =>
  Meet (L34_111010101110 Q n x0 x2 x4 x5 v53 h54)) := by kernel_rfl
theorem J34_11101010111001_eq (Q : AEnd → AH → Prop) (n : Nat) (x0 x2 x4 x5 x6 : V) (h : AH) : J34_11101010111001 Q n x0 x2 x4 x5 x6 h = (
  bindV (still (aIndex Pg 9 x5 x6) h) fun v45 h46 =>
  bindV (still (aFieldAddr Pg 51 x4 2) h46) fun v47 h48 =>
  bindV (still (aIndexAddr Pg 44 v47 x6) h48) fun v49 h50 =>
  bindV (aStoreV Pg h50 5 v49 v45) fun _ h52 =>
  Meet (J34_111010101110011 Q n x0 x2 x4 x5 x6 h52)) := by kernel_rfl
theorem J34_111111_eq (Q : AEnd → AH → Prop) (x2 x4 : V) (h : AH) : J34_111111 Q x2 x4 h = (
  bindV (aLoadV Pg h 51 x4) fun v71 h72 =>
  bindV (aStoreV Pg h72 51 x2 v71) fun _ h74 =>
  bindR (aRes Pg [(2, x2), (3, (V.bool true))] h74 R34) fun v => Q (.ret v) h74) := by kernel_rfl
theorem J34_1111101_eq (Q : AEnd → AH → Prop) (x2 x4 x124 : V) (h : AH) : J34_1111101 Q x2 x4 x124 h = (
  vcIf x124 (
  bindV (still (aBuild Pg 51 []) h) fun v67 h68 =>
  bindV (aStoreV Pg h68 51 x2 v67) fun _ h70 =>
  bindR (aRes Pg [(2, x2), (3, (V.bool false))] h70 R34) fun v => Q (.ret v) h70) (
  Meet (J34_111111 Q x2 x4 h))) := by kernel_rfl
theorem G34_11111001002_eq (Q : AEnd → AH → Prop) (x2 x4 x120 x123 : V) (h : AH) : G34_11111001002 Q x2 x4 x120 x123 h = (
  bindV (aPick x120 (V.bool true) x123 h) fun v65 h66 =>
  Meet (J34_1111101 Q x2 x4 v65 h66)) := by kernel_rfl
theorem J34_1111_eq (Q : AEnd → AH → Prop) (x0 x2 x4 : V) (h : AH) : J34_1111 Q x0 x2 x4 h = (
  bindV (aLoadV Pg h 51 x4) fun v55 h56 =>
  ACalls Pg 30 [v55] h56 (aEnd (fun v57 h58 =>
  bindV (still (aExtract v57 0) h58) fun v59 h60 =>
  bindV (still (aExtract v57 1) h60) fun v61 h62 =>
  bindV (still (aUn .not v61) h62) fun v63 h64 =>
  vcG v63 false (
  bindV (still (aBin Pg .neq 9 v59 x0 false) h64) fun v75 h76 =>
  Meet (G34_11111001002 Q x2 x4 v63 v75 h76)) (Meet (G34_11111001002 Q x2 x4 v63 hole h64))) fun v h => Q (.panic v) h)) := by kernel_rfl
theorem J34_111010101110001_eq (Q : AEnd → AH → Prop) (n : Nat) (x0 x2 x4 x5 x6 x36 : V) (h : AH) : J34_111010101110001 Q n x0 x2 x4 x5 x6 x36 h = (
  vcIf x36 (
  Meet (J34_11101010111001 Q n x0 x2 x4 x5 x6 h)) (
  Meet (J34_1111 Q x0 x2 x4 h))) := by kernel_rfl
theorem G34_1110101011100001002_eq (Q : AEnd → AH → Prop) (n : Nat) (x0 x2 x4 x5 x6 x33 x35 : V) (h : AH) : G34_1110101011100001002 Q n x0 x2 x4 x5 x6 x33 x35 h = (
  bindV (aPick x33 x35 (V.bool false) h) fun v43 h44 =>
  Meet (J34_111010101110001 Q n x0 x2 x4 x5 x6 v43 h44)) := by kernel_rfl
theorem L34_111010101110_eq (Q : AEnd → AH → Prop) (n : Nat) (x0 x2 x4 x5 x6 : V) (h : AH) : L34_111010101110 Q (n + 1) x0 x2 x4 x5 x6 h = (
  bindV (aBuiltin Pg h .len [9] [x5]) fun v39 h40 =>
  bindV (still (aBin Pg .lss 3 x6 v39 false) h40) fun v41 h42 =>
  vcG v41 true (
  bindV (still (aBin Pg .lss 3 x6 (V.int .i64 224) true) h42) fun v77 h78 =>
  Meet (G34_1110101011100001002 Q n x0 x2 x4 x5 x6 v41 v77 h78)) (Meet (G34_1110101011100001002 Q n x0 x2 x4 x5 x6 v41 hole h42))) := by kernel_rfl
theorem J34_1110101111111_eq (Q : AEnd → AH → Prop) (x0 x2 x4 x16 x95 : V) (h : AH) : J34_1110101111111 Q x0 x2 x4 x16 x95 h = (
  vcIf x95 (
  ACalls Pg 44 [x0, (V.int .i64 1), (V.int .i64 2)] h (aEnd (fun v167 h168 =>
  bindV (still (aConv Pg h168 22 40 v167) h168) fun v169 h170 =>
  bindV (still (aBuild Pg 42 [(0, (V.bool true)), (1, v169)]) h170) fun v171 h172 =>
  bindV (still (aFieldAddr Pg 51 x4 1) h172) fun v173 h174 =>
  bindV (aStoreV Pg h174 42 v173 v171) fun _ h176 =>
  ACalls Pg 44 [x0, (V.int .i64 3), (V.int .i64 1)] h176 (aEnd (fun v177 h178 =>
  bindV (still (aConv Pg h178 22 5 v177) h178) fun v179 h180 =>
  bindV (still (aFieldAddr Pg 51 x4 6) h180) fun v181 h182 =>
  bindV (aStoreV Pg h182 5 v181 v179) fun _ h184 =>
  Meet (J34_1111 Q x0 x2 x4 h184)) fun v h => Q (.panic v) h)) fun v h => Q (.panic v) h)) (
  bindV (still (aBin Pg .eql 5 x16 (V.int .u8 6) true) h) fun v185 h186 =>
  vcIf v185 (
  ACalls Pg 44 [x0, (V.int .i64 1), (V.int .i64 4)] h186 (aEnd (fun v187 h188 =>
  bindV (still (aConv Pg h188 22 45 v187) h188) fun v189 h190 =>
  bindV (still (aFieldAddr Pg 51 x4 3) h190) fun v191 h192 =>
  bindV (aStoreV Pg h192 45 v191 v189) fun _ h194 =>
  Meet (J34_1111 Q x0 x2 x4 h194)) fun v h => Q (.panic v) h)) (
  Meet (J34_1111 Q x0 x2 x4 h186)))) := by kernel_rfl
theorem J34_11_eq (Q : AEnd → AH → Prop) (x0 x2 : V) (h : AH) : J34_11 Q x0 x2 h = (
  bindV (still (aIndex Pg 9 x0 (V.int .i64 0)) h) fun v9 h10 =>
  bindV (still (aBuild Pg 51 [(0, v9)]) h10) fun v11 h12 =>
  bindV (aAlloc Pg h12 51) fun v13 h14 =>
  bindV (aStoreV Pg h14 51 v13 v11) fun _ h16 =>
  bindV (still (aFieldAddr Pg 51 v13 0) h16) fun v17 h18 =>
  bindV (aLoadV Pg h18 5 v17) fun v19 h20 =>
  bindV (still (aBin Pg .eql 5 v19 (V.int .u8 1) true) h20) fun v21 h22 =>
  vcIf v21 (
  ACalls Pg 44 [x0, (V.int .i64 1), (V.int .i64 1)] h22 (aEnd (fun v23 h24 =>
  bindV (still (aBin Pg .eql 22 v23 (V.int .u64 1) true) h24) fun v25 h26 =>
  ACalls Pg 44 [x0, (V.int .i64 2), (V.int .i64 2)] h26 (aEnd (fun v27 h28 =>
  bindV (still (aConv Pg h28 22 40 v27) h28) fun v29 h30 =>
  bindV (still (aBuild Pg 42 [(0, v25), (1, v29)]) h30) fun v31 h32 =>
  bindV (still (aFieldAddr Pg 51 v13 1) h32) fun v33 h34 =>
  bindV (aStoreV Pg h34 42 v33 v31) fun _ h36 =>
  ACalls Pg 45 [x0, (V.int .i64 5)] h36 (aEnd (fun v37 h38 =>
  ∃ n, Meet (L34_111010101110 Q n x0 x2 v13 v37 (V.int .i64 0) h38)) fun v h => Q (.panic v) h)) fun v h => Q (.panic v) h)) fun v h => Q (.panic v) h)) (
  bindV (still (aBin Pg .eql 5 v19 (V.int .u8 2) true) h22) fun v79 h80 =>
  vcIf v79 (
  ACalls Pg 44 [x0, (V.int .i64 1), (V.int .i64 2)] h80 (aEnd (fun v81 h82 =>
  bindV (still (aConv Pg h82 22 40 v81) h82) fun v83 h84 =>
  bindV (still (aFieldAddr Pg 51 v13 1) h84) fun v85 h86 =>
  bindV (still (aFieldAddr Pg 42 v85 1) h86) fun v87 h88 =>
  bindV (aStoreV Pg h88 40 v87 v83) fun _ h90 =>
  ACalls Pg 44 [x0, (V.int .i64 3), (V.int .i64 4)] h90 (aEnd (fun v91 h92 =>
  bindV (still (aConv Pg h92 22 45 v91) h92) fun v93 h94 =>
  bindV (still (aFieldAddr Pg 51 v13 3) h94) fun v95 h96 =>
  bindV (aStoreV Pg h96 45 v95 v93) fun _ h98 =>
  ACalls Pg 44 [x0, (V.int .i64 7), (V.int .i64 2)] h98 (aEnd (fun v99 h100 =>
  bindV (still (aConv Pg h100 22 40 v99) h100) fun v101 h102 =>
  ACalls Pg 44 [x0, (V.int .i64 9), (V.int .i64 1)] h102 (aEnd (fun v103 h104 =>
  bindV (still (aConv Pg h104 22 5 v103) h104) fun v105 h106 =>
  bindV (still (aBuild Pg 47 [(0, v101), (1, v105)]) h106) fun v107 h108 =>
  bindV (still (aFieldAddr Pg 51 v13 4) h108) fun v109 h110 =>
  bindV (aStoreV Pg h110 47 v109 v107) fun _ h112 =>
  ACalls Pg 45 [x0, (V.int .i64 11)] h112 (aEnd (fun v113 h114 =>
  bindV (still (aFieldAddr Pg 51 v13 5) h114) fun v115 h116 =>
  bindV (aStoreV Pg h116 9 v115 v113) fun _ h118 =>
  Meet (J34_1111 Q x0 x2 v13 h118)) fun v h => Q (.panic v) h)) fun v h => Q (.panic v) h)) fun v h => Q (.panic v) h)) fun v h => Q (.panic v) h)) fun v h => Q (.panic v) h)) (
  bindV (still (aBin Pg .eql 5 v19 (V.int .u8 3) true) h80) fun v119 h120 =>
  vcIf v119 (
  ACalls Pg 44 [x0, (V.int .i64 1), (V.int .i64 2)] h120 (aEnd (fun v121 h122 =>
  bindV (still (aConv Pg h122 22 40 v121) h122) fun v123 h124 =>
  bindV (still (aBuild Pg 42 [(0, (V.bool true)), (1, v123)]) h124) fun v125 h126 =>
  bindV (still (aFieldAddr Pg 51 v13 1) h126) fun v127 h128 =>
  bindV (aStoreV Pg h128 42 v127 v125) fun _ h130 =>
  ACalls Pg 44 [x0, (V.int .i64 3), (V.int .i64 1)] h130 (aEnd (fun v131 h132 =>
  bindV (still (aConv Pg h132 22 5 v131) h132) fun v133 h134 =>
  bindV (still (aFieldAddr Pg 51 v13 6) h134) fun v135 h136 =>
  bindV (aStoreV Pg h136 5 v135 v133) fun _ h138 =>
  ACalls Pg 44 [x0, (V.int .i64 4), (V.int .i64 2)] h138 (aEnd (fun v139 h140 =>
  bindV (still (aConv Pg h140 22 40 v139) h140) fun v141 h142 =>
  ACalls Pg 44 [x0, (V.int .i64 6), (V.int .i64 4)] h142 (aEnd (fun v143 h144 =>
  bindV (still (aConv Pg h144 22 45 v143) h144) fun v145 h146 =>
  ACalls Pg 44 [x0, (V.int .i64 10), (V.int .i64 2)] h146 (aEnd (fun v147 h148 =>
  bindV (still (aConv Pg h148 22 40 v147) h148) fun v149 h150 =>
  ACalls Pg 44 [x0, (V.int .i64 12), (V.int .i64 1)] h150 (aEnd (fun v151 h152 =>
  bindV (still (aConv Pg h152 22 5 v151) h152) fun v153 h154 =>
  bindV (still (aBuild Pg 47 [(0, v149), (1, v153)]) h154) fun v155 h156 =>
  ACalls Pg 45 [x0, (V.int .i64 14)] h156 (aEnd (fun v157 h158 =>
  bindV (still (aBuild Pg 49 [(0, (V.bool true)), (1, v141), (2, v145), (3, v155), (4, v157)]) h158) fun v159 h160 =>
  bindV (still (aFieldAddr Pg 51 v13 7) h160) fun v161 h162 =>
  bindV (aStoreV Pg h162 49 v161 v159) fun _ h164 =>
  Meet (J34_1111 Q x0 x2 v13 h164)) fun v h => Q (.panic v) h)) fun v h => Q (.panic v) h)) fun v h => Q (.panic v) h)) fun v h => Q (.panic v) h)) fun v h => Q (.panic v) h)) fun v h => Q (.panic v) h)) fun v h => Q (.panic v) h)) (
  bindV (still (aBin Pg .eql 5 v19 (V.int .u8 4) true) h120) fun v165 h166 =>
  vcIf v165 (
  Meet (J34_1110101111111 Q x0 x2 v13 v19 v165 h166)) (
  bindV (still (aBin Pg .eql 5 v19 (V.int .u8 5) true) h166) fun v195 h196 =>
  Meet (J34_1110101111111 Q x0 x2 v13 v19 v195 h196)))))) := by kernel_rfl
theorem S34 (Q : AEnd → AH → Prop) (a0 : V) (h : AH) : vc Pg N34 B34 K34 (vcRet Pg R34 Q) (initEnv 0 [a0]) h = (
  bindV (aAlloc Pg h 51) fun v1 h2 =>
  bindV (still (aBin Pg .eql 9 a0 (V.str []) true) h2) fun v3 h4 =>
  vcIf v3 (
  bindV (still (aBuild Pg 51 []) h4) fun v5 h6 =>
  bindV (aStoreV Pg h6 51 v1 v5) fun _ h8 =>
  bindR (aRes Pg [(2, v1), (3, (V.bool false))] h8 R34) fun v => Q (.ret v) h8) (
  Meet (J34_11 Q a0 v1 h4))) := by kernel_rfl
theorem C34 (Q : AEnd → AH → Prop) (a0 : V) (h : AH) (c :
  bindV (aAlloc Pg h 51) fun v1 h2 =>
  bindV (still (aBin Pg .eql 9 a0 (V.str []) true) h2) fun v3 h4 =>
  vcIf v3 (
  bindV (still (aBuild Pg 51 []) h4) fun v5 h6 =>
  bindV (aStoreV Pg h6 51 v1 v5) fun _ h8 =>
  bindR (aRes Pg [(2, v1), (3, (V.bool false))] h8 R34) fun v => Q (.ret v) h8) (
  Meet (J34_11 Q a0 v1 h4))) : ACalls Pg 34 [a0] h Q :=
  acalls_of_vc okP Try.func34 (show Try.f34.body = some B34 from by kernel_rfl) K34 (by rw [← S34 Q a0 h] at c; exact c)

-- 40 varve/rec.Decode$1
noncomputable def B40 : Code := subC ((Try.f40.body).getD .skip) [1]
abbrev N40 : Nat := 16
def K40 : KT := (.seq .leaf (.seq .leaf (.two .leaf (.seq .leaf (.two .leaf .leaf) [2, 14])) [0, 1, 2, 11]) [0, 1, 2, 4])
theorem S40 (R : Option V → AH → Prop) (m : Option V) (a0 a1 rv : V) (h : AH) : vc Pg N40 B40 K40 (recQ m R) [(2, rv), (5, rv), (0, a0), (1, a1)] h = (
  bindV (still (aAssert Pg 73 rv) h) fun v1 h2 =>
  bindV (still (aExtract v1 0) h2) fun v3 h4 =>
  bindV (still (aExtract v1 1) h4) fun v5 h6 =>
  bindV (aAlloc Pg h6 73) fun v7 h8 =>
  bindV (aStoreV Pg h8 73 v7 v3) fun _ h10 =>
  vcIf v5 (
  bindV (still (aBuild Pg 51 []) h10) fun v11 h12 =>
  bindV (aStoreV Pg h12 51 a0 v11) fun _ h14 =>
  bindV (aStoreV Pg h14 52 a1 (V.int .i64 2)) fun _ h16 =>
  R none h16) (
  bindV (still (aBin Pg .neq 20 rv V.nilIfc true) h10) fun v17 h18 =>
  vcIf v17 (
  vcPanic rv fun v => recQ m R (.panic v) [] h18) (
  R none h18))) := by kernel_rfl

-- 41 (*varve/rec.reader).num
noncomputable def B41 : Code := (Try.f41.body).getD .skip
def R41 : List ResultVar := [.tmp 4]
abbrev N41 : Nat := 30
def K41 : KT := (.seq .leaf (.seq .leaf (.join (.seq .leaf (.two .leaf .leaf) [0, 1, 5, 17]) (.seq .leaf (.seq .leaf .leaf [4]) [5]) [0, 1, 5]) [0, 1, 5, 6]) [0, 1])
def J41_111 (Q : AEnd → AH → Prop) (x0 x1 x5 : V) (h : AH) : Prop := vcAt Pg N41 B41 K41 [1, 1, 1] [] (vcRet Pg R41 Q) [(0, x0), (1, x1), (5, x5)] h
theorem J41_111_eq (Q : AEnd → AH → Prop) (x0 x1 x5 : V) (h : AH) : J41_111 Q x0 x1 x5 h = (
  bindV (aNil x0 h) fun v19 h20 =>
  bindV (still (aFieldAddr Pg 77 v19 0) h20) fun v21 h22 =>
  bindV (aLoadV Pg h22 9 v21) fun v23 h24 =>
  bindV (still (aSlice Pg h24 9 v23 (some x1) none) h24) fun v25 h26 =>
  bindV (aNil x0 h26) fun v27 h28 =>
  bindV (still (aFieldAddr Pg 77 v27 0) h28) fun v29 h30 =>
  bindV (aStoreV Pg h30 9 v29 v25) fun _ h32 =>
  Q (.ret x5) h32) := by kernel_rfl
theorem S41 (Q : AEnd → AH → Prop) (a0 a1 : V) (h : AH) : vc Pg N41 B41 K41 (vcRet Pg R41 Q) (initEnv 0 [a0, a1]) h = (
  bindV (aNil a0 h) fun v1 h2 =>
  bindV (still (aFieldAddr Pg 77 v1 0) h2) fun v3 h4 =>
  bindV (aLoadV Pg h4 9 v3) fun v5 h6 =>
  ACalls Pg 18 [v5, (V.int .i64 0), a1] h6 (aEnd (fun v7 h8 =>
  bindV (still (aExtract v7 0) h8) fun v9 h10 =>
  bindV (still (aExtract v7 1) h10) fun v11 h12 =>
  bindV (still (aUn .not v11) h12) fun v13 h14 =>
  vcIf v13 (
  bindV (still (aBuild Pg 73 []) h14) fun v15 h16 =>
  bindV (still (aIface Pg 73 v15) h16) fun v17 h18 =>
  vcPanic v17 fun v => Q (.panic v) h18) (
  Meet (J41_111 Q a0 a1 v9 h14))) fun v h => Q (.panic v) h)) := by kernel_rfl
theorem C41 (Q : AEnd → AH → Prop) (a0 a1 : V) (h : AH) (c :
  bindV (aNil a0 h) fun v1 h2 =>
  bindV (still (aFieldAddr Pg 77 v1 0) h2) fun v3 h4 =>
  bindV (aLoadV Pg h4 9 v3) fun v5 h6 =>
  ACalls Pg 18 [v5, (V.int .i64 0), a1] h6 (aEnd (fun v7 h8 =>
  bindV (still (aExtract v7 0) h8) fun v9 h10 =>
  bindV (still (aExtract v7 1) h10) fun v11 h12 =>
  bindV (still (aUn .not v11) h12) fun v13 h14 =>
  vcIf v13 (
  bindV (still (aBuild Pg 73 []) h14) fun v15 h16 =>
  bindV (still (aIface Pg 73 v15) h16) fun v17 h18 =>
  vcPanic v17 fun v => Q (.panic v) h18) (
  Meet (J41_111 Q a0 a1 v9 h14))) fun v h => Q (.panic v) h)) : ACalls Pg 41 [a0, a1] h Q :=
  acalls_of_vc okP Try.func41 (show Try.f41.body = some B41 from by kernel_rfl) K41 (by rw [← S41 Q a0 a1 h] at c; exact c)

-- 42 (*varve/rec.reader).text
noncomputable def B42 : Code := (Try.f42.body).getD .skip
def R42 : List ResultVar := [.tmp 2]
abbrev N42 : Nat := 33
def K42 : KT := (.seq .leaf (.seq .leaf (.join (.seq .leaf (.two .leaf .leaf) [0, 3, 14]) (.seq .leaf (.seq .leaf (.seq .leaf .leaf [2]) [4]) [0, 3, 4]) [0, 3]) [0, 3]) [0])
def J42_111 (Q : AEnd → AH → Prop) (x0 x3 : V) (h : AH) : Prop := vcAt Pg N42 B42 K42 [1, 1, 1] [] (vcRet Pg R42 Q) [(0, x0), (3, x3)] h
theorem J42_111_eq (Q : AEnd → AH → Prop) (x0 x3 : V) (h : AH) : J42_111 Q x0 x3 h = (
  bindV (aNil x0 h) fun v19 h20 =>
  bindV (still (aFieldAddr Pg 77 v19 0) h20) fun v21 h22 =>
  bindV (aLoadV Pg h22 9 v21) fun v23 h24 =>
  bindV (still (aSlice Pg h24 9 v23 none (some x3)) h24) fun v25 h26 =>
  bindV (aNil x0 h26) fun v27 h28 =>
  bindV (still (aFieldAddr Pg 77 v27 0) h28) fun v29 h30 =>
  bindV (aLoadV Pg h30 9 v29) fun v31 h32 =>
  bindV (still (aSlice Pg h32 9 v31 (some x3) none) h32) fun v33 h34 =>
  bindV (aNil x0 h34) fun v35 h36 =>
  bindV (still (aFieldAddr Pg 77 v35 0) h36) fun v37 h38 =>
  bindV (aStoreV Pg h38 9 v37 v33) fun _ h40 =>
  Q (.ret v25) h40) := by kernel_rfl
theorem S42 (Q : AEnd → AH → Prop) (a0 : V) (h : AH) : vc Pg N42 B42 K42 (vcRet Pg R42 Q) (initEnv 0 [a0]) h = (
  ACalls Pg 41 [a0, (V.int .i64 1)] h (aEnd (fun v1 h2 =>
  bindV (still (aConv Pg h2 22 3 v1) h2) fun v3 h4 =>
  bindV (aNil a0 h4) fun v5 h6 =>
  bindV (still (aFieldAddr Pg 77 v5 0) h6) fun v7 h8 =>
  bindV (aLoadV Pg h8 9 v7) fun v9 h10 =>
  bindV (aBuiltin Pg h10 .len [9] [v9]) fun v11 h12 =>
  bindV (still (aBin Pg .gtr 3 v3 v11 false) h12) fun v13 h14 =>
  vcIf v13 (
  bindV (still (aBuild Pg 73 []) h14) fun v15 h16 =>
  bindV (still (aIface Pg 73 v15) h16) fun v17 h18 =>
  vcPanic v17 fun v => Q (.panic v) h18) (
  Meet (J42_111 Q a0 v3 h14))) fun v h => Q (.panic v) h)) := by kernel_rfl
theorem C42 (Q : AEnd → AH → Prop) (a0 : V) (h : AH) (c :
  ACalls Pg 41 [a0, (V.int .i64 1)] h (aEnd (fun v1 h2 =>
  bindV (still (aConv Pg h2 22 3 v1) h2) fun v3 h4 =>
  bindV (aNil a0 h4) fun v5 h6 =>
  bindV (still (aFieldAddr Pg 77 v5 0) h6) fun v7 h8 =>
  bindV (aLoadV Pg h8 9 v7) fun v9 h10 =>
  bindV (aBuiltin Pg h10 .len [9] [v9]) fun v11 h12 =>
  bindV (still (aBin Pg .gtr 3 v3 v11 false) h12) fun v13 h14 =>
  vcIf v13 (
  bindV (still (aBuild Pg 73 []) h14) fun v15 h16 =>
  bindV (still (aIface Pg 73 v15) h16) fun v17 h18 =>
  vcPanic v17 fun v => Q (.panic v) h18) (
  Meet (J42_111 Q a0 v3 h14))) fun v h => Q (.panic v) h)) : ACalls Pg 42 [a0] h Q :=
  acalls_of_vc okP Try.func42 (show Try.f42.body = some B42 from by kernel_rfl) K42 (by rw [← S42 Q a0 h] at c; exact c)

-- 43 (*varve/rec.reader).ref
noncomputable def B43 : Code := (Try.f43.body).getD .skip
def R43 : List ResultVar := [.cell 2 47]
abbrev N43 : Nat := 12
def K43 : KT := (.seq .leaf (.seq .leaf (.seq .leaf .leaf [2]) [0, 2, 3]) [0, 2])
theorem S43 (Q : AEnd → AH → Prop) (a0 : V) (h : AH) : vc Pg N43 B43 K43 (vcRet Pg R43 Q) (initEnv 0 [a0]) h = (
  bindV (aAlloc Pg h 47) fun v1 h2 =>
  ACalls Pg 41 [a0, (V.int .i64 2)] h2 (aEnd (fun v3 h4 =>
  bindV (still (aConv Pg h4 22 40 v3) h4) fun v5 h6 =>
  ACalls Pg 41 [a0, (V.int .i64 1)] h6 (aEnd (fun v7 h8 =>
  bindV (still (aConv Pg h8 22 5 v7) h8) fun v9 h10 =>
  bindV (still (aBuild Pg 47 [(0, v5), (1, v9)]) h10) fun v11 h12 =>
  bindV (aStoreV Pg h12 47 v1 v11) fun _ h14 =>
  bindR (aRes Pg [(2, v1)] h14 R43) fun v => Q (.ret v) h14) fun v h => Q (.panic v) h)) fun v h => Q (.panic v) h)) := by kernel_rfl
theorem C43 (Q : AEnd → AH → Prop) (a0 : V) (h : AH) (c :
  bindV (aAlloc Pg h 47) fun v1 h2 =>
  ACalls Pg 41 [a0, (V.int .i64 2)] h2 (aEnd (fun v3 h4 =>
  bindV (still (aConv Pg h4 22 40 v3) h4) fun v5 h6 =>
  ACalls Pg 41 [a0, (V.int .i64 1)] h6 (aEnd (fun v7 h8 =>
  bindV (still (aConv Pg h8 22 5 v7) h8) fun v9 h10 =>
  bindV (still (aBuild Pg 47 [(0, v5), (1, v9)]) h10) fun v11 h12 =>
  bindV (aStoreV Pg h12 47 v1 v11) fun _ h14 =>
  bindR (aRes Pg [(2, v1)] h14 R43) fun v => Q (.ret v) h14) fun v h => Q (.panic v) h)) fun v h => Q (.panic v) h)) : ACalls Pg 43 [a0] h Q :=
  acalls_of_vc okP Try.func43 (show Try.f43.body = some B43 from by kernel_rfl) K43 (by rw [← S43 Q a0 h] at c; exact c)

-- 44 varve/varveref08.at
noncomputable def B44 : Code := (Try.f44.body).getD .skip
def R44 : List ResultVar := [.tmp 6]
abbrev N44 : Nat := 17
def K44 : KT := (.seq .leaf (.seq .leaf (.seq .leaf .leaf [6]) [7]) [0, 1, 2])
theorem S44 (Q : AEnd → AH → Prop) (a0 a1 a2 : V) (h : AH) : vc Pg N44 B44 K44 (vcRet Pg R44 Q) (initEnv 0 [a0, a1, a2]) h = (
  ACalls Pg 19 [a0, a1, a2] h (aEnd (fun v1 h2 =>
  bindV (still (aExtract v1 0) h2) fun v3 h4 =>
  bindV (still (aExtract v1 1) h4) fun v5 h6 =>
  Q (.ret v3) h6) fun v h => Q (.panic v) h)) := by kernel_rfl
theorem C44 (Q : AEnd → AH → Prop) (a0 a1 a2 : V) (h : AH) (c :
  ACalls Pg 19 [a0, a1, a2] h (aEnd (fun v1 h2 =>
  bindV (still (aExtract v1 0) h2) fun v3 h4 =>
  bindV (still (aExtract v1 1) h4) fun v5 h6 =>
  Q (.ret v3) h6) fun v h => Q (.panic v) h)) : ACalls Pg 44 [a0, a1, a2] h Q :=
  acalls_of_vc okP Try.func44 (show Try.f44.body = some B44 from by kernel_rfl) K44 (by rw [← S44 Q a0 a1 a2 h] at c; exact c)

-- 45 varve/varveref08.from
noncomputable def B45 : Code := (Try.f45.body).getD .skip
def R45 : List ResultVar := [.tmp 4]
abbrev N45 : Nat := 12
def K45 : KT := (.seq .leaf (.join (.seq .leaf (.two (.seq .leaf .leaf [4]) .leaf) [0, 1, 8]) (.seq .leaf .leaf [4]) [0, 1]) [0, 1])
def J45_11 (Q : AEnd → AH → Prop) (x0 x1 : V) (h : AH) : Prop := vcAt Pg N45 B45 K45 [1, 1] [] (vcRet Pg R45 Q) [(0, x0), (1, x1)] h
theorem J45_11_eq (Q : AEnd → AH → Prop) (x0 x1 : V) (h : AH) : J45_11 Q x0 x1 h = (
  bindV (still (aSlice Pg h 9 x0 (some x1) none) h) fun v5 h6 =>
  Q (.ret v5) h6) := by kernel_rfl
theorem S45 (Q : AEnd → AH → Prop) (a0 a1 : V) (h : AH) : vc Pg N45 B45 K45 (vcRet Pg R45 Q) (initEnv 0 [a0, a1]) h = (
  bindV (aBuiltin Pg h .len [9] [a0]) fun v1 h2 =>
  bindV (still (aBin Pg .gtr 3 a1 v1 false) h2) fun v3 h4 =>
  vcIf v3 (
  Q (.ret (V.str [])) h4) (
  Meet (J45_11 Q a0 a1 h4))) := by kernel_rfl
theorem C45 (Q : AEnd → AH → Prop) (a0 a1 : V) (h : AH) (c :
  bindV (aBuiltin Pg h .len [9] [a0]) fun v1 h2 =>
  bindV (still (aBin Pg .gtr 3 a1 v1 false) h2) fun v3 h4 =>
  vcIf v3 (
  Q (.ret (V.str [])) h4) (
  Meet (J45_11 Q a0 a1 h4))) : ACalls Pg 45 [a0, a1] h Q :=
  acalls_of_vc okP Try.func45 (show Try.f45.body = some B45 from by kernel_rfl) K45 (by rw [← S45 Q a0 a1 h] at c; exact c)

end Go.Proofs.Ytdhlolcpcgpcnaa.Sh
