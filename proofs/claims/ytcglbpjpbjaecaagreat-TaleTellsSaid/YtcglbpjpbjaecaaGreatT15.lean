import Derived.Test.YtcglbpjpbjaecaaGreatT14
import Derived.Test.YtcglbpjpbjaecaaGreatT07
import Derived.Shelf.Strings.OnBuilder
set_option linter.unusedVariables false
set_option linter.unusedSimpArgs false
namespace Go.Proofs.YtcglbpjpbjaecaaGreat.Sh
open Go Go.Ab Go.RowKit
open Go.Proofs.YtcglbpjpbjaecaaGreat.Ru (Pg okP)
set_option maxRecDepth 100000
set_option linter.unusedVariables false
/- NOT PRINTED 9 varve/varvelaw28.TaleTells: [a region that draws: guards] -/
-- 47 varve/tale.Tell
noncomputable def B47 : Code := (Tryz.f47.body).getD .skip
def R47 : List ResultVar := [.tmp 2]
abbrev N47 : Nat := 79
def K47 : KT := (.seq .leaf (.seq .leaf (.join (.seq .leaf (.seq .leaf (.two .leaf .leaf) [1, 3, 4, 15]) [1, 3, 4]) (.seq (.eff [10, 11]) (.join (.seq .leaf (.two (.seq .leaf .leaf [2]) .leaf) [1, 5, 36]) (.seq .leaf (.seq (.eff [14, 15]) (.join (.seq .leaf (.two (.seq .leaf (.join (.one (.loop (.join (.seq .leaf (.two .leaf .leaf) [5, 6, 7, 67]) (.one .leaf) [5, 6, 7]) [5, 6, 7])) .leaf [5, 6, 7]) [5, 6, 7]) .leaf) [5, 6, 61]) (.seq .leaf .leaf [2]) [5]) [5, 6]) [1, 5, 6]) [1, 5]) [1, 5]) [1, 3]) [1, 3]) [1])
def J47_111111101010001 (Q : AEnd → AH → Prop) (n : Nat) (x5 x6 x7 : V) (h : AH) : Prop := vcAt Pg N47 B47 K47 [1, 1, 1, 1, 1, 1, 1, 0, 1, 0, 1, 0, 0, 0, 1] [n] (vcRet Pg R47 Q) [(5, x5), (6, x6), (7, x7)] h
def J47_11111111 (Q : AEnd → AH → Prop) (x5 : V) (h : AH) : Prop := vcAt Pg N47 B47 K47 [1, 1, 1, 1, 1, 1, 1, 1] [] (vcRet Pg R47 Q) [(5, x5)] h
def J47_111111101011 (Q : AEnd → AH → Prop) (x5 x6 x7 : V) (h : AH) : Prop := vcAt Pg N47 B47 K47 [1, 1, 1, 1, 1, 1, 1, 0, 1, 0, 1, 1] [] (vcRet Pg R47 Q) [(5, x5), (6, x6), (7, x7)] h
def L47_1111111010100 (Q : AEnd → AH → Prop) (n : Nat) (x5 x6 x7 : V) (h : AH) : Prop := loopAt Pg N47 B47 K47 [1, 1, 1, 1, 1, 1, 1, 0, 1, 0, 1, 0, 0] [] n (vcRet Pg R47 Q) [(5, x5), (6, x6), (7, x7)] h
def J47_11111 (Q : AEnd → AH → Prop) (x1 x5 : V) (h : AH) : Prop := vcAt Pg N47 B47 K47 [1, 1, 1, 1, 1] [] (vcRet Pg R47 Q) [(1, x1), (5, x5)] h
def J47_111 (Q : AEnd → AH → Prop) (x1 x3 : V) (h : AH) : Prop := vcAt Pg N47 B47 K47 [1, 1, 1] [] (vcRet Pg R47 Q) [(1, x1), (3, x3)] h
theorem J47_111111101010001_eq (Q : AEnd → AH → Prop) (n : Nat) (x5 x6 x7 : V) (h : AH) : J47_111111101010001 Q n x5 x6 x7 h = (
  bindV (still (aBin Pg .sub 3 x7 (V.int .i64 1) true) h) fun v93 h94 =>
  Meet (L47_1111111010100 Q n x5 x6 v93 h94)) := by kernel_rfl
theorem J47_11111111_eq (Q : AEnd → AH → Prop) (x5 : V) (h : AH) : J47_11111111 Q x5 h = (
  Q (.ret x5) h) := by kernel_rfl
theorem J47_111111101011_eq (Q : AEnd → AH → Prop) (x5 x6 x7 : V) (h : AH) : J47_111111101011 Q x5 x6 x7 h = (
  bindV (still (aFieldAddr Pg 60 x6 3) h) fun v95 h96 =>
  bindV (still (aSlice Pg h96 33 v95 none (some x7)) h96) fun v97 h98 =>
  bindV (still (aConv Pg h98 207 9 v97) h98) fun v99 h100 =>
  ACalls Pg 118 [v99] h100 (aEnd (fun v101 h102 =>
  bindV (aBuildSlice Pg h102 337 2 [(0, x5), (1, v101)]) fun v103 h104 =>
  ACalls Pg 115 [v103] h104 (aEnd (fun v105 h106 =>
  Meet (J47_11111111 Q v105 h106)) fun v h => Q (.panic v) h)) fun v h => Q (.panic v) h)) := by kernel_rfl
theorem L47_1111111010100_eq (Q : AEnd → AH → Prop) (n : Nat) (x5 x6 x7 : V) (h : AH) : L47_1111111010100 Q (n + 1) x5 x6 x7 h = (
  bindV (still (aBin Pg .sub 3 x7 (V.int .i64 1) true) h) fun v83 h84 =>
  bindV (still (aFieldAddr Pg 60 x6 3) h84) fun v85 h86 =>
  bindV (still (aIndexAddr Pg 33 v85 v83) h86) fun v87 h88 =>
  bindV (aLoadV Pg h88 5 v87) fun v89 h90 =>
  bindV (still (aBin Pg .eql 5 v89 (V.int .u8 0) true) h90) fun v91 h92 =>
  vcIf v91 (
  Meet (J47_111111101010001 Q n x5 x6 x7 h92)) (
  Meet (J47_111111101011 Q x5 x6 x7 h92))) := by kernel_rfl
theorem J47_11111_eq (Q : AEnd → AH → Prop) (x1 x5 : V) (h : AH) : J47_11111 Q x1 x5 h = (
  bindV (still (aFieldAddr Pg 94 x1 6) h) fun v50 h51 =>
  bindV (aLoadV Pg h51 60 v50) fun v52 h53 =>
  bindV (aAlloc Pg h53 60) fun v54 h55 =>
  bindV (aStoreV Pg h55 60 v54 v52) fun _ h57 =>
  bindO (fstV (still (aFieldAddr Pg 94 x1 4) h57)) fun v58 =>
  bindO (fstV (aLoadV Pg h57 3 v58)) fun v59 =>
  (
  ∃ v60, ACalls Pg 116 [v59] h57 (pureE v60 h57) ∧ (
  (
  bindO (fstV (still (aFieldAddr Pg 60 v54 0) h57)) fun v61 =>
  bindO (fstV (aLoadV Pg h57 29 v61)) fun v62 =>
  (
  ∃ v63, ACalls Pg 116 [v62] h57 (pureE v63 h57) ∧ (
  (
  bindO (fstV (still (aFieldAddr Pg 60 v54 1) h57)) fun v64 =>
  bindO (fstV (aLoadV Pg h57 49 v64)) fun v65 =>
  (
  ∃ v66, ACalls Pg 117 [v65] h57 (pureE v66 h57) ∧ (
  (
  bindO (fstV (still (aFieldAddr Pg 60 v54 2) h57)) fun v67 =>
  bindO (fstV (aLoadV Pg h57 31 v67)) fun v68 =>
  (
  bindO (fstV (still (aConv Pg h57 31 49 v68) h57)) fun v69 =>
  (
  ∃ v70, ACalls Pg 117 [v69] h57 (pureE v70 h57) ∧ (
  (
  bindV (aBuildSlice Pg h57 337 5 [(0, x5), (1, v60), (2, v63), (3, v66), (4, v70)]) fun v71 h72 => (
  ∃ v73 h74, ACalls Pg 115 [v71] h72 (pureE v73 h74) ∧ (
  bindV (still (aFieldAddr Pg 60 v54 3) h74) fun v75 h76 =>
  bindV (aLoadV Pg h76 33 v75) fun v77 h78 =>
  bindV (still (aBuild Pg 33 []) h78) fun v79 h80 =>
  bindV (still (aBin Pg .neq 33 v77 v79 false) h80) fun v81 h82 =>
  vcIf v81 (
  ∃ n, Meet (L47_1111111010100 Q n v73 v54 (V.int .i64 64) h82)) (
  Meet (J47_11111111 Q v73 h82)))))))))))))))))) := by kernel_rfl
theorem J47_111_eq (Q : AEnd → AH → Prop) (x1 x3 : V) (h : AH) : J47_111 Q x1 x3 h = (
  bindO (fstV (still (aFieldAddr Pg 94 x1 2) h)) fun v29 =>
  bindO (fstV (aLoadV Pg h 3 v29)) fun v30 =>
  (
  ∃ v31, ACalls Pg 116 [v30] h (pureE v31 h) ∧ (
  (
  bindO (fstV (still (aFieldAddr Pg 94 x1 0) h)) fun v32 =>
  bindO (fstV (aLoadV Pg h 3 v32)) fun v33 =>
  (
  ∃ v34, ACalls Pg 116 [v33] h (pureE v34 h) ∧ (
  (
  bindO (fstV (still (aFieldAddr Pg 94 x1 3) h)) fun v35 =>
  bindO (fstV (aLoadV Pg h 3 v35)) fun v36 =>
  (
  ∃ v37, ACalls Pg 116 [v36] h (pureE v37 h) ∧ (
  (
  bindV (aBuildSlice Pg h 337 4 [(0, v31), (1, v34), (2, x3), (3, v37)]) fun v38 h39 => (
  ∃ v40 h41, ACalls Pg 115 [v38] h39 (pureE v40 h41) ∧ (
  bindV (still (aFieldAddr Pg 94 x1 5) h41) fun v42 h43 =>
  bindV (aLoadV Pg h43 4 v42) fun v44 h45 =>
  vcIf v44 (
  bindV (aBuildSlice Pg h45 337 2 [(0, v40), (1, (V.str [111, 112, 101, 110]))]) fun v46 h47 =>
  ACalls Pg 115 [v46] h47 (aEnd (fun v48 h49 =>
  Q (.ret v48) h49) fun v h => Q (.panic v) h)) (
  Meet (J47_11111 Q x1 v40 h45)))))))))))))) := by kernel_rfl
theorem S47 (Q : AEnd → AH → Prop) (a0 : V) (h : AH) : vc Pg N47 B47 K47 (vcRet Pg R47 Q) (initEnv 0 [a0]) h = (
  bindV (aNew Pg h 94 a0) fun v1 h2 =>
  ACalls Pg 114 [] h2 (aEnd (fun v3 h4 =>
  bindV (still (aFieldAddr Pg 94 v1 1) h4) fun v5 h6 =>
  bindV (still (aFieldAddr Pg 57 v5 0) h6) fun v7 h8 =>
  bindV (aLoadV Pg h8 5 v7) fun v9 h10 =>
  bindV (still (aConv Pg h10 5 3 v9) h10) fun v11 h12 =>
  bindV (aBuiltin Pg h12 .len [222] [v3]) fun v13 h14 =>
  bindV (still (aBin Pg .lss 3 v11 v13 false) h14) fun v15 h16 =>
  vcIf v15 (
  bindV (still (aFieldAddr Pg 94 v1 1) h16) fun v17 h18 =>
  bindV (still (aFieldAddr Pg 57 v17 0) h18) fun v19 h20 =>
  bindV (aLoadV Pg h20 5 v19) fun v21 h22 =>
  bindV (still (aIndexAddr Pg 222 v3 v21) h22) fun v23 h24 =>
  bindV (still (aFieldAddr Pg 225 v23 0) h24) fun v25 h26 =>
  bindV (aLoadV Pg h26 9 v25) fun v27 h28 =>
  Meet (J47_111 Q v1 v27 h28)) (
  Meet (J47_111 Q v1 (V.str [99, 97, 108, 108]) h16))) fun v h => Q (.panic v) h)) := by kernel_rfl
theorem C47 (Q : AEnd → AH → Prop) (a0 : V) (h : AH) (c :
  bindV (aNew Pg h 94 a0) fun v1 h2 =>
  ACalls Pg 114 [] h2 (aEnd (fun v3 h4 =>
  bindV (still (aFieldAddr Pg 94 v1 1) h4) fun v5 h6 =>
  bindV (still (aFieldAddr Pg 57 v5 0) h6) fun v7 h8 =>
  bindV (aLoadV Pg h8 5 v7) fun v9 h10 =>
  bindV (still (aConv Pg h10 5 3 v9) h10) fun v11 h12 =>
  bindV (aBuiltin Pg h12 .len [222] [v3]) fun v13 h14 =>
  bindV (still (aBin Pg .lss 3 v11 v13 false) h14) fun v15 h16 =>
  vcIf v15 (
  bindV (still (aFieldAddr Pg 94 v1 1) h16) fun v17 h18 =>
  bindV (still (aFieldAddr Pg 57 v17 0) h18) fun v19 h20 =>
  bindV (aLoadV Pg h20 5 v19) fun v21 h22 =>
  bindV (still (aIndexAddr Pg 222 v3 v21) h22) fun v23 h24 =>
  bindV (still (aFieldAddr Pg 225 v23 0) h24) fun v25 h26 =>
  bindV (aLoadV Pg h26 9 v25) fun v27 h28 =>
  Meet (J47_111 Q v1 v27 h28)) (
  Meet (J47_111 Q v1 (V.str [99, 97, 108, 108]) h16))) fun v h => Q (.panic v) h)) : ACalls Pg 47 [a0] h Q :=
  acalls_of_vc okP Tryz.func47 (show Tryz.f47.body = some B47 from by kernel_rfl) K47 (by rw [← S47 Q a0 h] at c; exact c)

-- 48 varve/varveref28.Tell
noncomputable def B48 : Code := (Tryz.f48.body).getD .skip
def R48 : List ResultVar := [.tmp 2]
abbrev N48 : Nat := 88
def K48 : KT := (.seq .leaf (.seq .leaf (.join (.seq .leaf (.two (.seq .leaf .leaf [2]) .leaf) [1, 3, 32]) (.seq .leaf (.seq .leaf (.join (.seq .leaf (.one (.loop (.join (.seq .leaf (.two .leaf .leaf) [1, 3, 4, 5, 65]) (.join (.one (.seq .leaf (.two .leaf .leaf) [1, 3, 4, 5, 73])) .leaf [1, 3, 4, 5]) [1, 3, 4, 5]) [1, 3, 4, 5])) [1, 3, 4, 5]) (.join (.seq .leaf (.two .leaf .leaf) [1, 3, 4, 77]) (.seq .leaf .leaf [2]) [3]) [1, 3, 4]) [1, 3, 4]) [1, 3]) [1, 3]) [1, 3]) [1])
def J48_11111010011 (Q : AEnd → AH → Prop) (n : Nat) (x1 x3 x4 x5 : V) (h : AH) : Prop := vcAt Pg N48 B48 K48 [1, 1, 1, 1, 1, 0, 1, 0, 0, 1, 1] [n] (vcRet Pg R48 Q) [(1, x1), (3, x3), (4, x4), (5, x5)] h
def J48_1111101001 (Q : AEnd → AH → Prop) (n : Nat) (x1 x3 x4 x5 : V) (h : AH) : Prop := vcAt Pg N48 B48 K48 [1, 1, 1, 1, 1, 0, 1, 0, 0, 1] [n] (vcRet Pg R48 Q) [(1, x1), (3, x3), (4, x4), (5, x5)] h
def J48_1111111 (Q : AEnd → AH → Prop) (x3 : V) (h : AH) : Prop := vcAt Pg N48 B48 K48 [1, 1, 1, 1, 1, 1, 1] [] (vcRet Pg R48 Q) [(3, x3)] h
def J48_111111 (Q : AEnd → AH → Prop) (x1 x3 x4 : V) (h : AH) : Prop := vcAt Pg N48 B48 K48 [1, 1, 1, 1, 1, 1] [] (vcRet Pg R48 Q) [(1, x1), (3, x3), (4, x4)] h
def L48_11111010 (Q : AEnd → AH → Prop) (n : Nat) (x1 x3 x4 x5 : V) (h : AH) : Prop := loopAt Pg N48 B48 K48 [1, 1, 1, 1, 1, 0, 1, 0] [] n (vcRet Pg R48 Q) [(1, x1), (3, x3), (4, x4), (5, x5)] h
def J48_111 (Q : AEnd → AH → Prop) (x1 x3 : V) (h : AH) : Prop := vcAt Pg N48 B48 K48 [1, 1, 1] [] (vcRet Pg R48 Q) [(1, x1), (3, x3)] h
theorem J48_11111010011_eq (Q : AEnd → AH → Prop) (n : Nat) (x1 x3 x4 x5 : V) (h : AH) : J48_11111010011 Q n x1 x3 x4 x5 h = (
  bindV (still (aBin Pg .add 3 x5 (V.int .i64 1) true) h) fun v76 h77 =>
  Meet (L48_11111010 Q n x1 x3 x4 v76 h77)) := by kernel_rfl
theorem J48_1111101001_eq (Q : AEnd → AH → Prop) (n : Nat) (x1 x3 x4 x5 : V) (h : AH) : J48_1111101001 Q n x1 x3 x4 x5 h = (
  bindV (still (aFieldAddr Pg 94 x1 6) h) fun v64 h65 =>
  bindV (still (aFieldAddr Pg 60 v64 3) h65) fun v66 h67 =>
  bindV (still (aIndexAddr Pg 33 v66 x5) h67) fun v68 h69 =>
  bindV (aLoadV Pg h69 5 v68) fun v70 h71 =>
  bindV (still (aBin Pg .neq 5 v70 (V.int .u8 0) true) h71) fun v72 h73 =>
  vcIf v72 (
  bindV (still (aBin Pg .add 3 x5 (V.int .i64 1) true) h73) fun v74 h75 =>
  Meet (J48_11111010011 Q n x1 x3 v74 x5 h75)) (
  Meet (J48_11111010011 Q n x1 x3 x4 x5 h73))) := by kernel_rfl
theorem J48_1111111_eq (Q : AEnd → AH → Prop) (x3 : V) (h : AH) : J48_1111111 Q x3 h = (
  Q (.ret x3) h) := by kernel_rfl
theorem J48_111111_eq (Q : AEnd → AH → Prop) (x1 x3 x4 : V) (h : AH) : J48_111111 Q x1 x3 x4 h = (
  bindV (still (aBin Pg .gtr 3 x4 (V.int .i64 0) true) h) fun v78 h79 =>
  vcIf v78 (
  bindV (still (aFieldAddr Pg 94 x1 6) h79) fun v80 h81 =>
  bindV (still (aFieldAddr Pg 60 v80 3) h81) fun v82 h83 =>
  bindV (still (aSlice Pg h83 33 v82 none (some x4)) h83) fun v84 h85 =>
  bindV (still (aConv Pg h85 207 9 v84) h85) fun v86 h87 =>
  ACalls Pg 121 [v86] h87 (aEnd (fun v88 h89 =>
  bindV (still (aBin Pg .add 9 (V.str [32]) v88 true) h89) fun v90 h91 =>
  bindV (still (aBin Pg .add 9 x3 v90 false) h91) fun v92 h93 =>
  Meet (J48_1111111 Q v92 h93)) fun v h => Q (.panic v) h)) (
  Meet (J48_1111111 Q x3 h79))) := by kernel_rfl
theorem L48_11111010_eq (Q : AEnd → AH → Prop) (n : Nat) (x1 x3 x4 x5 : V) (h : AH) : L48_11111010 Q (n + 1) x1 x3 x4 x5 h = (
  bindV (still (aBin Pg .lss 3 x5 (V.int .i64 64) true) h) fun v62 h63 =>
  vcIf v62 (
  Meet (J48_1111101001 Q n x1 x3 x4 x5 h63)) (
  Meet (J48_111111 Q x1 x3 x4 h63))) := by kernel_rfl
theorem J48_111_eq (Q : AEnd → AH → Prop) (x1 x3 : V) (h : AH) : J48_111 Q x1 x3 h = (
  bindO (fstV (still (aFieldAddr Pg 94 x1 4) h)) fun v34 =>
  bindO (fstV (aLoadV Pg h 3 v34)) fun v35 =>
  bindO (fstV (still (aConv Pg h 3 31 v35) h)) fun v36 =>
  bindO (fstV (still (aConv Pg h 31 49 v36) h)) fun v37 =>
  ∃ v38, ACalls Pg 119 [v37] h (pureE v38 h) ∧ (
  bindO (fstV (still (aBin Pg .add 9 (V.str [32]) v38 true) h)) fun v39 =>
  bindO (fstV (still (aBin Pg .add 9 v39 (V.str [32]) true) h)) fun v40 =>
  bindO (fstV (still (aFieldAddr Pg 94 x1 6) h)) fun v41 =>
  bindO (fstV (still (aFieldAddr Pg 60 v41 0) h)) fun v42 =>
  bindO (fstV (aLoadV Pg h 29 v42)) fun v43 =>
  bindO (fstV (still (aConv Pg h 29 31 v43) h)) fun v44 =>
  bindO (fstV (still (aConv Pg h 31 49 v44) h)) fun v45 =>
  ∃ v46, ACalls Pg 119 [v45] h (pureE v46 h) ∧ (
  bindO (fstV (still (aBin Pg .add 9 v40 v46 false) h)) fun v47 =>
  bindO (fstV (still (aBin Pg .add 9 v47 (V.str [32]) true) h)) fun v48 =>
  bindO (fstV (still (aFieldAddr Pg 94 x1 6) h)) fun v49 =>
  bindO (fstV (still (aFieldAddr Pg 60 v49 1) h)) fun v50 =>
  bindO (fstV (aLoadV Pg h 49 v50)) fun v51 =>
  ∃ v52, ACalls Pg 119 [v51] h (pureE v52 h) ∧ (
  bindO (fstV (still (aBin Pg .add 9 v48 v52 false) h)) fun v53 =>
  bindO (fstV (still (aBin Pg .add 9 v53 (V.str [32]) true) h)) fun v54 =>
  bindO (fstV (still (aFieldAddr Pg 94 x1 6) h)) fun v55 =>
  bindO (fstV (still (aFieldAddr Pg 60 v55 2) h)) fun v56 =>
  bindO (fstV (aLoadV Pg h 31 v56)) fun v57 =>
  bindO (fstV (still (aConv Pg h 31 49 v57) h)) fun v58 =>
  ∃ v59, ACalls Pg 119 [v58] h (pureE v59 h) ∧ (
  bindO (fstV (still (aBin Pg .add 9 v54 v59 false) h)) fun v60 =>
  bindO (fstV (still (aBin Pg .add 9 x3 v60 false) h)) fun v61 =>
  ∃ n, Meet (L48_11111010 Q n x1 v61 (V.int .i64 0) (V.int .i64 0) h)))))) := by kernel_rfl
theorem S48 (Q : AEnd → AH → Prop) (a0 : V) (h : AH) : vc Pg N48 B48 K48 (vcRet Pg R48 Q) (initEnv 0 [a0]) h = (
  bindV (aNew Pg h 94 a0) fun v1 h2 =>
  bindO (fstV (still (aFieldAddr Pg 94 v1 2) h2)) fun v3 =>
  bindO (fstV (aLoadV Pg h2 3 v3)) fun v4 =>
  bindO (fstV (still (aConv Pg h2 3 31 v4) h2)) fun v5 =>
  bindO (fstV (still (aConv Pg h2 31 49 v5) h2)) fun v6 =>
  ∃ v7, ACalls Pg 119 [v6] h2 (pureE v7 h2) ∧ (
  bindO (fstV (still (aBin Pg .add 9 v7 (V.str [32]) true) h2)) fun v8 =>
  bindO (fstV (still (aFieldAddr Pg 94 v1 0) h2)) fun v9 =>
  bindO (fstV (aLoadV Pg h2 3 v9)) fun v10 =>
  bindO (fstV (still (aConv Pg h2 3 31 v10) h2)) fun v11 =>
  bindO (fstV (still (aConv Pg h2 31 49 v11) h2)) fun v12 =>
  ∃ v13, ACalls Pg 119 [v12] h2 (pureE v13 h2) ∧ (
  bindO (fstV (still (aBin Pg .add 9 v8 v13 false) h2)) fun v14 =>
  bindO (fstV (still (aBin Pg .add 9 v14 (V.str [32]) true) h2)) fun v15 =>
  bindO (fstV (still (aFieldAddr Pg 94 v1 1) h2)) fun v16 =>
  bindO (fstV (still (aFieldAddr Pg 57 v16 0) h2)) fun v17 =>
  bindO (fstV (aLoadV Pg h2 5 v17)) fun v18 =>
  ∃ v19, ACalls Pg 120 [v18] h2 (pureE v19 h2) ∧ (
  bindO (fstV (still (aBin Pg .add 9 v15 v19 false) h2)) fun v20 =>
  bindO (fstV (still (aBin Pg .add 9 v20 (V.str [32]) true) h2)) fun v21 =>
  bindO (fstV (still (aFieldAddr Pg 94 v1 3) h2)) fun v22 =>
  bindO (fstV (aLoadV Pg h2 3 v22)) fun v23 =>
  bindO (fstV (still (aConv Pg h2 3 31 v23) h2)) fun v24 =>
  bindO (fstV (still (aConv Pg h2 31 49 v24) h2)) fun v25 =>
  ∃ v26, ACalls Pg 119 [v25] h2 (pureE v26 h2) ∧ (
  bindO (fstV (still (aBin Pg .add 9 v21 v26 false) h2)) fun v27 =>
  bindV (still (aFieldAddr Pg 94 v1 5) h2) fun v28 h29 =>
  bindV (aLoadV Pg h29 4 v28) fun v30 h31 =>
  vcIf v30 (
  bindV (still (aBin Pg .add 9 v27 (V.str [32, 111, 112, 101, 110]) true) h31) fun v32 h33 =>
  Q (.ret v32) h33) (
  Meet (J48_111 Q v1 v27 h31))))))) := by kernel_rfl
theorem C48 (Q : AEnd → AH → Prop) (a0 : V) (h : AH) (c :
  bindV (aNew Pg h 94 a0) fun v1 h2 =>
  bindO (fstV (still (aFieldAddr Pg 94 v1 2) h2)) fun v3 =>
  bindO (fstV (aLoadV Pg h2 3 v3)) fun v4 =>
  bindO (fstV (still (aConv Pg h2 3 31 v4) h2)) fun v5 =>
  bindO (fstV (still (aConv Pg h2 31 49 v5) h2)) fun v6 =>
  ∃ v7, ACalls Pg 119 [v6] h2 (pureE v7 h2) ∧ (
  bindO (fstV (still (aBin Pg .add 9 v7 (V.str [32]) true) h2)) fun v8 =>
  bindO (fstV (still (aFieldAddr Pg 94 v1 0) h2)) fun v9 =>
  bindO (fstV (aLoadV Pg h2 3 v9)) fun v10 =>
  bindO (fstV (still (aConv Pg h2 3 31 v10) h2)) fun v11 =>
  bindO (fstV (still (aConv Pg h2 31 49 v11) h2)) fun v12 =>
  ∃ v13, ACalls Pg 119 [v12] h2 (pureE v13 h2) ∧ (
  bindO (fstV (still (aBin Pg .add 9 v8 v13 false) h2)) fun v14 =>
  bindO (fstV (still (aBin Pg .add 9 v14 (V.str [32]) true) h2)) fun v15 =>
  bindO (fstV (still (aFieldAddr Pg 94 v1 1) h2)) fun v16 =>
  bindO (fstV (still (aFieldAddr Pg 57 v16 0) h2)) fun v17 =>
  bindO (fstV (aLoadV Pg h2 5 v17)) fun v18 =>
  ∃ v19, ACalls Pg 120 [v18] h2 (pureE v19 h2) ∧ (
  bindO (fstV (still (aBin Pg .add 9 v15 v19 false) h2)) fun v20 =>
  bindO (fstV (still (aBin Pg .add 9 v20 (V.str [32]) true) h2)) fun v21 =>
  bindO (fstV (still (aFieldAddr Pg 94 v1 3) h2)) fun v22 =>
  bindO (fstV (aLoadV Pg h2 3 v22)) fun v23 =>
  bindO (fstV (still (aConv Pg h2 3 31 v23) h2)) fun v24 =>
  bindO (fstV (still (aConv Pg h2 31 49 v24) h2)) fun v25 =>
  ∃ v26, ACalls Pg 119 [v25] h2 (pureE v26 h2) ∧ (
  bindO (fstV (still (aBin Pg .add 9 v21 v26 false) h2)) fun v27 =>
  bindV (still (aFieldAddr Pg 94 v1 5) h2) fun v28 h29 =>
  bindV (aLoadV Pg h29 4 v28) fun v30 h31 =>
  vcIf v30 (
  bindV (still (aBin Pg .add 9 v27 (V.str [32, 111, 112, 101, 110]) true) h31) fun v32 h33 =>
  Q (.ret v32) h33) (
  Meet (J48_111 Q v1 v27 h31))))))) : ACalls Pg 48 [a0] h Q :=
  acalls_of_vc okP Tryz.func48 (show Tryz.f48.body = some B48 from by kernel_rfl) K48 (by rw [← S48 Q a0 h] at c; exact c)

-- 114 varve/tale.calls
noncomputable def B114 : Code := (Tryz.f114.body).getD .skip
def R114 : List ResultVar := [.tmp 0]
abbrev N114 : Nat := 10
def K114 : KT := (.seq .leaf (.seq .leaf .leaf [0]) [])
theorem S114 (Q : AEnd → AH → Prop) (h : AH) : vc Pg N114 B114 K114 (vcRet Pg R114 Q) (initEnv 0 []) h = (
  bindV (still (aBuild Pg 225 [(0, (V.str [98, 101, 103, 105, 110]))]) h) fun v1 h2 =>
  bindV (still (aBuild Pg 225 [(0, (V.str [114, 101, 97, 100])), (1, (V.bool true)), (2, (V.bool true))]) h2) fun v3 h4 =>
  bindV (still (aBuild Pg 225 [(0, (V.str [119, 114, 105, 116, 101])), (1, (V.bool true)), (2, (V.bool true)), (3, (V.bool true)), (4, (V.bool true))]) h4) fun v5 h6 =>
  bindV (still (aBuild Pg 225 [(0, (V.str [99, 111, 109, 109, 105, 116])), (1, (V.bool true))]) h6) fun v7 h8 =>
  bindV (still (aBuild Pg 225 [(0, (V.str [97, 98, 111, 114, 116])), (1, (V.bool true))]) h8) fun v9 h10 =>
  bindV (still (aBuild Pg 225 [(0, (V.str [118, 97, 99, 117, 117, 109]))]) h10) fun v11 h12 =>
  bindV (still (aBuild Pg 225 [(0, (V.str [99, 104, 101, 99, 107, 112, 111, 105, 110, 116]))]) h12) fun v13 h14 =>
  bindV (still (aBuild Pg 225 [(0, (V.str [99, 108, 111, 115, 101]))]) h14) fun v15 h16 =>
  bindV (aBuildSlice Pg h16 222 8 [(0, v1), (1, v3), (2, v5), (3, v7), (4, v9), (5, v11), (6, v13), (7, v15)]) fun v17 h18 =>
  Q (.ret v17) h18) := by kernel_rfl
theorem C114 (Q : AEnd → AH → Prop) (h : AH) (c :
  bindV (still (aBuild Pg 225 [(0, (V.str [98, 101, 103, 105, 110]))]) h) fun v1 h2 =>
  bindV (still (aBuild Pg 225 [(0, (V.str [114, 101, 97, 100])), (1, (V.bool true)), (2, (V.bool true))]) h2) fun v3 h4 =>
  bindV (still (aBuild Pg 225 [(0, (V.str [119, 114, 105, 116, 101])), (1, (V.bool true)), (2, (V.bool true)), (3, (V.bool true)), (4, (V.bool true))]) h4) fun v5 h6 =>
  bindV (still (aBuild Pg 225 [(0, (V.str [99, 111, 109, 109, 105, 116])), (1, (V.bool true))]) h6) fun v7 h8 =>
  bindV (still (aBuild Pg 225 [(0, (V.str [97, 98, 111, 114, 116])), (1, (V.bool true))]) h8) fun v9 h10 =>
  bindV (still (aBuild Pg 225 [(0, (V.str [118, 97, 99, 117, 117, 109]))]) h10) fun v11 h12 =>
  bindV (still (aBuild Pg 225 [(0, (V.str [99, 104, 101, 99, 107, 112, 111, 105, 110, 116]))]) h12) fun v13 h14 =>
  bindV (still (aBuild Pg 225 [(0, (V.str [99, 108, 111, 115, 101]))]) h14) fun v15 h16 =>
  bindV (aBuildSlice Pg h16 222 8 [(0, v1), (1, v3), (2, v5), (3, v7), (4, v9), (5, v11), (6, v13), (7, v15)]) fun v17 h18 =>
  Q (.ret v17) h18) : ACalls Pg 114 [] h Q :=
  acalls_of_vc okP Tryz.func114 (show Tryz.f114.body = some B114 from by kernel_rfl) K114 (by rw [← S114 Q h] at c; exact c)

-- 115 varve/tale.words
noncomputable def B115 : Code := (Tryz.f115.body).getD .skip
def R115 : List ResultVar := [.tmp 2]
abbrev N115 : Nat := 5
def K115 : KT := (.seq .leaf (.seq .leaf .leaf [2]) [0])
theorem S115 (Q : AEnd → AH → Prop) (a0 : V) (h : AH) : vc Pg N115 B115 K115 (vcRet Pg R115 Q) (initEnv 0 [a0]) h = (
  ACalls Pg 198 [a0, (V.str [32])] h (aEnd (fun v1 h2 =>
  Q (.ret v1) h2) fun v h => Q (.panic v) h)) := by kernel_rfl
theorem C115 (Q : AEnd → AH → Prop) (a0 : V) (h : AH) (c :
  ACalls Pg 198 [a0, (V.str [32])] h (aEnd (fun v1 h2 =>
  Q (.ret v1) h2) fun v h => Q (.panic v) h)) : ACalls Pg 115 [a0] h Q :=
  acalls_of_vc okP Tryz.func115 (show Tryz.f115.body = some B115 from by kernel_rfl) K115 (by rw [← S115 Q a0 h] at c; exact c)

-- 116 varve/tale.low
noncomputable def B116 : Code := (Tryz.f116.body).getD .skip
def R116 : List ResultVar := [.tmp 2]
abbrev N116 : Nat := 7
def K116 : KT := (.seq .leaf (.seq .leaf .leaf [2]) [0])
theorem S116 (Q : AEnd → AH → Prop) (a0 : V) (h : AH) : vc Pg N116 B116 K116 (vcRet Pg R116 Q) (initEnv 0 [a0]) h = (
  bindV (still (aConv Pg h 3 31 a0) h) fun v1 h2 =>
  bindV (still (aConv Pg h2 31 49 v1) h2) fun v3 h4 =>
  ACalls Pg 117 [v3] h4 (aEnd (fun v5 h6 =>
  Q (.ret v5) h6) fun v h => Q (.panic v) h)) := by kernel_rfl
theorem C116 (Q : AEnd → AH → Prop) (a0 : V) (h : AH) (c :
  bindV (still (aConv Pg h 3 31 a0) h) fun v1 h2 =>
  bindV (still (aConv Pg h2 31 49 v1) h2) fun v3 h4 =>
  ACalls Pg 117 [v3] h4 (aEnd (fun v5 h6 =>
  Q (.ret v5) h6) fun v h => Q (.panic v) h)) : ACalls Pg 116 [a0] h Q :=
  acalls_of_vc okP Tryz.func116 (show Tryz.f116.body = some B116 from by kernel_rfl) K116 (by rw [← S116 Q a0 h] at c; exact c)

-- 117 varve/tale.num
noncomputable def B117 : Code := (Tryz.f117.body).getD .skip
def R117 : List ResultVar := [.tmp 2]
abbrev N117 : Nat := 17
def K117 : KT := (.seq .leaf (.join (.seq .leaf (.two (.seq .leaf .leaf [2]) .leaf) [0, 4]) (.seq .leaf .leaf [2]) [0]) [0])
def J117_11 (Q : AEnd → AH → Prop) (x0 : V) (h : AH) : Prop := vcAt Pg N117 B117 K117 [1, 1] [] (vcRet Pg R117 Q) [(0, x0)] h
theorem J117_11_eq (Q : AEnd → AH → Prop) (x0 : V) (h : AH) : J117_11 Q x0 h = (
  bindV (still (aBin Pg .quo 49 x0 (V.int .u64 10) true) h) fun v11 h12 =>
  ACalls Pg 117 [v11] h12 (aEnd (fun v13 h14 =>
  bindV (still (aBin Pg .rem 49 x0 (V.int .u64 10) true) h14) fun v15 h16 =>
  ACalls Pg 117 [v15] h16 (aEnd (fun v17 h18 =>
  bindV (still (aBin Pg .add 9 v13 v17 false) h18) fun v19 h20 =>
  Q (.ret v19) h20) fun v h => Q (.panic v) h)) fun v h => Q (.panic v) h)) := by kernel_rfl
theorem S117 (Q : AEnd → AH → Prop) (a0 : V) (h : AH) : vc Pg N117 B117 K117 (vcRet Pg R117 Q) (initEnv 0 [a0]) h = (
  bindV (still (aBin Pg .lss 49 a0 (V.int .u64 10) true) h) fun v1 h2 =>
  vcIf v1 (
  bindV (still (aConv Pg h2 49 5 a0) h2) fun v3 h4 =>
  bindV (still (aBin Pg .add 5 (V.int .u8 48) v3 true) h4) fun v5 h6 =>
  bindV (aBuildSlice Pg h6 207 1 [(0, v5)]) fun v7 h8 =>
  bindV (still (aConv Pg h8 207 9 v7) h8) fun v9 h10 =>
  Q (.ret v9) h10) (
  Meet (J117_11 Q a0 h2))) := by kernel_rfl
theorem C117 (Q : AEnd → AH → Prop) (a0 : V) (h : AH) (c :
  bindV (still (aBin Pg .lss 49 a0 (V.int .u64 10) true) h) fun v1 h2 =>
  vcIf v1 (
  bindV (still (aConv Pg h2 49 5 a0) h2) fun v3 h4 =>
  bindV (still (aBin Pg .add 5 (V.int .u8 48) v3 true) h4) fun v5 h6 =>
  bindV (aBuildSlice Pg h6 207 1 [(0, v5)]) fun v7 h8 =>
  bindV (still (aConv Pg h8 207 9 v7) h8) fun v9 h10 =>
  Q (.ret v9) h10) (
  Meet (J117_11 Q a0 h2))) : ACalls Pg 117 [a0] h Q :=
  acalls_of_vc okP Tryz.func117 (show Tryz.f117.body = some B117 from by kernel_rfl) K117 (by rw [← S117 Q a0 h] at c; exact c)

-- 118 varve/tale.bytes
noncomputable def B118 : Code := (Tryz.f118.body).getD .skip
def R118 : List ResultVar := [.tmp 2]
abbrev N118 : Nat := 28
def K118 : KT := (.seq .leaf (.join (.seq .leaf (.two (.seq .leaf .leaf [2]) .leaf) [0, 6]) (.seq .leaf (.join (.seq .leaf (.one (.loop (.seq .leaf (.join (.two .leaf .leaf) (.join (.one (.seq .leaf (.eff [11, 12]) [0, 3, 4, 8, 9])) .leaf [0, 3, 8, 9]) [0, 3, 8, 9]) [0, 3, 8, 9, 10]) [0, 3, 8, 9])) [0, 3, 8, 9]) (.seq .leaf .leaf [2]) [3]) [0, 3]) [0]) [0])
def J118_1110100111 (Q : AEnd → AH → Prop) (n : Nat) (x0 x3 x8 x9 : V) (h : AH) : Prop := vcAt Pg N118 B118 K118 [1, 1, 1, 0, 1, 0, 0, 1, 1, 1] [n] (vcRet Pg R118 Q) [(0, x0), (3, x3), (8, x8), (9, x9)] h
def J118_111010011 (Q : AEnd → AH → Prop) (n : Nat) (x0 x3 x8 x9 : V) (h : AH) : Prop := vcAt Pg N118 B118 K118 [1, 1, 1, 0, 1, 0, 0, 1, 1] [n] (vcRet Pg R118 Q) [(0, x0), (3, x3), (8, x8), (9, x9)] h
def J118_1111 (Q : AEnd → AH → Prop) (x3 : V) (h : AH) : Prop := vcAt Pg N118 B118 K118 [1, 1, 1, 1] [] (vcRet Pg R118 Q) [(3, x3)] h
def L118_111010 (Q : AEnd → AH → Prop) (n : Nat) (x0 x3 x8 x9 : V) (h : AH) : Prop := loopAt Pg N118 B118 K118 [1, 1, 1, 0, 1, 0] [] n (vcRet Pg R118 Q) [(0, x0), (3, x3), (8, x8), (9, x9)] h
def J118_11 (Q : AEnd → AH → Prop) (x0 : V) (h : AH) : Prop := vcAt Pg N118 B118 K118 [1, 1] [] (vcRet Pg R118 Q) [(0, x0)] h
theorem J118_1110100111_eq (Q : AEnd → AH → Prop) (n : Nat) (x0 x3 x8 x9 : V) (h : AH) : J118_1110100111 Q n x0 x3 x8 x9 h = (
  bindV (still (aBin Pg .add 3 x9 (V.int .i64 1) true) h) fun v17 h18 =>
  Meet (L118_111010 Q n x0 x3 x8 v17 h18)) := by kernel_rfl
theorem J118_111010011_eq (Q : AEnd → AH → Prop) (n : Nat) (x0 x3 x8 x9 : V) (h : AH) : J118_111010011 Q n x0 x3 x8 x9 h = (
  bindO (fstV (still (aIndex Pg 9 x0 x9) h)) fun v7 =>
  bindO (fstV (still (aBin Pg .shr 5 v7 (V.int .u64 4) true) h)) fun v8 =>
  bindO (fstV (still (aIndex Pg 9 (V.str [48, 49, 50, 51, 52, 53, 54, 55, 56, 57, 97, 98, 99, 100, 101, 102]) v8) h)) fun v9 =>
  bindO (fstV (still (aIndex Pg 9 x0 x9) h)) fun v10 =>
  bindO (fstV (still (aBin Pg .and 5 v10 (V.int .u8 15) true) h)) fun v11 =>
  bindO (fstV (still (aIndex Pg 9 (V.str [48, 49, 50, 51, 52, 53, 54, 55, 56, 57, 97, 98, 99, 100, 101, 102]) v11) h)) fun v12 =>
  bindV (aBuildSlice Pg h 207 2 [(0, v9), (1, v12)]) fun v13 h14 => (
  bindV (aBuiltin Pg h14 .append [207, 207] [x3, v13]) fun v15 h16 => (
  Meet (J118_1110100111 Q n x0 v15 x8 x9 h16)))) := by kernel_rfl
theorem J118_1111_eq (Q : AEnd → AH → Prop) (x3 : V) (h : AH) : J118_1111 Q x3 h = (
  bindV (still (aConv Pg h 207 9 x3) h) fun v19 h20 =>
  Q (.ret v19) h20) := by kernel_rfl
theorem L118_111010_eq (Q : AEnd → AH → Prop) (n : Nat) (x0 x3 x8 x9 : V) (h : AH) : L118_111010 Q (n + 1) x0 x3 x8 x9 h = (
  bindV (still (aBin Pg .lss 3 x9 x8 false) h) fun v5 h6 =>
  vcIf v5 (
  Meet (J118_111010011 Q n x0 x3 x8 x9 h6)) (
  Meet (J118_1111 Q x3 h6))) := by kernel_rfl
theorem J118_11_eq (Q : AEnd → AH → Prop) (x0 : V) (h : AH) : J118_11 Q x0 h = (
  bindV (aBuiltin Pg h .len [9] [x0]) fun v3 h4 =>
  ∃ n, Meet (L118_111010 Q n x0 (V.slc none 0) v3 (V.int .i64 0) h4)) := by kernel_rfl
theorem S118 (Q : AEnd → AH → Prop) (a0 : V) (h : AH) : vc Pg N118 B118 K118 (vcRet Pg R118 Q) (initEnv 0 [a0]) h = (
  bindV (still (aBin Pg .eql 9 a0 (V.str []) true) h) fun v1 h2 =>
  vcIf v1 (
  Q (.ret (V.str [45])) h2) (
  Meet (J118_11 Q a0 h2))) := by kernel_rfl
theorem C118 (Q : AEnd → AH → Prop) (a0 : V) (h : AH) (c :
  bindV (still (aBin Pg .eql 9 a0 (V.str []) true) h) fun v1 h2 =>
  vcIf v1 (
  Q (.ret (V.str [45])) h2) (
  Meet (J118_11 Q a0 h2))) : ACalls Pg 118 [a0] h Q :=
  acalls_of_vc okP Tryz.func118 (show Tryz.f118.body = some B118 from by kernel_rfl) K118 (by rw [← S118 Q a0 h] at c; exact c)

-- 119 varve/varveref28.Num
noncomputable def B119 : Code := (Tryz.f119.body).getD .skip
def R119 : List ResultVar := [.tmp 2]
abbrev N119 : Nat := 17
def K119 : KT := (.seq .leaf (.seq .leaf (.one (.loop (.one (.seq .leaf (.seq .leaf (.seq .leaf (.two (.seq .leaf .leaf [2]) .leaf) [0, 3, 15]) [0, 3]) [0, 3])) [0, 3])) [0, 3]) [0])
def L119_110 (Q : AEnd → AH → Prop) (n : Nat) (x0 x3 : V) (h : AH) : Prop := loopAt Pg N119 B119 K119 [1, 1, 0] [] n (vcRet Pg R119 Q) [(0, x0), (3, x3)] h
theorem L119_110_eq (Q : AEnd → AH → Prop) (n : Nat) (x0 x3 : V) (h : AH) : L119_110 Q (n + 1) x0 x3 h = (
  bindV (still (aBin Pg .rem 49 x0 (V.int .u64 10) true) h) fun v1 h2 =>
  bindV (still (aBin Pg .add 49 (V.int .u64 48) v1 true) h2) fun v3 h4 =>
  bindV (still (aConv Pg h4 49 5 v3) h4) fun v5 h6 =>
  bindV (aBuildSlice Pg h6 207 1 [(0, v5)]) fun v7 h8 =>
  bindV (still (aConv Pg h8 207 9 v7) h8) fun v9 h10 =>
  bindV (still (aBin Pg .add 9 v9 x3 false) h10) fun v11 h12 =>
  bindV (still (aBin Pg .quo 49 x0 (V.int .u64 10) true) h12) fun v13 h14 =>
  bindV (still (aBin Pg .eql 49 v13 (V.int .u64 0) true) h14) fun v15 h16 =>
  vcIf v15 (
  Q (.ret v11) h16) (
  Meet (L119_110 Q n v13 v11 h16))) := by kernel_rfl
theorem S119 (Q : AEnd → AH → Prop) (a0 : V) (h : AH) : vc Pg N119 B119 K119 (vcRet Pg R119 Q) (initEnv 0 [a0]) h = (
  ∃ n, Meet (L119_110 Q n a0 (V.str []) h)) := by kernel_rfl
theorem C119 (Q : AEnd → AH → Prop) (a0 : V) (h : AH) (c :
  ∃ n, Meet (L119_110 Q n a0 (V.str []) h)) : ACalls Pg 119 [a0] h Q :=
  acalls_of_vc okP Tryz.func119 (show Tryz.f119.body = some B119 from by kernel_rfl) K119 (by rw [← S119 Q a0 h] at c; exact c)

-- 120 varve/varveref28.Name
noncomputable def B120 : Code := (Tryz.f120.body).getD .skip
def R120 : List ResultVar := [.tmp 2]
abbrev N120 : Nat := 20
def K120 : KT := (.seq .leaf (.join (.seq .leaf (.one (.seq .leaf (.two (.seq .leaf .leaf [2]) (.seq .leaf (.two (.seq .leaf .leaf [2]) (.seq .leaf (.two (.seq .leaf .leaf [2]) (.seq .leaf (.two (.seq .leaf .leaf [2]) (.seq .leaf (.two (.seq .leaf .leaf [2]) (.seq .leaf (.two (.seq .leaf .leaf [2]) (.seq .leaf (.two (.seq .leaf .leaf [2]) (.seq .leaf (.two (.seq .leaf .leaf [2]) .leaf) [18])) [3, 16])) [3, 14])) [3, 12])) [3, 10])) [3, 8])) [3, 6])) [3, 4])) [3]) (.seq .leaf .leaf [2]) []) [0])
def J120_11 (Q : AEnd → AH → Prop) (h : AH) : Prop := vcAt Pg N120 B120 K120 [1, 1] [] (vcRet Pg R120 Q) [] h
theorem J120_11_eq (Q : AEnd → AH → Prop) (h : AH) : J120_11 Q h = (
  Q (.ret (V.str [99, 97, 108, 108])) h) := by kernel_rfl
theorem S120 (Q : AEnd → AH → Prop) (a0 : V) (h : AH) : vc Pg N120 B120 K120 (vcRet Pg R120 Q) (initEnv 0 [a0]) h = (
  bindV (still (aBin Pg .eql 5 a0 (V.int .u8 0) true) h) fun v1 h2 =>
  vcIf v1 (
  Q (.ret (V.str [98, 101, 103, 105, 110])) h2) (
  bindV (still (aBin Pg .eql 5 a0 (V.int .u8 1) true) h2) fun v3 h4 =>
  vcIf v3 (
  Q (.ret (V.str [114, 101, 97, 100])) h4) (
  bindV (still (aBin Pg .eql 5 a0 (V.int .u8 2) true) h4) fun v5 h6 =>
  vcIf v5 (
  Q (.ret (V.str [119, 114, 105, 116, 101])) h6) (
  bindV (still (aBin Pg .eql 5 a0 (V.int .u8 3) true) h6) fun v7 h8 =>
  vcIf v7 (
  Q (.ret (V.str [99, 111, 109, 109, 105, 116])) h8) (
  bindV (still (aBin Pg .eql 5 a0 (V.int .u8 4) true) h8) fun v9 h10 =>
  vcIf v9 (
  Q (.ret (V.str [97, 98, 111, 114, 116])) h10) (
  bindV (still (aBin Pg .eql 5 a0 (V.int .u8 5) true) h10) fun v11 h12 =>
  vcIf v11 (
  Q (.ret (V.str [118, 97, 99, 117, 117, 109])) h12) (
  bindV (still (aBin Pg .eql 5 a0 (V.int .u8 6) true) h12) fun v13 h14 =>
  vcIf v13 (
  Q (.ret (V.str [99, 104, 101, 99, 107, 112, 111, 105, 110, 116])) h14) (
  bindV (still (aBin Pg .eql 5 a0 (V.int .u8 7) true) h14) fun v15 h16 =>
  vcIf v15 (
  Q (.ret (V.str [99, 108, 111, 115, 101])) h16) (
  Meet (J120_11 Q h16)))))))))) := by kernel_rfl
theorem C120 (Q : AEnd → AH → Prop) (a0 : V) (h : AH) (c :
  bindV (still (aBin Pg .eql 5 a0 (V.int .u8 0) true) h) fun v1 h2 =>
  vcIf v1 (
  Q (.ret (V.str [98, 101, 103, 105, 110])) h2) (
  bindV (still (aBin Pg .eql 5 a0 (V.int .u8 1) true) h2) fun v3 h4 =>
  vcIf v3 (
  Q (.ret (V.str [114, 101, 97, 100])) h4) (
  bindV (still (aBin Pg .eql 5 a0 (V.int .u8 2) true) h4) fun v5 h6 =>
  vcIf v5 (
  Q (.ret (V.str [119, 114, 105, 116, 101])) h6) (
  bindV (still (aBin Pg .eql 5 a0 (V.int .u8 3) true) h6) fun v7 h8 =>
  vcIf v7 (
  Q (.ret (V.str [99, 111, 109, 109, 105, 116])) h8) (
  bindV (still (aBin Pg .eql 5 a0 (V.int .u8 4) true) h8) fun v9 h10 =>
  vcIf v9 (
  Q (.ret (V.str [97, 98, 111, 114, 116])) h10) (
  bindV (still (aBin Pg .eql 5 a0 (V.int .u8 5) true) h10) fun v11 h12 =>
  vcIf v11 (
  Q (.ret (V.str [118, 97, 99, 117, 117, 109])) h12) (
  bindV (still (aBin Pg .eql 5 a0 (V.int .u8 6) true) h12) fun v13 h14 =>
  vcIf v13 (
  Q (.ret (V.str [99, 104, 101, 99, 107, 112, 111, 105, 110, 116])) h14) (
  bindV (still (aBin Pg .eql 5 a0 (V.int .u8 7) true) h14) fun v15 h16 =>
  vcIf v15 (
  Q (.ret (V.str [99, 108, 111, 115, 101])) h16) (
  Meet (J120_11 Q h16)))))))))) : ACalls Pg 120 [a0] h Q :=
  acalls_of_vc okP Tryz.func120 (show Tryz.f120.body = some B120 from by kernel_rfl) K120 (by rw [← S120 Q a0 h] at c; exact c)

-- 121 varve/varveref28.Hex
noncomputable def B121 : Code := (Tryz.f121.body).getD .skip
def R121 : List ResultVar := [.tmp 2]
abbrev N121 : Nat := 46
def K121 : KT := (.seq .leaf (.join (.seq .leaf (.two (.seq .leaf .leaf [2]) .leaf) [0, 9]) (.seq .leaf (.join (.seq .leaf (.one (.loop (.join (.seq .leaf (.two .leaf .leaf) [0, 3, 4, 13]) (.join (.one (.seq (.eff [8]) (.one (.loop (.seq .leaf (.join (.two .leaf .leaf) (.join (.one (.seq .leaf (.seq .leaf (.two .leaf .leaf) [0, 3, 4, 6, 24, 25, 26, 31]) [0, 3, 4, 6, 24, 25, 26])) .leaf [0, 3, 4, 24, 25, 26]) [0, 3, 4, 24, 25, 26]) [0, 3, 4, 24, 25, 26, 27]) [0, 3, 4, 24, 25, 26])) [0, 3, 4, 24, 25, 26])) .leaf [0, 3, 4]) [0, 3, 4]) [0, 3, 4])) [0, 3, 4]) (.seq .leaf .leaf [2]) [3]) [0, 3]) [0]) [0])
def J121_1110100100100111 (Q : AEnd → AH → Prop) (n n1 : Nat) (x0 x3 x4 x24 x25 x26 : V) (h : AH) : Prop := vcAt Pg N121 B121 K121 [1, 1, 1, 0, 1, 0, 0, 1, 0, 0, 1, 0, 0, 1, 1, 1] [n, n1] (vcRet Pg R121 Q) [(0, x0), (3, x3), (4, x4), (24, x24), (25, x25), (26, x26)] h
def J121_111010010010011 (Q : AEnd → AH → Prop) (n n1 : Nat) (x0 x3 x4 x24 x25 x26 : V) (h : AH) : Prop := vcAt Pg N121 B121 K121 [1, 1, 1, 0, 1, 0, 0, 1, 0, 0, 1, 0, 0, 1, 1] [n, n1] (vcRet Pg R121 Q) [(0, x0), (3, x3), (4, x4), (24, x24), (25, x25), (26, x26)] h
def J121_111010011 (Q : AEnd → AH → Prop) (n : Nat) (x0 x3 x4 : V) (h : AH) : Prop := vcAt Pg N121 B121 K121 [1, 1, 1, 0, 1, 0, 0, 1, 1] [n] (vcRet Pg R121 Q) [(0, x0), (3, x3), (4, x4)] h
def L121_111010010010 (Q : AEnd → AH → Prop) (n : Nat) (n1 : Nat) (x0 x3 x4 x24 x25 x26 : V) (h : AH) : Prop := loopAt Pg N121 B121 K121 [1, 1, 1, 0, 1, 0, 0, 1, 0, 0, 1, 0] [n] n1 (vcRet Pg R121 Q) [(0, x0), (3, x3), (4, x4), (24, x24), (25, x25), (26, x26)] h
def J121_11101001 (Q : AEnd → AH → Prop) (n : Nat) (x0 x3 x4 : V) (h : AH) : Prop := vcAt Pg N121 B121 K121 [1, 1, 1, 0, 1, 0, 0, 1] [n] (vcRet Pg R121 Q) [(0, x0), (3, x3), (4, x4)] h
def J121_1111 (Q : AEnd → AH → Prop) (x3 : V) (h : AH) : Prop := vcAt Pg N121 B121 K121 [1, 1, 1, 1] [] (vcRet Pg R121 Q) [(3, x3)] h
def L121_111010 (Q : AEnd → AH → Prop) (n : Nat) (x0 x3 x4 : V) (h : AH) : Prop := loopAt Pg N121 B121 K121 [1, 1, 1, 0, 1, 0] [] n (vcRet Pg R121 Q) [(0, x0), (3, x3), (4, x4)] h
def J121_11 (Q : AEnd → AH → Prop) (x0 : V) (h : AH) : Prop := vcAt Pg N121 B121 K121 [1, 1] [] (vcRet Pg R121 Q) [(0, x0)] h
theorem J121_1110100100100111_eq (Q : AEnd → AH → Prop) (n n1 : Nat) (x0 x3 x4 x24 x25 x26 : V) (h : AH) : J121_1110100100100111 Q n n1 x0 x3 x4 x24 x25 x26 h = (
  bindV (still (aBin Pg .add 3 x26 (V.int .i64 1) true) h) fun v32 h33 =>
  Meet (L121_111010010010 Q n n1 x0 x3 x4 x24 x25 v32 h33)) := by kernel_rfl
theorem J121_111010010010011_eq (Q : AEnd → AH → Prop) (n n1 : Nat) (x0 x3 x4 x24 x25 x26 : V) (h : AH) : J121_111010010010011 Q n n1 x0 x3 x4 x24 x25 x26 h = (
  bindV (still (aIndexAddr Pg 207 x24 x26) h) fun v18 h19 =>
  bindV (aLoadV Pg h19 5 v18) fun v20 h21 =>
  bindV (still (aBin Pg .lss 5 v20 (V.int .u8 10) true) h21) fun v22 h23 =>
  vcIf v22 (
  bindV (still (aBin Pg .add 5 (V.int .u8 48) v20 true) h23) fun v24 h25 =>
  bindV (aBuildSlice Pg h25 207 1 [(0, v24)]) fun v26 h27 =>
  bindV (still (aConv Pg h27 207 9 v26) h27) fun v28 h29 =>
  bindV (still (aBin Pg .add 9 x3 v28 false) h29) fun v30 h31 =>
  Meet (J121_1110100100100111 Q n n1 x0 v30 x4 x24 x25 x26 h31)) (
  bindV (still (aBin Pg .add 5 (V.int .u8 87) v20 true) h23) fun v34 h35 =>
  bindV (aBuildSlice Pg h35 207 1 [(0, v34)]) fun v36 h37 =>
  bindV (still (aConv Pg h37 207 9 v36) h37) fun v38 h39 =>
  bindV (still (aBin Pg .add 9 x3 v38 false) h39) fun v40 h41 =>
  Meet (J121_1110100100100111 Q n n1 x0 v40 x4 x24 x25 x26 h41))) := by kernel_rfl
theorem J121_111010011_eq (Q : AEnd → AH → Prop) (n : Nat) (x0 x3 x4 : V) (h : AH) : J121_111010011 Q n x0 x3 x4 h = (
  bindV (still (aBin Pg .add 3 x4 (V.int .i64 1) true) h) fun v42 h43 =>
  Meet (L121_111010 Q n x0 x3 v42 h43)) := by kernel_rfl
theorem L121_111010010010_eq (Q : AEnd → AH → Prop) (n : Nat) (n1 : Nat) (x0 x3 x4 x24 x25 x26 : V) (h : AH) : L121_111010010010 Q n (n1 + 1) x0 x3 x4 x24 x25 x26 h = (
  bindV (still (aBin Pg .lss 3 x26 x25 false) h) fun v16 h17 =>
  vcIf v16 (
  Meet (J121_111010010010011 Q n n1 x0 x3 x4 x24 x25 x26 h17)) (
  Meet (J121_111010011 Q n x0 x3 x4 h17))) := by kernel_rfl
theorem J121_11101001_eq (Q : AEnd → AH → Prop) (n : Nat) (x0 x3 x4 : V) (h : AH) : J121_11101001 Q n x0 x3 x4 h = (
  bindO (fstV (still (aIndex Pg 9 x0 x4) h)) fun v9 =>
  bindO (fstV (still (aBin Pg .quo 5 v9 (V.int .u8 16) true) h)) fun v10 =>
  bindO (fstV (still (aIndex Pg 9 x0 x4) h)) fun v11 =>
  bindO (fstV (still (aBin Pg .rem 5 v11 (V.int .u8 16) true) h)) fun v12 =>
  bindV (aBuildSlice Pg h 207 2 [(0, v10), (1, v12)]) fun v13 h14 => (
  bindO (fstV (aBuiltin Pg h14 .len [207] [v13])) fun v15 =>
  (
  ∃ n1, Meet (L121_111010010010 Q n n1 x0 x3 x4 v13 v15 (V.int .i64 0) h14)))) := by kernel_rfl
theorem J121_1111_eq (Q : AEnd → AH → Prop) (x3 : V) (h : AH) : J121_1111 Q x3 h = (
  Q (.ret x3) h) := by kernel_rfl
theorem L121_111010_eq (Q : AEnd → AH → Prop) (n : Nat) (x0 x3 x4 : V) (h : AH) : L121_111010 Q (n + 1) x0 x3 x4 h = (
  bindV (aBuiltin Pg h .len [9] [x0]) fun v5 h6 =>
  bindV (still (aBin Pg .lss 3 x4 v5 false) h6) fun v7 h8 =>
  vcIf v7 (
  Meet (J121_11101001 Q n x0 x3 x4 h8)) (
  Meet (J121_1111 Q x3 h8))) := by kernel_rfl
theorem J121_11_eq (Q : AEnd → AH → Prop) (x0 : V) (h : AH) : J121_11 Q x0 h = (
  ∃ n, Meet (L121_111010 Q n x0 (V.str []) (V.int .i64 0) h)) := by kernel_rfl
theorem S121 (Q : AEnd → AH → Prop) (a0 : V) (h : AH) : vc Pg N121 B121 K121 (vcRet Pg R121 Q) (initEnv 0 [a0]) h = (
  bindV (aBuiltin Pg h .len [9] [a0]) fun v1 h2 =>
  bindV (still (aBin Pg .eql 3 v1 (V.int .i64 0) true) h2) fun v3 h4 =>
  vcIf v3 (
  Q (.ret (V.str [45])) h4) (
  Meet (J121_11 Q a0 h4))) := by kernel_rfl
theorem C121 (Q : AEnd → AH → Prop) (a0 : V) (h : AH) (c :
  bindV (aBuiltin Pg h .len [9] [a0]) fun v1 h2 =>
  bindV (still (aBin Pg .eql 3 v1 (V.int .i64 0) true) h2) fun v3 h4 =>
  vcIf v3 (
  Q (.ret (V.str [45])) h4) (
  Meet (J121_11 Q a0 h4))) : ACalls Pg 121 [a0] h Q :=
  acalls_of_vc okP Tryz.func121 (show Tryz.f121.body = some B121 from by kernel_rfl) K121 (by rw [← S121 Q a0 h] at c; exact c)

end Go.Proofs.YtcglbpjpbjaecaaGreat.Sh
/- Rows that are read, grown and built, for proofs. -/
namespace Go.Ab
open Go Go.RowKit
variable {P : Program}
theorem elemsR {h : AH} {e a s n : Nat} {own : Bool} {l : List V} (hm : h.m a = some (.cells own (.row e) (.agg l))) (hn : s + n ≤ l.length) :
    aElems P h e (.slc (some (⟨a, .row e, []⟩, s)) n) = some ((l.drop s).take n) := by
  have hr : Go.Ab.rowAt P (.row e) [] = some (0, e) := rfl
  simp only [aElems, hm, if_true, hr, getV]
  rw [if_pos ⟨trivial, hn⟩]
theorem elems_nil {h : AH} {e n : Nat} : aElems P h e (.slc none n) = some [] := rfl
/-- May such elements be appended? -/
def apOk (P : Program) (t xt e : TypeId) : Bool :=
  (match ul P t with
  | some (.slice e') => e' == e
  | _ => false) && notInt P xt && (ul P e).isSome && decide (1 ≤ P.bytesOf e) && (zeroV P e).isSome
theorem apOk_spec {t xt e : TypeId} (h : apOk P t xt e = true) : ul P t = some (.slice e) ∧ (notInt P xt && (ul P e).isSome) = true ∧ 1 ≤ P.bytesOf e ∧ (zeroV P e).isSome = true := by
  simp only [apOk, Bool.and_eq_true, decide_eq_true_eq] at h
  obtain ⟨⟨⟨⟨h1, h2⟩, h3⟩, h4⟩, h5⟩ := h
  split at h1
  · rename_i e' hu
    simp only [beq_iff_eq] at h1; subst h1
    exact ⟨hu, by rw [h2, h3]; rfl, h4, h5⟩
  · cases h1
theorem app0 {h : AH} {t xt e : TypeId} {s : V} {x : V} (hc : apOk P t xt e = true) (he : aElems P h e x = some []) (hs : (∃ n, s = .slc none n) ∨ ∃ a n, s = .slc (some a) n) :
    aBuiltin P h .append [t, xt] [s, x] = some (s, h) := by
  obtain ⟨h1, h2, _, _⟩ := apOk_spec hc
  simp only [aBuiltin, h1]
  rw [if_pos h2]
  unfold aAppend
  rw [he]
  rcases hs with ⟨n, rfl⟩ | ⟨a, n, rfl⟩ <;> rfl
theorem appN {h : AH} {t xt e : TypeId} {x : V} {ws : List V} {n : Nat} (hc : apOk P t xt e = true) (he : aElems P h e x = some ws) (hw : ws ≠ []) (hl : ws.length * P.bytesOf e ≤ 140737488355328) :
    aBuiltin P h .append [t, xt] [.slc none n, x] = some (.slc (some (⟨h.next, .row e, []⟩, 0)) ws.length, h.make (.cells true (.row e) (.agg ws))) := by
  obtain ⟨h1, h2, h3, h4⟩ := apOk_spec hc
  simp only [aBuiltin, h1]
  rw [if_pos h2]
  unfold aAppend
  rw [he]
  cases ws with
  | nil => exact absurd rfl hw
  | cons w ws =>
    simp only [aOwnRow, List.length_nil, Nat.zero_add]
    rw [if_pos ⟨h3, hl, h4⟩]
    rfl
theorem appR {h : AH} {t xt e : TypeId} {x : V} {ws l : List V} {a i n : Nat} (hc : apOk P t xt e = true) (he : aElems P h e x = some ws) (hw : ws ≠ []) (hm : h.m a = some (.cells true (.row e) (.agg l))) (hn : i + n ≤ l.length)
    (hl : (n + ws.length) * P.bytesOf e ≤ 140737488355328) :
    aBuiltin P h .append [t, xt] [.slc (some (⟨a, .row e, []⟩, i)) n, x] = some (.slc (some (⟨h.next, .row e, []⟩, 0)) (n + ws.length), (h.kill a).make (.cells true (.row e) (.agg ((l.drop i).take n ++ ws)))) := by
  obtain ⟨h1, h2, h3, h4⟩ := apOk_spec hc
  simp only [aBuiltin, h1]
  rw [if_pos h2]
  unfold aAppend
  rw [he]
  cases ws with
  | nil => exact absurd rfl hw
  | cons w ws =>
    have hlen : ((l.drop i).take n).length = n := by simp; omega
    simp only [aOwnRow, hm, true_and]
    rw [if_pos hn]
    simp only [hlen]
    rw [if_pos ⟨h3, hl, h4⟩]
    rfl
/-- A row of so many elements, built. -/
def bsOk (P : Program) (t e : TypeId) (len : Nat) : Bool :=
  (match ul P t with
  | some (.slice e') => e' == e
  | _ => false) && decide (P.cellsOf e ≠ 0 ∧ len * P.cellsOf e ≤ 16777216)
theorem bs_mk {h : AH} {t e : TypeId} {len : Nat} {ps : List (Nat × V)} {l : List V} {z : V} (hc : bsOk P t e len = true) (hz : zeroV P e = some z) (hp : putParts P (fun _ => some e) (List.replicate len z) ps = some l) :
    aBuildSlice P h t len ps = some (.slc (some (⟨h.next, .row e, []⟩, 0)) len, h.make (.cells true (.row e) (.agg l))) := by
  simp only [bsOk, Bool.and_eq_true, decide_eq_true_eq] at hc
  obtain ⟨h1, h2⟩ := hc
  split at h1
  · rename_i e' hu
    simp only [beq_iff_eq] at h1; subst h1
    unfold aBuildSlice
    rw [hu]
    simp only [hz]
    rw [if_pos h2, hp]
  · cases h1
theorem kill_m (h : AH) (k n : Nat) : (h.kill k).m n = if n = k then none else h.m n := rfl
theorem kill_next (h : AH) (k : Nat) : (h.kill k).next = h.next := rfl
/-- A step of a range over a map, for proofs. -/
theorem nextM_mk {h : AH} {nn : Nat} {ty : BTy} {m : Nat} {since last : Nat} {seen : List Nat} {K : V → AH → Prop} {kt et : TypeId} {es : List (V × V)} {st : List Nat} {clock : Nat}
    (hi : h.m nn = some (.mit (some m) since seen last)) (hm : h.m m = some (.mps kt et es st clock)) (h1 : since = clock) (h2 : last = clock)
    (k1 : ∀ (i : Nat) (k v : V) (b : Nat), es[i]? = some (k, v) → st[i]? = some b → b ∉ seen → K (.tup [.bool true, k, v]) (h.put nn (.mit (some m) clock (seen ++ [b]) clock)))
    (k2 : (∀ b ∈ st, b ∈ seen) → K (.tup [.bool false]) (h.put m (.mp kt et es))) : vcNextM (.ptr (some ⟨nn, ty, []⟩)) h K := by
  simp only [vcNextM, hi, hm]
  exact ⟨trivial, h1, h2, k1, k2⟩
theorem entry_mk {h : AH} {nn : Nat} {ty : BTy} {m : Nat} {since last : Nat} {seen : List Nat} {K : V → AH → Prop} {kt et : TypeId} {es : List (V × V)} {st : List Nat} {clock : Nat}
    (hi : h.m nn = some (.mit (some m) since seen last)) (hm : h.m m = some (.mps kt et es st clock)) (h2 : last = clock) {i b : Nat} {k v : V} (hs : seen.getLast? = some b) (hb : st[i]? = some b) (he : es[i]? = some (k, v))
    (q : K (.tup [k, v]) h) : vcEntry (.ptr (some ⟨nn, ty, []⟩)) h K := by
  simp only [vcEntry, hi, hm]
  exact ⟨trivial, h2, i, b, k, v, hs, hb, he, q⟩
/-- What is left of a memory, the rest forgotten. -/
theorem acalls_sub {f : FuncId} {args : List V} {h : AH} {v : V} {h1 h2 : AH} (c : ACalls P f args h fun e h' => e = .ret v ∧ h' = h1) (hn : h2.next = h1.next) (hs : ∀ n o, h2.m n = some o → h1.m n = some o) :
    ACalls P f args h fun e h' => e = .ret v ∧ h' = h2 := by
  intro B ι W vs F r
  refine (c B ι W vs F r).mono ?_
  rintro e w' ⟨ι', h', ae, a1, a2, a3, rfl, rfl⟩
  exact ⟨ι', h2, .ret v, a1, a2.sub hn hs, a3, rfl, rfl⟩
end Go.Ab
/- Steps over a memory that is told by facts, for printed walks. -/
namespace Go.Ab
open Go Go.RowKit
variable {P : Program}
/-- One object is another one now. -/
structure Upd (h h' : AH) (n : Nat) (o : AO) : Prop where
  next : h'.next = h.next
  at_ : h'.m n = some o
  other : ∀ k, k ≠ n → h'.m k = h.m k
/-- One object more. -/
structure New (h h' : AH) (o : AO) : Prop where
  next : h'.next = h.next + 1
  at_ : h'.m h.next = some o
  other : ∀ k, k < h.next → h'.m k = h.m k
/-- A row that took another one's place. -/
structure Rep (h h' : AH) (n : Nat) (o : AO) : Prop where
  next : h'.next = h.next + 1
  at_ : h'.m h.next = some o
  gone : h'.m n = none
  other : ∀ k, k < h.next → k ≠ n → h'.m k = h.m k
theorem upd_put (h : AH) (n : Nat) (o : AO) : Upd h (h.put n o) n o := ⟨rfl, by rw [put_m, if_pos rfl], fun k hk => by rw [put_m, if_neg hk]⟩
theorem new_make (h : AH) (o : AO) : New h (h.make o) o := ⟨rfl, by rw [make_m, if_pos rfl], fun k hk => by rw [make_m, if_neg (by omega)]⟩
theorem rep_make (h : AH) (n : Nat) (o : AO) (hn : n < h.next) : Rep h ((h.kill n).make o) n o :=
  ⟨rfl, by rw [make_m, if_pos (by rw [kill_next])], by rw [make_m, if_neg (by rw [kill_next]; omega), kill_m, if_pos rfl], fun k hk hne => by rw [make_m, if_neg (by rw [kill_next]; omega), kill_m, if_neg hne]⟩
theorem new_at {h : AH} {t : TypeId} {v : V} (hs : hasShape P v t = true) : ∃ h', aNew P h t v = some (.ptr (some ⟨h.next, .one t, []⟩), h') ∧ New h h' (.cells true (.one t) v) :=
  ⟨_, new_mk hs, new_make _ _⟩
theorem al_at {h : AH} {t : TypeId} {z : V} (hz : zeroV P t = some z) (hs : hasShape P z t = true) : ∃ h', aAlloc P h t = some (.ptr (some ⟨h.next, .one t, []⟩), h') ∧ New h h' (.cells true (.one t) z) :=
  ⟨_, al_mk hz hs, new_make _ _⟩
theorem st_at {h : AH} {n : Nat} {ty : BTy} {p : List Nat} {v v' w x : V} {t : TypeId} (hm : h.m n = some (.cells true ty v)) (hc : ldOk P ty p t = true) (hg : getV v p = some w) (hs : hasShape P x t = true) (hv : setV v p x = some v') :
    ∃ h', aStoreV P h t (.ptr (some ⟨n, ty, p⟩)) x = some (hole, h') ∧ Upd h h' n (.cells true ty v') := ⟨_, st_mk hm hc hg hs hv, upd_put _ _ _⟩
theorem bs_at {h : AH} {t e : TypeId} {len : Nat} {ps : List (Nat × V)} {l : List V} {z : V} (hc : bsOk P t e len = true) (hz : zeroV P e = some z) (hp : putParts P (fun _ => some e) (List.replicate len z) ps = some l) :
    ∃ h', aBuildSlice P h t len ps = some (.slc (some (⟨h.next, .row e, []⟩, 0)) len, h') ∧ New h h' (.cells true (.row e) (.agg l)) := ⟨_, bs_mk hc hz hp, new_make _ _⟩
theorem apN_at {h : AH} {t xt e : TypeId} {x : V} {ws : List V} {n : Nat} (hc : apOk P t xt e = true) (he : aElems P h e x = some ws) (hw : ws ≠ []) (hl : ws.length * P.bytesOf e ≤ 140737488355328) :
    ∃ h', aBuiltin P h .append [t, xt] [.slc none n, x] = some (.slc (some (⟨h.next, .row e, []⟩, 0)) ws.length, h') ∧ New h h' (.cells true (.row e) (.agg ws)) := ⟨_, appN hc he hw hl, new_make _ _⟩
theorem apR_at {h : AH} {t xt e : TypeId} {x : V} {ws l : List V} {a i n : Nat} (hc : apOk P t xt e = true) (ha : a < h.next) (hm : h.m a = some (.cells true (.row e) (.agg l))) (hn : i + n ≤ l.length) (he : aElems P h e x = some ws) (hw : ws ≠ [])
    (hl : (n + ws.length) * P.bytesOf e ≤ 140737488355328) :
    ∃ h', aBuiltin P h .append [t, xt] [.slc (some (⟨a, .row e, []⟩, i)) n, x] = some (.slc (some (⟨h.next, .row e, []⟩, 0)) (n + ws.length), h') ∧ Rep h h' a (.cells true (.row e) (.agg ((l.drop i).take n ++ ws))) := ⟨_, appR hc he hw hm hn hl, rep_make _ _ _ ha⟩
theorem tbytes (l : List UInt8) : toBytes (bytesV l) = some l := by
  induction l with
  | nil => rfl
  | cons b l ih =>
    have e : bytesV (b :: l) = .int .u8 b.toNat :: bytesV l := rfl
    rw [e]
    simp only [toBytes, ih]
    simp
/-- Bytes as a text. -/
theorem cvBS {t d e : TypeId} {h : AH} {x : V} {l : List UInt8} (ht : bsT P t d e = true) (he : aElems P h e x = some (bytesV l)) (hx : (∃ n, x = .slc none n) ∨ ∃ a n, x = .slc (some a) n) : aConv P h t d x = some (.str l) := by
  unfold bsT at ht
  simp only [Bool.and_eq_true] at ht
  obtain ⟨⟨h1, h2⟩, h3⟩ := ht
  have hu : ul P t = some (.slice e) := by
    split at h1
    · rename_i e' hu; simp only [beq_iff_eq] at h1; subst h1; exact hu
    · cases h1
  have hd : ul P d = some .string := by
    split at h2
    · assumption
    · cases h2
  have he' : ul P e = some (.int .u8) := by
    split at h3
    · assumption
    · cases h3
  rcases hx with ⟨n, rfl⟩ | ⟨a, n, rfl⟩ <;> simp [aConv, aBytesStr, hu, hd, he', he, tbytes]
section
variable {t : TypeId} {k k' : IntKind} {a b : Int} {c : Bool}
theorem w_add (h : k.wrap (a + b) = a + b) : aBin P .add t (.int k a) (.int k b) c = some (.int k (a + b)) := by rw [b_add, h]
theorem w_sub (h : k.wrap (a - b) = a - b) : aBin P .sub t (.int k a) (.int k b) c = some (.int k (a - b)) := by rw [b_sub, h]
theorem w_mul (h : k.wrap (a * b) = a * b) : aBin P .mul t (.int k a) (.int k b) c = some (.int k (a * b)) := by rw [b_mul, h]
theorem w_quo (hb : 0 < b) (ha : 0 ≤ a) (h : k.wrap (a / b) = a / b) : aBin P .quo t (.int k a) (.int k b) c = some (.int k (a / b)) := by rw [b_quo (by omega), Int.tdiv_eq_ediv_of_nonneg ha, h]
theorem w_rem (hb : 0 < b) (ha : 0 ≤ a) : aBin P .rem t (.int k a) (.int k b) c = some (.int k (a % b)) := by rw [b_rem (by omega), Int.tmod_eq_emod_of_nonneg ha]
end
theorem wr_u8 {x : Int} (h1 : 0 ≤ x) (h2 : x < 256) : IntKind.u8.wrap x = x := Int.emod_eq_of_lt h1 h2
theorem wr_u16 {x : Int} (h1 : 0 ≤ x) (h2 : x < 65536) : IntKind.u16.wrap x = x := Int.emod_eq_of_lt h1 h2
theorem wr_u32 {x : Int} (h1 : 0 ≤ x) (h2 : x < 4294967296) : IntKind.u32.wrap x = x := Int.emod_eq_of_lt h1 h2
theorem wr_u64 {x : Int} (h1 : 0 ≤ x) (h2 : x < 18446744073709551616) : IntKind.u64.wrap x = x := Int.emod_eq_of_lt h1 h2
theorem cv_wr {h : AH} {s d : TypeId} {k0 k : IntKind} {n : Int} (hc : cvOk P s d k = true) (hw : k.wrap n = n) : aConv P h s d (.int k0 n) = some (.int k n) := by rw [cv_int k hc, hw]
/-- A slice's length. -/
theorem len_slc {h : AH} {t : TypeId} {a : Option (PA × Nat)} {n : Nat} (hc : (match ul P t with | some (.slice _) => true | _ => false) = true) : aBuiltin P h .len [t] [.slc a n] = some (.int .i64 n, h) := by
  split at hc
  · rename_i e hu
    simp only [aBuiltin, hu, aLen, still_mk]
  · cases hc
/-- A byte of a text. -/
theorem ixS {t : TypeId} {k : IntKind} {s : List UInt8} {i : Int} {b : UInt8} (hc : (match ul P t with | some .string => true | _ => false) = true) (hi : 0 ≤ i) (hb : s[i.toNat]? = some b) : aIndex P t (.str s) (.int k i) = some (.int .u8 b.toNat) := by
  split at hc
  · rename_i hu
    simp only [aIndex, hu, hi, if_true, hb]
  · cases hc
/-- A piece of a text. -/
theorem sl_str {h : AH} {t : TypeId} {s : List UInt8} {lo hi : Option V} {l k : Nat} (hc : (match ul P t with | some .string => true | _ => false) = true) (hl : bnd lo 0 = some l) (hk : bnd hi s.length = some k) (h1 : l ≤ k) (h2 : k ≤ s.length) :
    aSlice P h t (.str s) lo hi = some (.str ((s.drop l).take (k - l))) := by
  split at hc
  · rename_i hu
    simp only [aSlice, hu, hl, hk]
    rw [if_pos ⟨h1, h2⟩]
  · cases hc
theorem bnd_i {k : IntKind} {i : Int} {d : Nat} (h : 0 ≤ i) : bnd (some (.int k i)) d = some i.toNat := by simp only [bnd, if_pos h]
/-- An element of an array, by its place. -/
def iaOk (P : Program) (t : TypeId) (ty : BTy) (p : List Nat) (n e : Nat) : Bool :=
  (match ul P t with | some (.array n' e') => n' == n && e' == e | _ => false) && (match Go.Ab.rowAt P ty p with | some (_, e') => e' == e | none => false) && (ul P e).isSome
theorem ia_arr {t : TypeId} {m : Nat} {ty : BTy} {p : List Nat} {k : IntKind} {i : Int} (n e : Nat) (hc : iaOk P t ty p n e = true) (h0 : 0 ≤ i) (h1 : i < (n : Int)) :
    aIndexAddr P t (.ptr (some ⟨m, ty, p⟩)) (.int k i) = some (.ptr (some ⟨m, ty, p ++ [i.toNat]⟩)) := by
  simp only [iaOk, Bool.and_eq_true] at hc
  obtain ⟨⟨h2, h3⟩, h4⟩ := hc
  split at h2
  · rename_i n' e' hu
    simp only [Bool.and_eq_true, beq_iff_eq] at h2
    obtain ⟨rfl, rfl⟩ := h2
    split at h3
    · rename_i o e2 hr
      simp only [beq_iff_eq] at h3; subst h3
      simp only [aIndexAddr, hu, hr]
      rw [if_pos (by simp [h4, h0, h1])]
    · cases h3
  · cases h2
def isOk (P : Program) (t : TypeId) (e : Nat) : Bool := (match ul P t with | some (.slice e') => e' == e | _ => false) && (ul P e).isSome
theorem ia_slc {t : TypeId} {m s len : Nat} {k : IntKind} {i : Int} (e : Nat) (hc : isOk P t e = true) (h0 : 0 ≤ i) (h1 : i < (len : Int)) :
    aIndexAddr P t (.slc (some (⟨m, .row e, []⟩, s)) len) (.int k i) = some (.ptr (some ⟨m, .row e, [s + i.toNat]⟩)) := by
  simp only [isOk, Bool.and_eq_true] at hc
  obtain ⟨h2, h4⟩ := hc
  split at h2
  · rename_i e' hu
    simp only [beq_iff_eq] at h2; subst h2
    have hr : Go.Ab.rowAt P (.row e') [] = some (0, e') := rfl
    simp only [aIndexAddr, hu, hr]
    rw [if_pos (by simp [h4, h0, h1])]
    rfl
  · cases h2
theorem getV_row {l : List V} {i : Nat} {w : V} (h : l[i]? = some w) : getV (.agg l) [i] = some w := by simp only [getV, h]
theorem callS {f : FuncId} {args : List V} {h : AH} {v : V} {K X : V → AH → Prop} (c : ACalls P f args h (pureE v h)) (k : K v h) : ACalls P f args h (aEnd K X) := call_mk c k
theorem callH {f : FuncId} {args : List V} {h h1 : AH} {v : V} {K X : V → AH → Prop} (c : ACalls P f args h fun e h' => e = .ret v ∧ h' = h1) (k : K v h1) : ACalls P f args h (aEnd K X) :=
  c.mono fun e h' q => by obtain ⟨rfl, rfl⟩ := q; exact k
/-- A call that hands a value back and leaves a memory of which something is known. -/
theorem callQ {f : FuncId} {args : List V} {h : AH} {v : V} {R : AH → Prop} {K X : V → AH → Prop} (c : ACalls P f args h fun e h' => e = .ret v ∧ R h') (k : ∀ h', R h' → K v h') : ACalls P f args h (aEnd K X) :=
  c.mono fun e h' q => by obtain ⟨rfl, q⟩ := q; exact k h' q
theorem pureQ {f : FuncId} {args : List V} {h : AH} {v : V} (c : ACalls P f args h fun e h' => e = .ret v ∧ h' = h) : ACalls P f args h (pureE v h) := c.mono fun e h' q => by obtain ⟨rfl, rfl⟩ := q; exact ⟨rfl, rfl⟩
theorem bindE {r : Option (V × AH)} {v : V} {K : V → AH → Prop} {R : AH → Prop} (e : ∃ h', r = some (v, h') ∧ R h') (k : ∀ h', R h' → K v h') : bindV r K := by
  obtain ⟨h', rfl, hr⟩ := e; exact k h' hr
theorem bs1_at {h : AH} {t e : TypeId} {a z : V} (hc : bsOk P t e 1 = true) (hz : zeroV P e = some z) (h1 : hasShape P a e = true) :
    ∃ h', aBuildSlice P h t 1 [(0, a)] = some (.slc (some (⟨h.next, .row e, []⟩, 0)) 1, h') ∧ New h h' (.cells true (.row e) (.agg [a])) :=
  bs_at hc hz (by simp [putParts, List.replicate, h1])
theorem bs2_at {h : AH} {t e : TypeId} {a b z : V} (hc : bsOk P t e 2 = true) (hz : zeroV P e = some z) (h1 : hasShape P a e = true) (h2 : hasShape P b e = true) :
    ∃ h', aBuildSlice P h t 2 [(0, a), (1, b)] = some (.slc (some (⟨h.next, .row e, []⟩, 0)) 2, h') ∧ New h h' (.cells true (.row e) (.agg [a, b])) :=
  bs_at hc hz (by simp [putParts, List.replicate, h1, h2])
theorem bs3_at {h : AH} {t e : TypeId} {a b c z : V} (hc : bsOk P t e 3 = true) (hz : zeroV P e = some z) (h1 : hasShape P a e = true) (h2 : hasShape P b e = true) (h3 : hasShape P c e = true) :
    ∃ h', aBuildSlice P h t 3 [(0, a), (1, b), (2, c)] = some (.slc (some (⟨h.next, .row e, []⟩, 0)) 3, h') ∧ New h h' (.cells true (.row e) (.agg [a, b, c])) :=
  bs_at hc hz (by simp [putParts, List.replicate, h1, h2, h3])
theorem bs4_at {h : AH} {t e : TypeId} {a b c d z : V} (hc : bsOk P t e 4 = true) (hz : zeroV P e = some z) (h1 : hasShape P a e = true) (h2 : hasShape P b e = true) (h3 : hasShape P c e = true) (h4 : hasShape P d e = true) :
    ∃ h', aBuildSlice P h t 4 [(0, a), (1, b), (2, c), (3, d)] = some (.slc (some (⟨h.next, .row e, []⟩, 0)) 4, h') ∧ New h h' (.cells true (.row e) (.agg [a, b, c, d])) :=
  bs_at hc hz (by simp [putParts, List.replicate, h1, h2, h3, h4])
theorem bs5_at {h : AH} {t e : TypeId} {a b c d x z : V} (hc : bsOk P t e 5 = true) (hz : zeroV P e = some z) (h1 : hasShape P a e = true) (h2 : hasShape P b e = true) (h3 : hasShape P c e = true) (h4 : hasShape P d e = true) (h5 : hasShape P x e = true) :
    ∃ h', aBuildSlice P h t 5 [(0, a), (1, b), (2, c), (3, d), (4, x)] = some (.slc (some (⟨h.next, .row e, []⟩, 0)) 5, h') ∧ New h h' (.cells true (.row e) (.agg [a, b, c, d, x])) :=
  bs_at hc hz (by simp [putParts, List.replicate, h1, h2, h3, h4, h5])
/-- A row of bytes that grows. -/
def BufB (e : TypeId) (h : AH) (x : V) (l : List UInt8) : Prop :=
  (x = .slc none 0 ∧ l = []) ∨ ∃ n, n < h.next ∧ x = .slc (some (⟨n, .row e, []⟩, 0)) l.length ∧ h.m n = some (.cells true (.row e) (.agg (bytesV l)))
theorem bytesV_len (l : List UInt8) : (bytesV l).length = l.length := by simp [bytesV]
theorem bytesV_app (a b : List UInt8) : bytesV (a ++ b) = bytesV a ++ bytesV b := by simp [bytesV]
theorem BufB.elems {e : TypeId} {h : AH} {x : V} {l : List UInt8} (b : BufB e h x l) : aElems P h e x = some (bytesV l) := by
  rcases b with ⟨rfl, rfl⟩ | ⟨n, h1, rfl, h3⟩
  · rfl
  · rw [← bytesV_len l]; exact elems_row h3
theorem BufB.shape {e : TypeId} {h : AH} {x : V} {l : List UInt8} (b : BufB e h x l) : (∃ n, x = .slc none n) ∨ ∃ a n, x = .slc (some a) n := by
  rcases b with ⟨rfl, rfl⟩ | ⟨n, h1, rfl, h3⟩
  · exact .inl ⟨_, rfl⟩
  · exact .inr ⟨_, _, rfl⟩
theorem BufB.keep {e : TypeId} {h h' : AH} {x : V} {l : List UInt8} (b : BufB e h x l) (hn : h.next ≤ h'.next) (hk : ∀ k, k < h.next → h'.m k = h.m k) : BufB e h' x l := by
  rcases b with ⟨rfl, rfl⟩ | ⟨n, h1, rfl, h3⟩
  · exact .inl ⟨rfl, rfl⟩
  · exact .inr ⟨n, by omega, rfl, (hk n h1).trans h3⟩
theorem BufB.app {t xt e : TypeId} {h : AH} {x y : V} {l w : List UInt8} (b : BufB e h x l) (hc : apOk P t xt e = true) (hb : P.bytesOf e = 1) (hy : aElems P h e y = some (bytesV w)) (hw : w ≠ []) (hl : l.length + w.length ≤ 140737488355328) :
    ∃ v h', aBuiltin P h .append [t, xt] [x, y] = some (v, h') ∧ BufB e h' v (l ++ w) ∧ h.next ≤ h'.next ∧ ∀ k, k < h.next → (∀ len, x ≠ .slc (some (⟨k, .row e, []⟩, 0)) len) → h'.m k = h.m k := by
  have hw' : bytesV w ≠ [] := by cases w <;> simp_all [bytesV]
  rcases b with ⟨rfl, rfl⟩ | ⟨n, h1, rfl, h3⟩
  · obtain ⟨h', e1, u⟩ := apN_at (n := 0) hc hy hw' (by rw [hb, bytesV_len]; simp at hl; omega)
    refine ⟨_, h', e1, .inr ⟨h.next, by rw [u.next]; omega, by rw [bytesV_len]; rfl, by rw [u.at_]; rfl⟩, by rw [u.next]; omega, fun k hk _ => u.other k hk⟩
  · obtain ⟨h', e1, u⟩ := apR_at (i := 0) (n := l.length) hc h1 h3 (by rw [bytesV_len]; omega) hy hw' (by rw [hb, bytesV_len]; omega)
    refine ⟨_, h', e1, .inr ⟨h.next, by rw [u.next]; omega, by rw [bytesV_len, List.length_append], ?_⟩, by rw [u.next]; omega, fun k hk hne => u.other k hk (fun e => by subst e; exact hne _ rfl)⟩
    rw [u.at_, bytesV_app, List.drop_zero, List.take_of_length_le (by rw [bytesV_len]; omega)]
theorem BufB.str {t d e : TypeId} {h : AH} {x : V} {l : List UInt8} (b : BufB e h x l) (ht : bsT P t d e = true) : aConv P h t d x = some (.str l) := cvBS ht b.elems b.shape
theorem shr4 {t : TypeId} {k' : IntKind} {x : Int} {c : Bool} (h0 : 0 ≤ x) (h1 : x < 256) : aBin P .shr t (.int .u8 x) (.int k' 4) c = some (.int .u8 (x / 16)) := by
  rw [b_shr (by omega)]
  obtain ⟨n, rfl⟩ := Int.eq_ofNat_of_zero_le h0
  have : ∀ y : Fin 256, shrI .u8 ((y.val : Nat) : Int) 4 = ((y.val : Nat) : Int) / 16 := by decide +kernel
  have := this ⟨n, by omega⟩
  simp only at this
  rw [this]
theorem and15 {t : TypeId} {x : Int} {c : Bool} (h0 : 0 ≤ x) (h1 : x < 256) : aBin P .and t (.int .u8 x) (.int .u8 15) c = some (.int .u8 (x % 16)) := by
  rw [b_and]
  obtain ⟨n, rfl⟩ := Int.eq_ofNat_of_zero_le h0
  have : ∀ y : Fin 256, bitI .and .u8 ((y.val : Nat) : Int) 15 = ((y.val : Nat) : Int) % 16 := by decide +kernel
  have := this ⟨n, by omega⟩
  simp only at this
  rw [this]
/-- A piece of an array. -/
def saOk (P : Program) (t : TypeId) (ty : BTy) (p : List Nat) (n e : Nat) : Bool :=
  (match ul P t with | some (.array n' e') => n' == n && e' == e | _ => false) && (match layB P ty p with | some (_, u) => isArr P u n e | none => false) && (ul P e).isSome
theorem sl_arr {h : AH} {m : Nat} {ty : BTy} {p : List Nat} {own : Bool} {v : V} {l : List V} {t : TypeId} {lo hi : Option V} {a b : Nat} (n e : Nat) (hm : h.m m = some (.cells own ty v)) (hc : saOk P t ty p n e = true) (hg : getV v p = some (.agg l))
    (hl : bnd lo 0 = some a) (hk : bnd hi n = some b) (h1 : a ≤ b) (h2 : b ≤ n) : aSlice P h t (.ptr (some ⟨m, ty, p⟩)) lo hi = some (.slc (some (⟨m, ty, p⟩, a)) (b - a)) := by
  simp only [saOk, Bool.and_eq_true] at hc
  obtain ⟨⟨g1, g2⟩, g3⟩ := hc
  split at g1
  · rename_i n' e' hu
    simp only [Bool.and_eq_true, beq_iff_eq] at g1
    obtain ⟨rfl, rfl⟩ := g1
    split at g2
    · rename_i o u hlay
      simp only [aSlice, hm, hu, hlay, hg, hl, hk]
      rw [if_pos ⟨trivial, h1, h2, g3, g2⟩]
    · cases g2
  · cases g1
def raOk (P : Program) (ty : BTy) (p : List Nat) (e : Nat) : Bool := match Go.Ab.rowAt P ty p with | some (_, e') => e' == e | none => false
theorem elems_arr {h : AH} {m : Nat} {ty : BTy} {p : List Nat} {own : Bool} {v : V} {l : List V} {e a k : Nat} (hm : h.m m = some (.cells own ty v)) (hc : raOk P ty p e = true) (hg : getV v p = some (.agg l)) (hk : a + k ≤ l.length) :
    aElems P h e (.slc (some (⟨m, ty, p⟩, a)) k) = some ((l.drop a).take k) := by
  unfold raOk at hc
  split at hc
  · rename_i o e' hr
    simp only [beq_iff_eq] at hc; subst hc
    simp only [aElems, hm, if_true, hr, hg]
    rw [if_pos ⟨trivial, hk⟩]
  · cases hc
/-- A piece is copied over another one. -/
theorem copy_at {h : AH} {t xt e : TypeId} {m : Nat} {ty : BTy} {p : List Nat} {v v' x : V} {l ws : List V} {s n : Nat} (ht : (match ul P t with | some (.slice e') => e' == e | _ => false) = true) (he : (ul P e).isSome = true) (hc : raOk P ty p e = true)
    (hm : h.m m = some (.cells true ty v)) (hg : getV v p = some (.agg l)) (hx : aElems P h e x = some ws) (hn : s + n ≤ l.length) (hs : setV v p (.agg (l.take s ++ ws.take (min ws.length n) ++ l.drop (s + min ws.length n))) = some v') :
    ∃ h', aBuiltin P h .copy [t, xt] [.slc (some (⟨m, ty, p⟩, s)) n, x] = some (.int .i64 (min ws.length n : Nat), h') ∧ Upd h h' m (.cells true ty v') := by
  refine ⟨_, ?_, upd_put _ _ _⟩
  split at ht
  · rename_i e' hu
    simp only [beq_iff_eq] at ht; subst ht
    unfold raOk at hc
    split at hc
    · rename_i o e2 hr
      simp only [beq_iff_eq] at hc; subst hc
      simp only [aBuiltin, hu]
      rw [if_pos he]
      unfold aCopy
      simp only [hx, hm, hr, hg]
      rw [if_pos ⟨trivial, trivial, hn⟩]
      simp only [hs]
    · cases hc
  · cases ht
theorem bytesV_take (l : List UInt8) (n : Nat) : (bytesV l).take n = bytesV (l.take n) := by simp [bytesV, List.map_take]
theorem bytesV_drop (l : List UInt8) (n : Nat) : (bytesV l).drop n = bytesV (l.drop n) := by simp [bytesV, List.map_drop]
theorem bytesV_get {l : List UInt8} {i : Nat} {b : UInt8} (h : l[i]? = some b) : (bytesV l)[i]? = some (.int .u8 b.toNat) := by simp [bytesV, h]
theorem ne_of_bne {α : Type} [BEq α] [LawfulBEq α] {a b : α} (h : (a != b) = true) : a ≠ b := bne_iff_ne.1 h
theorem eq_of_bne_false {α : Type} [BEq α] [LawfulBEq α] {a b : α} (h : (a != b) = false) : a = b := by simpa using h
theorem flat_bytes : ∀ l : List UInt8, flatBs (bytesV l) = true
  | [] => rfl
  | b :: l => by
    have e : bytesV (b :: l) = .int .u8 b.toNat :: bytesV l := rfl
    rw [e]; simp only [flatBs, flatB, flat_bytes l, Bool.and_self]
theorem beq_bytes : ∀ (a b : List UInt8), a.length = b.length → beqVs (bytesV a) (bytesV b) = some (a == b)
  | [], [], _ => rfl
  | [], _ :: _, h => by simp at h
  | _ :: _, [], h => by simp at h
  | x :: a, y :: b, h => by
    have e1 : bytesV (x :: a) = .int .u8 x.toNat :: bytesV a := rfl
    have e2 : bytesV (y :: b) = .int .u8 y.toNat :: bytesV b := rfl
    rw [e1, e2]
    simp only [beqVs, beqV, if_true]
    have ih := beq_bytes a b (by simpa using h)
    by_cases hxy : x = y
    · subst hxy
      simp [ih]
    · have : ((x.toNat : Int) == (y.toNat : Int)) = false := by
        rw [beq_eq_false_iff_ne]; intro e; exact hxy (UInt8.toNat_inj.1 (by omega))
      rw [this]
      have h2 : ((x :: a) == (y :: b)) = false := by rw [beq_eq_false_iff_ne]; intro e; cases e; exact hxy rfl
      rw [h2]
end Go.Ab
/- Numbers and bytes as text. -/
namespace Go.Proofs.YtcglbpjpbjaecaaGreat.Sh
open Go Go.Ab Go.RowKit
open Go.Proofs.YtcglbpjpbjaecaaGreat.Ru (Pg okP)
set_option maxRecDepth 10000
set_option linter.unusedVariables false
theorem z5 : zeroV Pg 5 = some (.int .u8 0) := by kernel_rfl
theorem zs5 : hasShape Pg (.int .u8 0) 5 = true := by kernel_rfl

/-- A number's digits. -/
def dec (n : Nat) : List UInt8 := if h : n < 10 then [UInt8.ofNat (48 + n)] else dec (n / 10) ++ [UInt8.ofNat (48 + n % 10)]
termination_by n
decreasing_by omega
theorem dec_lt {n : Nat} (h : n < 10) : dec n = [UInt8.ofNat (48 + n)] := by rw [dec, dif_pos h]
theorem dec_ge {n : Nat} (h : ¬ n < 10) : dec n = dec (n / 10) ++ [UInt8.ofNat (48 + n % 10)] := by rw [dec, dif_neg h]
theorem dec_len : ∀ (k n : Nat), n < 10 ^ (k + 1) → (dec n).length ≤ k + 1
  | 0, n, h => by rw [dec_lt (by simpa using h)]; simp
  | k + 1, n, h => by
    by_cases hn : n < 10
    · rw [dec_lt hn]; simp
    · rw [dec_ge hn]
      have := dec_len k (n / 10) (by rw [Nat.pow_succ] at h; omega)
      simp; omega
theorem dec_len20 {n : Nat} (h : n < 18446744073709551616) : (dec n).length ≤ 20 := dec_len 19 n (by omega)
theorem byte1 {x : Int} (h0 : 0 ≤ x) (h1 : x < 256) : some [V.int .u8 x] = some (bytesV [UInt8.ofNat x.toNat]) := by
  simp [bytesV]; omega
theorem byte2 {x y : Int} (h0 : 0 ≤ x) (h1 : x < 256) (k0 : 0 ≤ y) (k1 : y < 256) : some [V.int .u8 x, V.int .u8 y] = some (bytesV [UInt8.ofNat x.toNat, UInt8.ofNat y.toNat]) := by
  simp [bytesV]; omega
theorem num0 : ∀ (k : Nat) (x : Int), 0 ≤ x → x < 18446744073709551616 → x.toNat ≤ k → ∀ h, ACalls Pg 117 [.int .u64 x] h (pureE (.str (dec x.toNat)) h) := by
  intro k
  induction k using Nat.strongRecOn with
  | _ k ih =>
    intro x h0 h1 hk h
    have IH : ∀ y : Int, 0 ≤ y → y < 18446744073709551616 → y.toNat < x.toNat ∨ (y < 10 ∧ 10 ≤ x) → ∀ h, ACalls Pg 117 [.int .u64 y] h (pureE (.str (dec y.toNat)) h) := fun y a b c h => ih y.toNat (by omega) y a b (Nat.le_refl _) h
    refine pure_lift rfl rfl ?_ h
    refine C117 _ _ _ ?_
    refine bindS_mk (b_lss) ?_
    refine i_split (fun c1 => ?_) (fun c1 => ?_)
    · try rw [c1]
      replace c1 := of_decide_eq_true c1
      first | refine bindS_mk (cv_wr (d := 5) (k := .u8) (by kernel_rfl) (by first | exact wrap_i64 (by omega) (by omega) | exact wr_u8 (by omega) (by omega) | exact wr_u16 (by omega) (by omega) | exact wr_u32 (by omega) (by omega) | exact wr_u64 (by omega) (by omega))) ?_ | refine bindS_mk (cv_int (d := 5) .u8 (by kernel_rfl)) ?_
      first | refine bindS_mk (w_add (by first | exact wrap_i64 (by omega) (by omega) | exact wr_u8 (by omega) (by omega) | exact wr_u16 (by omega) (by omega) | exact wr_u32 (by omega) (by omega) | exact wr_u64 (by omega) (by omega))) ?_ | refine bindS_mk (b_add) ?_
      refine bindE (bs1_at (e := 5) (by kernel_rfl) z5 (by kernel_rfl)) fun h2 u2 => ?_
      have n2 := u2.next
      have f2_2 := u2.at_
      refine bindS_mk (cvBS (e := 5) (by kernel_rfl) ((elems_row f2_2).trans (byte1 (by omega) (by omega))) (.inr ⟨_, _, rfl⟩)) ?_
      show AEnd.ret _ = AEnd.ret _
      rw [dec_lt (by omega)]
      congr 4; omega
    · try rw [c1]
      replace c1 := of_decide_eq_false c1
      refine Meet.of (cast_p (J117_11_eq _ _ _) ?_)
      first | refine bindS_mk (w_quo (by omega) (by omega) (by first | exact wrap_i64 (by omega) (by omega) | exact wr_u8 (by omega) (by omega) | exact wr_u16 (by omega) (by omega) | exact wr_u32 (by omega) (by omega) | exact wr_u64 (by omega) (by omega))) ?_ | refine bindS_mk (b_quo (by decide)) ?_
      refine callS (IH _ (by omega) (by omega) (by omega) _) ?_
      first | refine bindS_mk (w_rem (by omega) (by omega)) ?_ | refine bindS_mk (b_rem (by decide)) ?_
      refine callS (IH _ (by omega) (by omega) (by omega) _) ?_
      refine bindS_mk (t_add (by have := dec_len20 (n := (x / 10).toNat) (by omega); have := dec_len20 (n := (x % 10).toNat) (by omega); omega)) ?_
      show AEnd.ret _ = AEnd.ret _
      rw [dec_ge (n := x.toNat) (by omega)]
      have e1 : (x / 10).toNat = x.toNat / 10 := by omega
      have e2 : (x % 10).toNat = x.toNat % 10 := by omega
      rw [e1, e2, dec_lt (n := x.toNat % 10) (by omega)]
theorem numP (x : Int) (h0 : 0 ≤ x) (h1 : x < 18446744073709551616) (h : AH) : ACalls Pg 117 [.int .u64 x] h (pureE (.str (dec x.toNat)) h) := num0 x.toNat x h0 h1 (Nat.le_refl _) h
theorem lowP (x : Int) (h : AH) : ACalls Pg 116 [.int .i64 x] h (pureE (.str (dec (x % 4294967296).toNat)) h) := by
  refine pure_lift rfl rfl ?_ h
  refine C116 _ _ _ ?_
  refine bindS_mk (cv_int (d := 31) .u32 (by kernel_rfl)) ?_
  refine bindS_mk (cv_wr (d := 49) (k := .u64) (by kernel_rfl) (wr_u64 (by rw [wrap_u32]; omega) (by rw [wrap_u32]; omega))) ?_
  refine callS (numP _ (by rw [wrap_u32]; omega) (by rw [wrap_u32]; omega) _) ?_
  exact rfl
theorem loop119 (q : AEnd → Prop) : ∀ (k : Nat) (x : Int) (s : List UInt8) (h : AH) (n : Nat), 0 ≤ x → x < 18446744073709551616 → x.toNat < 10 ^ (k + 1) → k < n → s.length + k ≤ 1000 → q (.ret (.str (dec x.toNat ++ s))) → L119_110 (fun e _ => q e) n (.int .u64 x) (.str s) h := by
  intro k
  induction k with
  | zero =>
    intro x s h n h0 h1 hk hn hs c
    obtain ⟨n, rfl⟩ : ∃ m, n = m + 1 := ⟨n - 1, by omega⟩
    rw [L119_110_eq]
    first | refine bindS_mk (w_rem (by omega) (by omega)) ?_ | refine bindS_mk (b_rem (by decide)) ?_
    first | refine bindS_mk (w_add (by first | exact wrap_i64 (by omega) (by omega) | exact wr_u8 (by omega) (by omega) | exact wr_u16 (by omega) (by omega) | exact wr_u32 (by omega) (by omega) | exact wr_u64 (by omega) (by omega))) ?_ | refine bindS_mk (b_add) ?_
    first | refine bindS_mk (cv_wr (d := 5) (k := .u8) (by kernel_rfl) (by first | exact wrap_i64 (by omega) (by omega) | exact wr_u8 (by omega) (by omega) | exact wr_u16 (by omega) (by omega) | exact wr_u32 (by omega) (by omega) | exact wr_u64 (by omega) (by omega))) ?_ | refine bindS_mk (cv_int (d := 5) .u8 (by kernel_rfl)) ?_
    refine bindE (bs1_at (e := 5) (by kernel_rfl) z5 (by kernel_rfl)) fun h1 u1 => ?_
    have n1 := u1.next
    have f1_1 := u1.at_
    refine bindS_mk (cvBS (e := 5) (by kernel_rfl) ((elems_row f1_1).trans (byte1 (by omega) (by omega))) (.inr ⟨_, _, rfl⟩)) ?_
    refine bindS_mk (t_add (by simp; omega)) ?_
    first | refine bindS_mk (w_quo (by omega) (by omega) (by first | exact wrap_i64 (by omega) (by omega) | exact wr_u8 (by omega) (by omega) | exact wr_u16 (by omega) (by omega) | exact wr_u32 (by omega) (by omega) | exact wr_u64 (by omega) (by omega))) ?_ | refine bindS_mk (b_quo (by decide)) ?_
    refine bindS_mk (b_eql) ?_
    refine i_split (fun c2 => ?_) (fun c2 => ?_)
    · try rw [c2]
      replace c2 := eq_of_beq c2
      rw [dec_lt (n := x.toNat) (by omega)] at c
      have e2 : 48 + x.toNat = (48 + x % 10).toNat := by omega
      rw [e2] at c; exact c
    · try rw [c2]
      replace c2 := ne_of_beq_false c2
      exfalso; simp only [Nat.zero_add, Nat.pow_one] at hk; omega
  | succ k ih =>
    intro x s h n h0 h1 hk hn hs c
    obtain ⟨n, rfl⟩ : ∃ m, n = m + 1 := ⟨n - 1, by omega⟩
    rw [L119_110_eq]
    first | refine bindS_mk (w_rem (by omega) (by omega)) ?_ | refine bindS_mk (b_rem (by decide)) ?_
    first | refine bindS_mk (w_add (by first | exact wrap_i64 (by omega) (by omega) | exact wr_u8 (by omega) (by omega) | exact wr_u16 (by omega) (by omega) | exact wr_u32 (by omega) (by omega) | exact wr_u64 (by omega) (by omega))) ?_ | refine bindS_mk (b_add) ?_
    first | refine bindS_mk (cv_wr (d := 5) (k := .u8) (by kernel_rfl) (by first | exact wrap_i64 (by omega) (by omega) | exact wr_u8 (by omega) (by omega) | exact wr_u16 (by omega) (by omega) | exact wr_u32 (by omega) (by omega) | exact wr_u64 (by omega) (by omega))) ?_ | refine bindS_mk (cv_int (d := 5) .u8 (by kernel_rfl)) ?_
    refine bindE (bs1_at (e := 5) (by kernel_rfl) z5 (by kernel_rfl)) fun h1 u1 => ?_
    have n1 := u1.next
    have f1_1 := u1.at_
    refine bindS_mk (cvBS (e := 5) (by kernel_rfl) ((elems_row f1_1).trans (byte1 (by omega) (by omega))) (.inr ⟨_, _, rfl⟩)) ?_
    refine bindS_mk (t_add (by simp; omega)) ?_
    first | refine bindS_mk (w_quo (by omega) (by omega) (by first | exact wrap_i64 (by omega) (by omega) | exact wr_u8 (by omega) (by omega) | exact wr_u16 (by omega) (by omega) | exact wr_u32 (by omega) (by omega) | exact wr_u64 (by omega) (by omega))) ?_ | refine bindS_mk (b_quo (by decide)) ?_
    refine bindS_mk (b_eql) ?_
    refine i_split (fun c2 => ?_) (fun c2 => ?_)
    · try rw [c2]
      replace c2 := eq_of_beq c2
      rw [dec_lt (n := x.toNat) (by omega)] at c
      have e2 : 48 + x.toNat = (48 + x % 10).toNat := by omega
      rw [e2] at c; exact c
    · try rw [c2]
      replace c2 := ne_of_beq_false c2
      refine Meet.of (ih _ _ _ n (by omega) (by omega) (by have := Nat.pow_succ 10 (k + 1); omega) (by omega) (by simp; omega) ?_)
      rw [dec_ge (n := x.toNat) (by omega)] at c
      have e1 : (x / 10).toNat = x.toNat / 10 := by omega
      have e2 : 48 + x.toNat % 10 = (48 + x % 10).toNat := by omega
      rw [List.append_assoc, e2] at c
      rw [e1]; exact c
theorem NumP (x : Int) (h0 : 0 ≤ x) (h1 : x < 18446744073709551616) (h : AH) : ACalls Pg 119 [.int .u64 x] h (pureE (.str (dec x.toNat)) h) := by
  refine pure_lift rfl rfl ?_ h
  refine C119 _ _ _ ?_
  exact ⟨20, Meet.of (loop119 (fun e => e = .ret (.str (dec x.toNat))) 19 x [] AH0 20 h0 h1 (by omega) (by omega) (by simp) (by rw [List.append_nil]))⟩
end Go.Proofs.YtcglbpjpbjaecaaGreat.Sh
/- Letters of bytes, names of calls. -/
namespace Go.Proofs.YtcglbpjpbjaecaaGreat.Sh
open Go Go.Ab Go.RowKit
open Go.Proofs.YtcglbpjpbjaecaaGreat.Ru (Pg okP)
set_option maxRecDepth 10000
set_option linter.unusedVariables false
/-- A half of a byte as a letter. -/
def hx (d : Nat) : UInt8 := if d < 10 then UInt8.ofNat (48 + d) else UInt8.ofNat (87 + d)
def hx2 (b : UInt8) : List UInt8 := [hx (b.toNat / 16), hx (b.toNat % 16)]
def hexL (s : List UInt8) : List UInt8 := s.flatMap hx2
/-- Bytes as letters; a dash for none. -/
def hexS (s : List UInt8) : List UInt8 := if s.isEmpty then [45] else hexL s
theorem hexL_len (s : List UInt8) : (hexL s).length = 2 * s.length := by
  induction s with
  | nil => rfl
  | cons b s ih => rw [hexL, List.flatMap_cons, List.length_append]; simp only [hexL] at ih; rw [ih]; simp [hx2]; omega
theorem hexL_snoc (s : List UInt8) (b : UInt8) : hexL (s ++ [b]) = hexL s ++ hx2 b := by simp [hexL]
theorem take_snoc {s : List UInt8} {i : Nat} {b : UInt8} (h : s[i]? = some b) : s.take (i + 1) = s.take i ++ [b] := by
  rw [List.take_add_one, h]; rfl
def lit16 : List UInt8 := [48, 49, 50, 51, 52, 53, 54, 55, 56, 57, 97, 98, 99, 100, 101, 102]
theorem lit16_at (d : Nat) (h : d < 16) : lit16[d]? = some (hx d) := by
  have : ∀ y : Fin 16, lit16[y.val]? = some (hx y.val) := by decide +kernel
  exact this ⟨d, h⟩
theorem hx_toNat (d : Nat) (h : d < 16) : (hx d).toNat = if d < 10 then 48 + d else 87 + d := by
  have : ∀ y : Fin 16, (hx y.val).toNat = if y.val < 10 then 48 + y.val else 87 + y.val := by decide +kernel
  exact this ⟨d, h⟩
theorem hxlo {x : Int} {d : Nat} (h : d < 10) (e : x.toNat = 48 + d) : UInt8.ofNat x.toNat = hx d := by rw [hx, if_pos h, e]
theorem hxhi {x : Int} {d : Nat} (h : ¬ d < 10) (e : x.toNat = 87 + d) : UInt8.ofNat x.toNat = hx d := by rw [hx, if_neg h, e]
theorem b5 : Pg.bytesOf 5 = 1 := by kernel_rfl
theorem ap207 : apOk Pg 207 207 5 = true := by kernel_rfl
/-- The names of the calls. -/
def names : List (List UInt8) := [[98, 101, 103, 105, 110], [114, 101, 97, 100], [119, 114, 105, 116, 101], [99, 111, 109, 109, 105, 116], [97, 98, 111, 114, 116], [118, 97, 99, 117, 117, 109], [99, 104, 101, 99, 107, 112, 111, 105, 110, 116], [99, 108, 111, 115, 101]]
def nameOf (k : Nat) : List UInt8 := names.getD k [99, 97, 108, 108]
theorem name_call {k : Nat} (h : 8 ≤ k) : nameOf k = [99, 97, 108, 108] := by
  unfold nameOf
  rw [List.getD_eq_getElem?_getD, List.getElem?_eq_none (by show 8 ≤ k; exact h)]; rfl
theorem name_len (k : Nat) : (nameOf k).length ≤ 10 := by
  by_cases h : k < 8
  · have : ∀ y : Fin 8, (nameOf y.val).length ≤ 10 := by decide +kernel
    exact this ⟨k, h⟩
  · rw [name_call (by omega)]; decide
theorem loop118 (q : AEnd → Prop) (s : List UInt8) (hs : s.length ≤ 70000000000000) (c : q (.ret (.str (hexL s)))) : ∀ (k i : Nat) (x : V) (h : AH) (n : Nat), i ≤ s.length → s.length - i = k → k < n → BufB 5 h x (hexL (s.take i)) → L118_111010 (fun e _ => q e) n (.str s) x (.int .i64 s.length) (.int .i64 i) h := by
  intro k
  induction k with
  | zero =>
    intro i x h n hi hk hn hB
    obtain ⟨n, rfl⟩ : ∃ m, n = m + 1 := ⟨n - 1, by omega⟩
    rw [L118_111010_eq]
    refine bindS_mk (b_lss) ?_
    refine i_split (fun c1 => ?_) (fun c1 => ?_)
    · try rw [c1]
      replace c1 := of_decide_eq_true c1
      exfalso; omega
    · try rw [c1]
      replace c1 := of_decide_eq_false c1
      refine Meet.of (cast_p (J118_1111_eq _ _ _) ?_)
      refine bindS_mk ((by rw [List.take_of_length_le (by omega)] at hB; exact hB.str (d := 9) (by kernel_rfl))) ?_
      rw [List.take_of_length_le (by omega)] at hB
      exact c
  | succ k ih0 =>
    intro i x h n hi hk hn hB
    obtain ⟨n, rfl⟩ : ∃ m, n = m + 1 := ⟨n - 1, by omega⟩
    have ih : ∀ (i : Nat) (x : V) (h : AH) (n : Nat), i ≤ s.length → s.length - i = k → k < n → BufB 5 h x (hexL (s.take i)) → q (.ret (.str (hexL s))) → L118_111010 (fun e _ => q e) n (.str s) x (.int .i64 s.length) (.int .i64 i) h := fun i x h n a b d e _ => ih0 i x h n a b d e
    rw [L118_111010_eq]
    refine bindS_mk (b_lss) ?_
    refine i_split (fun c1 => ?_) (fun c1 => ?_)
    · try rw [c1]
      replace c1 := of_decide_eq_true c1
      obtain ⟨b, hb0⟩ : ∃ b, s[i]? = some b := ⟨s[i]'(by omega), List.getElem?_eq_getElem (by omega)⟩
      have hb : s[((i : Nat) : Int).toNat]? = some b := hb0
      have hb256 := b.toNat_lt
      refine Meet.of (cast_p (J118_111010011_eq _ _ _ _ _ _ _) ?_)
      refine bindSO_mk (ixS (by kernel_rfl) (by omega) (hb)) ?_
      refine bindSO_mk (shr4 (by have := b.toNat_lt; omega) (by have := b.toNat_lt; omega)) ?_
      refine bindSO_mk (ixS (by kernel_rfl) (by omega) ((congrArg (fun k => lit16[k]?) (by omega)).trans (lit16_at (b.toNat / 16) (by have := b.toNat_lt; omega)))) ?_
      refine bindSO_mk (ixS (by kernel_rfl) (by omega) (hb)) ?_
      refine bindSO_mk (and15 (by have := b.toNat_lt; omega) (by have := b.toNat_lt; omega)) ?_
      refine bindSO_mk (ixS (by kernel_rfl) (by omega) ((congrArg (fun k => lit16[k]?) (by omega)).trans (lit16_at (b.toNat % 16) (by omega)))) ?_
      refine bindE (bs2_at (e := 5) (by kernel_rfl) z5 (by kernel_rfl) (by kernel_rfl)) fun h2 u2 => ?_
      have n2 := u2.next
      have f2_2 := u2.at_
      obtain ⟨v, h3, e3, B, hn3, _⟩ := (hB.keep (by omega) (fun k hk => u2.other k hk)).app (w := hx2 b) ap207 b5 ((elems_row f2_2).trans (by rfl)) (by simp [hx2]) (by rw [hexL_len]; simp [hx2]; omega)
      refine bindV_mk (e3) ?_
      refine Meet.of (cast_p (J118_1110100111_eq _ _ _ _ _ _ _) ?_)
      first | refine bindS_mk (w_add (by first | exact wrap_i64 (by omega) (by omega) | exact wr_u8 (by omega) (by omega) | exact wr_u16 (by omega) (by omega) | exact wr_u32 (by omega) (by omega) | exact wr_u64 (by omega) (by omega))) ?_ | refine bindS_mk (b_add) ?_
      refine Meet.of ((congrArg (fun x : Int => L118_111010 (fun e _ => q e) n (.str s) v (.int .i64 s.length) (.int .i64 x) _) (show ((i : Nat) : Int) + 1 = ((i + 1 : Nat) : Int) by omega)).mpr (ih (i + 1) _ _ n (by omega) (by omega) (by omega) ?_ c))
      rw [take_snoc hb0, hexL_snoc]; exact B
    · try rw [c1]
      replace c1 := of_decide_eq_false c1
      refine Meet.of (cast_p (J118_1111_eq _ _ _) ?_)
      refine bindS_mk ((by rw [List.take_of_length_le (by omega)] at hB; exact hB.str (d := 9) (by kernel_rfl))) ?_
      rw [List.take_of_length_le (by omega)] at hB
      exact c
theorem bytesP (s : List UInt8) (hs : s.length ≤ 70000000000000) (h : AH) : ACalls Pg 118 [.str s] h (pureE (.str (hexS s)) h) := by
  refine pure_lift rfl rfl ?_ h
  refine C118 _ _ _ ?_
  refine bindS_mk (t_eql) ?_
  refine i_split (fun c1 => ?_) (fun c1 => ?_)
  · try rw [c1]
    replace c1 := eq_of_beq c1
    subst c1; rfl
  · try rw [c1]
    replace c1 := ne_of_beq_false c1
    refine Meet.of (cast_p (J118_11_eq _ _ _) ?_)
    refine bindV_mk (len_str (by kernel_rfl)) ?_
    exact ⟨s.length + 1, Meet.of (loop118 (fun e => e = .ret (.str (hexS s))) s hs (by rw [hexS, if_neg (by simpa using c1)]) s.length 0 (.slc none 0) _ _ (by omega) (by omega) (by omega) (.inl ⟨rfl, rfl⟩))⟩
theorem loop121 (q : AEnd → Prop) (s : List UInt8) (hs : s.length ≤ 70000000000000) (c : q (.ret (.str (hexL s)))) : ∀ (k i : Nat) (h : AH) (n : Nat), i ≤ s.length → s.length - i = k → k < n → L121_111010 (fun e _ => q e) n (.str s) (.str (hexL (s.take i))) (.int .i64 i) h := by
  intro k
  induction k with
  | zero =>
    intro i h n hi hk hn
    obtain ⟨n, rfl⟩ : ∃ m, n = m + 1 := ⟨n - 1, by omega⟩
    rw [L121_111010_eq]
    refine bindV_mk (len_str (by kernel_rfl)) ?_
    refine bindS_mk (b_lss) ?_
    refine i_split (fun c1 => ?_) (fun c1 => ?_)
    · try rw [c1]
      replace c1 := of_decide_eq_true c1
      exfalso; omega
    · try rw [c1]
      replace c1 := of_decide_eq_false c1
      refine Meet.of (cast_p (J121_1111_eq _ _ _) ?_)
      rw [List.take_of_length_le (by omega)]; exact c
  | succ k ih0 =>
    intro i h n hi hk hn
    obtain ⟨n, rfl⟩ : ∃ m, n = m + 1 := ⟨n - 1, by omega⟩
    have ih : ∀ (i : Nat) (h : AH) (n : Nat), i ≤ s.length → s.length - i = k → k < n → L121_111010 (fun e _ => q e) n (.str s) (.str (hexL (s.take i))) (.int .i64 i) h := fun i h n a b d => ih0 i h n a b d
    rw [L121_111010_eq]
    refine bindV_mk (len_str (by kernel_rfl)) ?_
    refine bindS_mk (b_lss) ?_
    refine i_split (fun c1 => ?_) (fun c1 => ?_)
    · try rw [c1]
      replace c1 := of_decide_eq_true c1
      obtain ⟨b, hb0⟩ : ∃ b, s[i]? = some b := ⟨s[i]'(by omega), List.getElem?_eq_getElem (by omega)⟩
      have hb : s[((i : Nat) : Int).toNat]? = some b := hb0
      have hb256 := b.toNat_lt
      refine Meet.of (cast_p (J121_11101001_eq _ _ _ _ _ _) ?_)
      refine bindSO_mk (ixS (by kernel_rfl) (by omega) (hb)) ?_
      refine bindSO_mk (w_quo (by omega) (by omega) (wr_u8 (by have := b.toNat_lt; omega) (by have := b.toNat_lt; omega))) ?_
      refine bindSO_mk (ixS (by kernel_rfl) (by omega) (hb)) ?_
      refine bindSO_mk (w_rem (by omega) (by omega)) ?_
      refine bindE (bs2_at (e := 5) (by kernel_rfl) z5 (by kernel_rfl) (by kernel_rfl)) fun h2 u2 => ?_
      have n2 := u2.next
      have f2_2 := u2.at_
      refine bindVO_mk (len_slc (by kernel_rfl)) ?_
      refine ⟨3, Meet.of (cast_p (L121_111010010010_eq _ _ 2 _ _ _ _ _ _ _) ?_)⟩
      refine bindS_mk (b_lss_t (by omega)) ?_
      refine i_t ?_
      refine Meet.of (cast_p (J121_111010010010011_eq _ _ _ _ _ _ _ _ _ _) ?_)
      refine bindS_mk (ia_slc _ (by kernel_rfl) (by omega) (by omega)) ?_
      refine bindV_mk (ld_mk f2_2 (by kernel_rfl) (getV_row (by rfl))) ?_
      refine bindS_mk (b_lss) ?_
      refine i_split (fun c3 => ?_) (fun c3 => ?_)
      · try rw [c3]
        replace c3 := of_decide_eq_true c3
        first | refine bindS_mk (w_add (by first | exact wrap_i64 (by omega) (by omega) | exact wr_u8 (by omega) (by omega) | exact wr_u16 (by omega) (by omega) | exact wr_u32 (by omega) (by omega) | exact wr_u64 (by omega) (by omega))) ?_ | refine bindS_mk (b_add) ?_
        refine bindE (bs1_at (e := 5) (by kernel_rfl) z5 (by kernel_rfl)) fun h4 u4 => ?_
        have n4 := u4.next
        have f2_4 := (u4.other _ (by omega)).trans f2_2
        have f4_4 := u4.at_
        refine bindS_mk (cvBS (e := 5) (by kernel_rfl) ((elems_row f4_4).trans (byte1 (by have := b.toNat_lt; omega) (by have := b.toNat_lt; omega))) (.inr ⟨_, _, rfl⟩)) ?_
        refine bindS_mk (t_add (by simp only [List.length_append, List.length_cons, List.length_nil, hexL_len, List.length_take]; omega)) ?_
        refine Meet.of (cast_p (J121_1110100100100111_eq _ _ _ _ _ _ _ _ _ _) ?_)
        first | refine bindS_mk (w_add (by first | exact wrap_i64 (by omega) (by omega) | exact wr_u8 (by omega) (by omega) | exact wr_u16 (by omega) (by omega) | exact wr_u32 (by omega) (by omega) | exact wr_u64 (by omega) (by omega))) ?_ | refine bindS_mk (b_add) ?_
        refine Meet.of (cast_p (L121_111010010010_eq _ _ _ _ _ _ _ _ _ _) ?_)
        refine bindS_mk (b_lss_t (by omega)) ?_
        refine i_t ?_
        refine Meet.of (cast_p (J121_111010010010011_eq _ _ _ _ _ _ _ _ _ _) ?_)
        refine bindS_mk (ia_slc _ (by kernel_rfl) (by omega) (by omega)) ?_
        refine bindV_mk (ld_mk f2_4 (by kernel_rfl) (getV_row (by rfl))) ?_
        refine bindS_mk (b_lss) ?_
        refine i_split (fun c5 => ?_) (fun c5 => ?_)
        · try rw [c5]
          replace c5 := of_decide_eq_true c5
          first | refine bindS_mk (w_add (by first | exact wrap_i64 (by omega) (by omega) | exact wr_u8 (by omega) (by omega) | exact wr_u16 (by omega) (by omega) | exact wr_u32 (by omega) (by omega) | exact wr_u64 (by omega) (by omega))) ?_ | refine bindS_mk (b_add) ?_
          refine bindE (bs1_at (e := 5) (by kernel_rfl) z5 (by kernel_rfl)) fun h6 u6 => ?_
          have n6 := u6.next
          have f2_6 := (u6.other _ (by omega)).trans f2_4
          have f4_6 := (u6.other _ (by omega)).trans f4_4
          have f6_6 := u6.at_
          refine bindS_mk (cvBS (e := 5) (by kernel_rfl) ((elems_row f6_6).trans (byte1 (by have := b.toNat_lt; omega) (by have := b.toNat_lt; omega))) (.inr ⟨_, _, rfl⟩)) ?_
          refine bindS_mk (t_add (by simp only [List.length_append, List.length_cons, List.length_nil, hexL_len, List.length_take]; omega)) ?_
          refine Meet.of (cast_p (J121_1110100100100111_eq _ _ _ _ _ _ _ _ _ _) ?_)
          first | refine bindS_mk (w_add (by first | exact wrap_i64 (by omega) (by omega) | exact wr_u8 (by omega) (by omega) | exact wr_u16 (by omega) (by omega) | exact wr_u32 (by omega) (by omega) | exact wr_u64 (by omega) (by omega))) ?_ | refine bindS_mk (b_add) ?_
          refine Meet.of (cast_p (L121_111010010010_eq _ _ _ _ _ _ _ _ _ _) ?_)
          refine bindS_mk (b_lss_f (by omega)) ?_
          refine i_f ?_
          refine Meet.of (cast_p (J121_111010011_eq _ _ _ _ _ _) ?_)
          first | refine bindS_mk (w_add (by first | exact wrap_i64 (by omega) (by omega) | exact wr_u8 (by omega) (by omega) | exact wr_u16 (by omega) (by omega) | exact wr_u32 (by omega) (by omega) | exact wr_u64 (by omega) (by omega))) ?_ | refine bindS_mk (b_add) ?_
          refine Meet.of ((congrArg (fun x : Int => L121_111010 (fun e _ => q e) n (.str s) _ (.int .i64 x) _) (show ((i : Nat) : Int) + 1 = ((i + 1 : Nat) : Int) by omega)).mpr ?_)
          refine (congrArg (fun t : List UInt8 => L121_111010 (fun e _ => q e) n (.str s) (.str t) (.int .i64 ((i + 1 : Nat) : Int)) _) ?_).mpr (ih (i + 1) _ n (by omega) (by omega) (by omega))
          rw [take_snoc hb0, hexL_snoc, List.append_assoc]
          exact congrArg (hexL (s.take i) ++ ·) (List.cons_eq_cons.2 ⟨by first | exact hxlo (by omega) (by omega) | exact hxhi (by omega) (by omega), List.cons_eq_cons.2 ⟨by first | exact hxlo (by omega) (by omega) | exact hxhi (by omega) (by omega), rfl⟩⟩)
        · try rw [c5]
          replace c5 := of_decide_eq_false c5
          first | refine bindS_mk (w_add (by first | exact wrap_i64 (by omega) (by omega) | exact wr_u8 (by omega) (by omega) | exact wr_u16 (by omega) (by omega) | exact wr_u32 (by omega) (by omega) | exact wr_u64 (by omega) (by omega))) ?_ | refine bindS_mk (b_add) ?_
          refine bindE (bs1_at (e := 5) (by kernel_rfl) z5 (by kernel_rfl)) fun h7 u7 => ?_
          have n7 := u7.next
          have f2_7 := (u7.other _ (by omega)).trans f2_4
          have f4_7 := (u7.other _ (by omega)).trans f4_4
          have f7_7 := u7.at_
          refine bindS_mk (cvBS (e := 5) (by kernel_rfl) ((elems_row f7_7).trans (byte1 (by have := b.toNat_lt; omega) (by have := b.toNat_lt; omega))) (.inr ⟨_, _, rfl⟩)) ?_
          refine bindS_mk (t_add (by simp only [List.length_append, List.length_cons, List.length_nil, hexL_len, List.length_take]; omega)) ?_
          refine Meet.of (cast_p (J121_1110100100100111_eq _ _ _ _ _ _ _ _ _ _) ?_)
          first | refine bindS_mk (w_add (by first | exact wrap_i64 (by omega) (by omega) | exact wr_u8 (by omega) (by omega) | exact wr_u16 (by omega) (by omega) | exact wr_u32 (by omega) (by omega) | exact wr_u64 (by omega) (by omega))) ?_ | refine bindS_mk (b_add) ?_
          refine Meet.of (cast_p (L121_111010010010_eq _ _ _ _ _ _ _ _ _ _) ?_)
          refine bindS_mk (b_lss_f (by omega)) ?_
          refine i_f ?_
          refine Meet.of (cast_p (J121_111010011_eq _ _ _ _ _ _) ?_)
          first | refine bindS_mk (w_add (by first | exact wrap_i64 (by omega) (by omega) | exact wr_u8 (by omega) (by omega) | exact wr_u16 (by omega) (by omega) | exact wr_u32 (by omega) (by omega) | exact wr_u64 (by omega) (by omega))) ?_ | refine bindS_mk (b_add) ?_
          refine Meet.of ((congrArg (fun x : Int => L121_111010 (fun e _ => q e) n (.str s) _ (.int .i64 x) _) (show ((i : Nat) : Int) + 1 = ((i + 1 : Nat) : Int) by omega)).mpr ?_)
          refine (congrArg (fun t : List UInt8 => L121_111010 (fun e _ => q e) n (.str s) (.str t) (.int .i64 ((i + 1 : Nat) : Int)) _) ?_).mpr (ih (i + 1) _ n (by omega) (by omega) (by omega))
          rw [take_snoc hb0, hexL_snoc, List.append_assoc]
          exact congrArg (hexL (s.take i) ++ ·) (List.cons_eq_cons.2 ⟨by first | exact hxlo (by omega) (by omega) | exact hxhi (by omega) (by omega), List.cons_eq_cons.2 ⟨by first | exact hxlo (by omega) (by omega) | exact hxhi (by omega) (by omega), rfl⟩⟩)
      · try rw [c3]
        replace c3 := of_decide_eq_false c3
        first | refine bindS_mk (w_add (by first | exact wrap_i64 (by omega) (by omega) | exact wr_u8 (by omega) (by omega) | exact wr_u16 (by omega) (by omega) | exact wr_u32 (by omega) (by omega) | exact wr_u64 (by omega) (by omega))) ?_ | refine bindS_mk (b_add) ?_
        refine bindE (bs1_at (e := 5) (by kernel_rfl) z5 (by kernel_rfl)) fun h8 u8 => ?_
        have n8 := u8.next
        have f2_8 := (u8.other _ (by omega)).trans f2_2
        have f8_8 := u8.at_
        refine bindS_mk (cvBS (e := 5) (by kernel_rfl) ((elems_row f8_8).trans (byte1 (by have := b.toNat_lt; omega) (by have := b.toNat_lt; omega))) (.inr ⟨_, _, rfl⟩)) ?_
        refine bindS_mk (t_add (by simp only [List.length_append, List.length_cons, List.length_nil, hexL_len, List.length_take]; omega)) ?_
        refine Meet.of (cast_p (J121_1110100100100111_eq _ _ _ _ _ _ _ _ _ _) ?_)
        first | refine bindS_mk (w_add (by first | exact wrap_i64 (by omega) (by omega) | exact wr_u8 (by omega) (by omega) | exact wr_u16 (by omega) (by omega) | exact wr_u32 (by omega) (by omega) | exact wr_u64 (by omega) (by omega))) ?_ | refine bindS_mk (b_add) ?_
        refine Meet.of (cast_p (L121_111010010010_eq _ _ _ _ _ _ _ _ _ _) ?_)
        refine bindS_mk (b_lss_t (by omega)) ?_
        refine i_t ?_
        refine Meet.of (cast_p (J121_111010010010011_eq _ _ _ _ _ _ _ _ _ _) ?_)
        refine bindS_mk (ia_slc _ (by kernel_rfl) (by omega) (by omega)) ?_
        refine bindV_mk (ld_mk f2_8 (by kernel_rfl) (getV_row (by rfl))) ?_
        refine bindS_mk (b_lss) ?_
        refine i_split (fun c9 => ?_) (fun c9 => ?_)
        · try rw [c9]
          replace c9 := of_decide_eq_true c9
          first | refine bindS_mk (w_add (by first | exact wrap_i64 (by omega) (by omega) | exact wr_u8 (by omega) (by omega) | exact wr_u16 (by omega) (by omega) | exact wr_u32 (by omega) (by omega) | exact wr_u64 (by omega) (by omega))) ?_ | refine bindS_mk (b_add) ?_
          refine bindE (bs1_at (e := 5) (by kernel_rfl) z5 (by kernel_rfl)) fun h10 u10 => ?_
          have n10 := u10.next
          have f2_10 := (u10.other _ (by omega)).trans f2_8
          have f8_10 := (u10.other _ (by omega)).trans f8_8
          have f10_10 := u10.at_
          refine bindS_mk (cvBS (e := 5) (by kernel_rfl) ((elems_row f10_10).trans (byte1 (by have := b.toNat_lt; omega) (by have := b.toNat_lt; omega))) (.inr ⟨_, _, rfl⟩)) ?_
          refine bindS_mk (t_add (by simp only [List.length_append, List.length_cons, List.length_nil, hexL_len, List.length_take]; omega)) ?_
          refine Meet.of (cast_p (J121_1110100100100111_eq _ _ _ _ _ _ _ _ _ _) ?_)
          first | refine bindS_mk (w_add (by first | exact wrap_i64 (by omega) (by omega) | exact wr_u8 (by omega) (by omega) | exact wr_u16 (by omega) (by omega) | exact wr_u32 (by omega) (by omega) | exact wr_u64 (by omega) (by omega))) ?_ | refine bindS_mk (b_add) ?_
          refine Meet.of (cast_p (L121_111010010010_eq _ _ _ _ _ _ _ _ _ _) ?_)
          refine bindS_mk (b_lss_f (by omega)) ?_
          refine i_f ?_
          refine Meet.of (cast_p (J121_111010011_eq _ _ _ _ _ _) ?_)
          first | refine bindS_mk (w_add (by first | exact wrap_i64 (by omega) (by omega) | exact wr_u8 (by omega) (by omega) | exact wr_u16 (by omega) (by omega) | exact wr_u32 (by omega) (by omega) | exact wr_u64 (by omega) (by omega))) ?_ | refine bindS_mk (b_add) ?_
          refine Meet.of ((congrArg (fun x : Int => L121_111010 (fun e _ => q e) n (.str s) _ (.int .i64 x) _) (show ((i : Nat) : Int) + 1 = ((i + 1 : Nat) : Int) by omega)).mpr ?_)
          refine (congrArg (fun t : List UInt8 => L121_111010 (fun e _ => q e) n (.str s) (.str t) (.int .i64 ((i + 1 : Nat) : Int)) _) ?_).mpr (ih (i + 1) _ n (by omega) (by omega) (by omega))
          rw [take_snoc hb0, hexL_snoc, List.append_assoc]
          exact congrArg (hexL (s.take i) ++ ·) (List.cons_eq_cons.2 ⟨by first | exact hxlo (by omega) (by omega) | exact hxhi (by omega) (by omega), List.cons_eq_cons.2 ⟨by first | exact hxlo (by omega) (by omega) | exact hxhi (by omega) (by omega), rfl⟩⟩)
        · try rw [c9]
          replace c9 := of_decide_eq_false c9
          first | refine bindS_mk (w_add (by first | exact wrap_i64 (by omega) (by omega) | exact wr_u8 (by omega) (by omega) | exact wr_u16 (by omega) (by omega) | exact wr_u32 (by omega) (by omega) | exact wr_u64 (by omega) (by omega))) ?_ | refine bindS_mk (b_add) ?_
          refine bindE (bs1_at (e := 5) (by kernel_rfl) z5 (by kernel_rfl)) fun h11 u11 => ?_
          have n11 := u11.next
          have f2_11 := (u11.other _ (by omega)).trans f2_8
          have f8_11 := (u11.other _ (by omega)).trans f8_8
          have f11_11 := u11.at_
          refine bindS_mk (cvBS (e := 5) (by kernel_rfl) ((elems_row f11_11).trans (byte1 (by have := b.toNat_lt; omega) (by have := b.toNat_lt; omega))) (.inr ⟨_, _, rfl⟩)) ?_
          refine bindS_mk (t_add (by simp only [List.length_append, List.length_cons, List.length_nil, hexL_len, List.length_take]; omega)) ?_
          refine Meet.of (cast_p (J121_1110100100100111_eq _ _ _ _ _ _ _ _ _ _) ?_)
          first | refine bindS_mk (w_add (by first | exact wrap_i64 (by omega) (by omega) | exact wr_u8 (by omega) (by omega) | exact wr_u16 (by omega) (by omega) | exact wr_u32 (by omega) (by omega) | exact wr_u64 (by omega) (by omega))) ?_ | refine bindS_mk (b_add) ?_
          refine Meet.of (cast_p (L121_111010010010_eq _ _ _ _ _ _ _ _ _ _) ?_)
          refine bindS_mk (b_lss_f (by omega)) ?_
          refine i_f ?_
          refine Meet.of (cast_p (J121_111010011_eq _ _ _ _ _ _) ?_)
          first | refine bindS_mk (w_add (by first | exact wrap_i64 (by omega) (by omega) | exact wr_u8 (by omega) (by omega) | exact wr_u16 (by omega) (by omega) | exact wr_u32 (by omega) (by omega) | exact wr_u64 (by omega) (by omega))) ?_ | refine bindS_mk (b_add) ?_
          refine Meet.of ((congrArg (fun x : Int => L121_111010 (fun e _ => q e) n (.str s) _ (.int .i64 x) _) (show ((i : Nat) : Int) + 1 = ((i + 1 : Nat) : Int) by omega)).mpr ?_)
          refine (congrArg (fun t : List UInt8 => L121_111010 (fun e _ => q e) n (.str s) (.str t) (.int .i64 ((i + 1 : Nat) : Int)) _) ?_).mpr (ih (i + 1) _ n (by omega) (by omega) (by omega))
          rw [take_snoc hb0, hexL_snoc, List.append_assoc]
          exact congrArg (hexL (s.take i) ++ ·) (List.cons_eq_cons.2 ⟨by first | exact hxlo (by omega) (by omega) | exact hxhi (by omega) (by omega), List.cons_eq_cons.2 ⟨by first | exact hxlo (by omega) (by omega) | exact hxhi (by omega) (by omega), rfl⟩⟩)
    · try rw [c1]
      replace c1 := of_decide_eq_false c1
      refine Meet.of (cast_p (J121_1111_eq _ _ _) ?_)
      rw [List.take_of_length_le (by omega)]; exact c
theorem HexP (s : List UInt8) (hs : s.length ≤ 70000000000000) (h : AH) : ACalls Pg 121 [.str s] h (pureE (.str (hexS s)) h) := by
  refine pure_lift rfl rfl ?_ h
  refine C121 _ _ _ ?_
  refine bindV_mk (len_str (by kernel_rfl)) ?_
  refine bindS_mk (b_eql) ?_
  refine i_split (fun c1 => ?_) (fun c1 => ?_)
  · try rw [c1]
    replace c1 := eq_of_beq c1
    obtain rfl : s = [] := List.length_eq_zero_iff.1 (by omega)
    rfl
  · try rw [c1]
    replace c1 := ne_of_beq_false c1
    refine Meet.of (cast_p (J121_11_eq _ _ _) ?_)
    exact ⟨s.length + 1, Meet.of (loop121 (fun e => e = .ret (.str (hexS s))) s hs (by rw [hexS, if_neg (by intro hh; rw [List.isEmpty_iff] at hh; subst hh; exact c1 rfl)]) s.length 0 _ _ (by omega) (by omega) (by omega))⟩
theorem NameP (x : Int) (h0 : 0 ≤ x) (h : AH) : ACalls Pg 120 [.int .u8 x] h (pureE (.str (nameOf x.toNat)) h) := by
  refine pure_lift rfl rfl ?_ h
  refine C120 _ _ _ ?_
  refine bindS_mk (b_eql) ?_
  refine i_split (fun c1 => ?_) (fun c1 => ?_)
  · try rw [c1]
    replace c1 := eq_of_beq c1
    subst c1; rfl
  · try rw [c1]
    replace c1 := ne_of_beq_false c1
    refine bindS_mk (b_eql) ?_
    refine i_split (fun c2 => ?_) (fun c2 => ?_)
    · try rw [c2]
      replace c2 := eq_of_beq c2
      subst c2; rfl
    · try rw [c2]
      replace c2 := ne_of_beq_false c2
      refine bindS_mk (b_eql) ?_
      refine i_split (fun c3 => ?_) (fun c3 => ?_)
      · try rw [c3]
        replace c3 := eq_of_beq c3
        subst c3; rfl
      · try rw [c3]
        replace c3 := ne_of_beq_false c3
        refine bindS_mk (b_eql) ?_
        refine i_split (fun c4 => ?_) (fun c4 => ?_)
        · try rw [c4]
          replace c4 := eq_of_beq c4
          subst c4; rfl
        · try rw [c4]
          replace c4 := ne_of_beq_false c4
          refine bindS_mk (b_eql) ?_
          refine i_split (fun c5 => ?_) (fun c5 => ?_)
          · try rw [c5]
            replace c5 := eq_of_beq c5
            subst c5; rfl
          · try rw [c5]
            replace c5 := ne_of_beq_false c5
            refine bindS_mk (b_eql) ?_
            refine i_split (fun c6 => ?_) (fun c6 => ?_)
            · try rw [c6]
              replace c6 := eq_of_beq c6
              subst c6; rfl
            · try rw [c6]
              replace c6 := ne_of_beq_false c6
              refine bindS_mk (b_eql) ?_
              refine i_split (fun c7 => ?_) (fun c7 => ?_)
              · try rw [c7]
                replace c7 := eq_of_beq c7
                subst c7; rfl
              · try rw [c7]
                replace c7 := ne_of_beq_false c7
                refine bindS_mk (b_eql) ?_
                refine i_split (fun c8 => ?_) (fun c8 => ?_)
                · try rw [c8]
                  replace c8 := eq_of_beq c8
                  subst c8; rfl
                · try rw [c8]
                  replace c8 := ne_of_beq_false c8
                  refine Meet.of (cast_p (J120_11_eq _ _) ?_)
                  rw [name_call (by omega)]
end Go.Proofs.YtcglbpjpbjaecaaGreat.Sh
/- strings.Join, by the kit's contract. -/
namespace Go.Proofs.YtcglbpjpbjaecaaGreat.Sj
open Go Go.Ab Go.RowKit Go.Proofs
open Go.Proofs.YtcglbpjpbjaecaaGreat.Ru (Pg okP)
set_option maxRecDepth 100000
set_option linter.unusedVariables false
def joRen : Go.Shelf.Ren := ⟨fun | 156 => 198 | 165 => 254 | 166 => 123 | 169 => 125 | 240 => 199 | 241 => 293 | 276 => 255 | 277 => 303 | n => n, fun | 31 => 337 | 9 => 9 | 3 => 3 | 4 => 4 | 0 => 0 | 20 => 20 | 72 => 233 | 76 => 238 | 70 => 231 | 37 => 207 | 75 => 237 | 127 => 346 | 164 => 383 | 5 => 5 | 80 => 240 | n => n, fun n => n⟩
theorem joLay : Lays.n156 Tryz.prog joRen := {
  mixed := by kernel_rfl,
  f156 := Tryz.func198.trans (congrArg some (by kernel_rfl)),
  f165 := Tryz.func254.trans (congrArg some (by kernel_rfl)),
  f166 := Tryz.func123.trans (congrArg some (by kernel_rfl)),
  f169 := Tryz.func125.trans (congrArg some (by kernel_rfl)),
  f240 := Tryz.func199.trans (congrArg some (by kernel_rfl)),
  f241 := Tryz.func293.trans (congrArg some (by kernel_rfl)),
  f276 := Tryz.func255.trans (congrArg some (by kernel_rfl)),
  f277 := Tryz.func303.trans (congrArg some (by kernel_rfl)),
  t0 := Tryz.underlying0,
  a0 := Tryz.isAgg0,
  z0 := Tryz.sizeOf0,
  v0 := Tryz.zeroValue0,
  t3 := Tryz.underlying3,
  a3 := Tryz.isAgg3,
  z3 := Tryz.sizeOf3,
  v3 := Tryz.zeroValue3,
  t4 := Tryz.underlying4,
  a4 := Tryz.isAgg4,
  z4 := Tryz.sizeOf4,
  v4 := Tryz.zeroValue4,
  t9 := Tryz.underlying9,
  a9 := Tryz.isAgg9,
  z9 := Tryz.sizeOf9,
  v9 := Tryz.zeroValue9,
  t20 := Tryz.underlying20,
  a20 := Tryz.isAgg20,
  z20 := Tryz.sizeOf20,
  v20 := Tryz.zeroValue20,
  t31 := Tryz.underlying337,
  a31 := Tryz.isAgg337,
  z31 := Tryz.sizeOf337,
  v31 := Tryz.zeroValue337,
  t37 := Tryz.underlying207,
  a37 := Tryz.isAgg207,
  z37 := Tryz.sizeOf207,
  v37 := Tryz.zeroValue207,
  t70 := Tryz.underlying231,
  a70 := Tryz.isAgg231,
  z70 := Tryz.sizeOf231,
  v70 := Tryz.zeroValue231,
  t72 := Tryz.underlying233,
  a72 := Tryz.isAgg233,
  z72 := Tryz.sizeOf233,
  v72 := Tryz.zeroValue233,
  t75 := Tryz.underlying237,
  a75 := Tryz.isAgg237,
  z75 := Tryz.sizeOf237,
  v75 := Tryz.zeroValue237,
  t76 := Tryz.underlying238,
  a76 := Tryz.isAgg238,
  z76 := Tryz.sizeOf238,
  v76 := Tryz.zeroValue238,
  t127 := Tryz.underlying346,
  a127 := Tryz.isAgg346,
  z127 := Tryz.sizeOf346,
  v127 := Tryz.zeroValue346,
  t164 := Tryz.underlying383,
  a164 := Tryz.isAgg383,
  z164 := Tryz.sizeOf383,
  v164 := Tryz.zeroValue383 }

theorem joX : Builder.Extra Tryz.prog joRen where
  sizeBuilder := by kernel_rfl
  liesBuilder := by kernel_rfl
  t5 := Tryz.underlying5
  a5 := Tryz.isAgg5
  z5 := Tryz.sizeOf5
  v5 := Tryz.zeroValue5
  infoByte := by kernel_rfl
  cellsByte := by kernel_rfl
  sizeByte := by kernel_rfl
  neB5 := by decide
theorem relCs_strs {P : Program} {ι : Names} : ∀ {ss : List (List UInt8)} {cs : List Value}, relCs P ι (ss.map V.str) cs → cs = ss.map fun s => Value.string ⟨s.toArray⟩
  | [], cs, h => by simpa only [List.map_nil, relCs] using h
  | s :: ss, cs, h => by
    simp only [List.map_cons, relCs, relC] at h
    obtain ⟨a, b, rfl, h2, rfl⟩ := h
    rw [relCs_strs h2]; rfl
/-- Texts joined. -/
theorem joinP (n : Nat) (own : Bool) (ss : List (List UInt8)) (sep : List UInt8) (h : AH) (hm : h.m n = some (.cells own (.row 9) (.agg (ss.map V.str)))) (hl : ss.length ≤ 1000) (hne : ss ≠ [])
    (hj : (Lib.join ss sep).length ≤ 140737488355328) : ACalls Pg 198 [.slc (some (⟨n, .row 9, []⟩, 0)) ss.length, .str sep] h (pureE (.str (Lib.join ss sep)) h) := by
  intro B ι W vs F r
  obtain ⟨v0, vs0, h0, r0, rfl⟩ := relL_cons_iff.1 r
  obtain ⟨v1, vs1, h1, r1, rfl⟩ := relL_cons_iff.1 r0
  simp only [relL] at r1
  subst r1
  obtain rfl := rel_str h1
  obtain ⟨q, cap, rfl, hcap, hrow⟩ := rel_slc h0
  have hlen0 : 0 < ss.length := List.length_pos_iff.2 hne
  obtain ⟨L, o, e, g1, g2, g3, g4, g5⟩ := hrow (by omega)
  obtain ⟨L', k1, k2, k3, a, b, c, elem, fr, k4, k5, k6, k7, k8⟩ := F.obj _ _ hm
  rw [g1] at k1; cases k1
  have hro : Go.Ab.rowAt Pg (.row 9) [] = some (0, 9) := rfl
  rw [hro] at g3; cases g3
  have hb : b = ss.map fun s => Value.string ⟨s.toArray⟩ := relCs_strs k7
  have hcell : ∀ (j : Nat) x, (ss.map fun s => (⟨s.toArray⟩ : ByteArray))[j]? = some x → W.cell? ⟨L.blk, L.off + j, none⟩ = some (.string x) := by
    intro j x hx
    rw [← k5]
    refine cell_in k4 j _ ?_
    rw [hb, List.getElem?_map]
    rw [List.getElem?_map] at hx
    cases hs : ss[j]? with
    | none => rw [hs] at hx; cases hx
    | some s => rw [hs] at hx; simp at hx; subst hx; rfl
  have hmm : (ss.map fun s => (⟨s.toArray⟩ : ByteArray)).map (·.data.toList) = ss := by
    rw [List.map_map]
    exact List.map_id'' (fun s => rfl) ss
  have hq : q = ⟨L.blk, L.off, none⟩ := by rw [g4]; simp
  have key := Any.strings_Join joLay joX L.blk L.off cap (ss.map fun s => (⟨s.toArray⟩ : ByteArray)) ⟨sep.toArray⟩ W hcell (getBlk_lt k4) (by simp; omega) (by simpa using hcap) (by rw [hmm]; simpa using hj)
  rw [hmm] at key
  simp only [List.length_map] at key
  rw [hq]
  refine Calls.mono key ?_
  rintro e w' ⟨rfl, bel⟩
  have hold : ∀ b, b < W.heap.size → w'.heap[b]? = W.heap[b]? := fun b hb => bel.block b hb
  refine ⟨ι, h, .ret _, Names.le_refl _, ?_, .inr ⟨rfl, by simp only [relC, Value.cells]⟩, rfl, rfl⟩
  exact (F.grow (fun _ => False) hold (fun _ h => h.elim) bel.os bel.tape bel.output bel.size).rebase (BaseLe.grow F _ hold bel.os bel.tape bel.output bel.size)
end Go.Proofs.YtcglbpjpbjaecaaGreat.Sj
