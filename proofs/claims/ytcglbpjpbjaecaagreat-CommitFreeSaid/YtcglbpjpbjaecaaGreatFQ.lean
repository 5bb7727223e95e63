import Derived.Test.YtcglbpjpbjaecaaGreatFT
set_option linter.unusedVariables false
set_option linter.unusedSimpArgs false
namespace Go.Proofs.YtcglbpjpbjaecaaGreat.Sh
open Go Go.Ab Go.RowKit
open Go.Proofs.YtcglbpjpbjaecaaGreat.Ru (Pg okP)
set_option maxRecDepth 100000
set_option linter.unusedVariables false
-- 141 varve/rec.May
noncomputable def B141 : Code := (Tryz.f141.body).getD .skip
def R141 : List ResultVar := [.tmp 2]
abbrev N141 : Nat := 30
def K141 : KT := (.seq .leaf (.join (.reg [[1, 6, 9], [1, 11, 15], [1, 17, 21], [23, 28]]) .leaf [2]) [1])
def J141_11 (Q : AEnd → AH → Prop) (x2 : V) (h : AH) : Prop := vcAt Pg N141 B141 K141 [1, 1] [] (vcRet Pg R141 Q) [(2, x2)] h
def G141_101008 (Q : AEnd → AH → Prop) (x23 x28 : V) (h : AH) : Prop := segAtD Pg N141 B141 K141 [1, 0] 8 4 26 [] (vcRet Pg R141 Q) [(23, x23), (28, x28)] h
def G141_101006 (Q : AEnd → AH → Prop) (x1 x17 x21 : V) (h : AH) : Prop := segAtD Pg N141 B141 K141 [1, 0] 6 3 19 [] (vcRet Pg R141 Q) [(1, x1), (17, x17), (21, x21)] h
def G141_101004 (Q : AEnd → AH → Prop) (x1 x11 x15 : V) (h : AH) : Prop := segAtD Pg N141 B141 K141 [1, 0] 4 2 13 [] (vcRet Pg R141 Q) [(1, x1), (11, x11), (15, x15)] h
def G141_101002 (Q : AEnd → AH → Prop) (x1 x6 x9 : V) (h : AH) : Prop := segAtD Pg N141 B141 K141 [1, 0] 2 1 7 [] (vcRet Pg R141 Q) [(1, x1), (6, x6), (9, x9)] h
theorem J141_11_eq (Q : AEnd → AH → Prop) (x2 : V) (h : AH) : J141_11 Q x2 h = (
  Q (.ret x2) h) := by kernel_rfl
theorem G141_101008_eq (Q : AEnd → AH → Prop) (x23 x28 : V) (h : AH) : G141_101008 Q x23 x28 h = (
  bindO (fstV (aPick x23 x28 (V.bool false) h)) fun v9 =>
  Meet (J141_11 Q v9 h)) := by kernel_rfl
theorem G141_101006_eq (Q : AEnd → AH → Prop) (x1 x17 x21 : V) (h : AH) : G141_101006 Q x1 x17 x21 h = (
  bindO (fstV (aPick x17 x21 (V.bool false) h)) fun v8 =>
  vcG v8 true (
  bindO (fstV (still (aFieldAddr Pg 134 x1 7) h)) fun v10 =>
  bindO (fstV (still (aFieldAddr Pg 123 v10 4) h)) fun v11 =>
  bindO (fstV (aLoadV Pg h 9 v11)) fun v12 =>
  bindO (fstV (aBuiltin Pg h .len [9] [v12])) fun v13 =>
  bindO (fstV (still (aBin Pg .leq 3 v13 (V.int .i64 66) true) h)) fun v14 =>
  Meet (G141_101008 Q v8 v14 h)) (Meet (G141_101008 Q v8 hole h))) := by kernel_rfl
theorem G141_101004_eq (Q : AEnd → AH → Prop) (x1 x11 x15 : V) (h : AH) : G141_101004 Q x1 x11 x15 h = (
  bindO (fstV (aPick x11 x15 (V.bool false) h)) fun v7 =>
  vcG v7 true (
  bindO (fstV (still (aFieldAddr Pg 134 x1 5) h)) fun v15 =>
  bindO (fstV (aLoadV Pg h 9 v15)) fun v16 =>
  bindO (fstV (aBuiltin Pg h .len [9] [v16])) fun v17 =>
  bindO (fstV (still (aBin Pg .leq 3 v17 (V.int .i64 66) true) h)) fun v18 =>
  Meet (G141_101006 Q x1 v7 v18 h)) (Meet (G141_101006 Q x1 v7 hole h))) := by kernel_rfl
theorem G141_101002_eq (Q : AEnd → AH → Prop) (x1 x6 x9 : V) (h : AH) : G141_101002 Q x1 x6 x9 h = (
  bindO (fstV (aPick x6 x9 (V.bool false) h)) fun v6 =>
  vcG v6 true (
  bindO (fstV (aLoadV Pg h 134 x1)) fun v19 =>
  ∃ v20, ACalls Pg 216 [v19] h (pureE v20 h) ∧ (
  bindO (fstV (aLoadV Pg h 134 x1)) fun v21 =>
  bindO (fstV (still (aBin Pg .eql 134 v20 v21 false) h)) fun v22 =>
  Meet (G141_101004 Q x1 v6 v22 h))) (Meet (G141_101004 Q x1 v6 hole h))) := by kernel_rfl
theorem S141 (Q : AEnd → AH → Prop) (a0 : V) (h : AH) : vc Pg N141 B141 K141 (vcRet Pg R141 Q) (initEnv 0 [a0]) h = (
  bindV (aNew Pg h 134 a0) fun v1 h2 =>
  bindO (fstV (still (aFieldAddr Pg 134 v1 0) h2)) fun v3 =>
  bindO (fstV (aLoadV Pg h2 5 v3)) fun v4 =>
  bindO (fstV (still (aBin Pg .geq 5 v4 (V.int .u8 1) true) h2)) fun v5 =>
  vcG v5 true (
  bindO (fstV (still (aFieldAddr Pg 134 v1 0) h2)) fun v23 =>
  bindO (fstV (aLoadV Pg h2 5 v23)) fun v24 =>
  bindO (fstV (still (aBin Pg .leq 5 v24 (V.int .u8 6) true) h2)) fun v25 =>
  Meet (G141_101002 Q v1 v5 v25 h2)) (Meet (G141_101002 Q v1 v5 hole h2))) := by kernel_rfl
theorem C141 (Q : AEnd → AH → Prop) (a0 : V) (h : AH) (c :
  bindV (aNew Pg h 134 a0) fun v1 h2 =>
  bindO (fstV (still (aFieldAddr Pg 134 v1 0) h2)) fun v3 =>
  bindO (fstV (aLoadV Pg h2 5 v3)) fun v4 =>
  bindO (fstV (still (aBin Pg .geq 5 v4 (V.int .u8 1) true) h2)) fun v5 =>
  vcG v5 true (
  bindO (fstV (still (aFieldAddr Pg 134 v1 0) h2)) fun v23 =>
  bindO (fstV (aLoadV Pg h2 5 v23)) fun v24 =>
  bindO (fstV (still (aBin Pg .leq 5 v24 (V.int .u8 6) true) h2)) fun v25 =>
  Meet (G141_101002 Q v1 v5 v25 h2)) (Meet (G141_101002 Q v1 v5 hole h2))) : ACalls Pg 141 [a0] h Q :=
  acalls_of_vc okP Tryz.func141 (show Tryz.f141.body = some B141 from by kernel_rfl) K141 (by rw [← S141 Q a0 h] at c; exact c)

-- 216 varve/rec.bare
noncomputable def B216 : Code := (Tryz.f216.body).getD .skip
def R216 : List ResultVar := [.cell 2 134]
abbrev N216 : Nat := 57
def K216 : KT := (.seq .leaf (.seq .leaf (.join (.seq .leaf (.one (.join (.one (.join (.one (.join (.one (.join (.one (.join (.one (.join (.join (.seq .leaf (.two .leaf .leaf) [1, 2, 3, 8, 9]) (.join (.seq .leaf (.two .leaf .leaf) [1, 2, 3, 8, 11]) (.join (.seq .leaf (.two .leaf .leaf) [1, 2, 3, 8, 13]) (.join (.join (.seq .leaf (.two .leaf .leaf) [1, 2, 3, 8, 15]) (.two .leaf .leaf) [1, 2, 3, 8, 15]) (.seq .leaf (.two .leaf .leaf) [1, 2, 3, 18]) [1, 2, 3, 8]) [1, 2, 3, 8]) [1, 2, 3, 8]) [1, 2, 3, 8]) .leaf [2, 3])) (.seq (.eff [5, 7]) .leaf [2, 3]) [1, 2, 3])) (.seq (.eff [11, 13, 15, 17]) .leaf [2, 3]) [1, 2, 3])) (.seq .leaf .leaf [1, 2, 3]) [1, 2, 3])) (.seq (.eff [7, 9]) .leaf [2, 3]) [1, 2, 3])) (.seq .leaf .leaf [2, 3]) [1, 2, 3])) [1, 2, 3, 8]) (.seq .leaf .leaf [2]) [2, 3]) [1, 2, 3]) [1, 2])
def J216_111 (Q : AEnd → AH → Prop) (x2 x3 : V) (h : AH) : Prop := vcAt Pg N216 B216 K216 [1, 1, 1] [] (vcRet Pg R216 Q) [(2, x2), (3, x3)] h
def J216_11010000000001 (Q : AEnd → AH → Prop) (x1 x2 x3 : V) (h : AH) : Prop := vcAt Pg N216 B216 K216 [1, 1, 0, 1, 0, 0, 0, 0, 0, 0, 0, 0, 0, 1] [] (vcRet Pg R216 Q) [(1, x1), (2, x2), (3, x3)] h
def J216_110100000001 (Q : AEnd → AH → Prop) (x1 x2 x3 : V) (h : AH) : Prop := vcAt Pg N216 B216 K216 [1, 1, 0, 1, 0, 0, 0, 0, 0, 0, 0, 1] [] (vcRet Pg R216 Q) [(1, x1), (2, x2), (3, x3)] h
def J216_11010001 (Q : AEnd → AH → Prop) (x1 x2 x3 : V) (h : AH) : Prop := vcAt Pg N216 B216 K216 [1, 1, 0, 1, 0, 0, 0, 1] [] (vcRet Pg R216 Q) [(1, x1), (2, x2), (3, x3)] h
def J216_1101000001 (Q : AEnd → AH → Prop) (x1 x2 x3 : V) (h : AH) : Prop := vcAt Pg N216 B216 K216 [1, 1, 0, 1, 0, 0, 0, 0, 0, 1] [] (vcRet Pg R216 Q) [(1, x1), (2, x2), (3, x3)] h
def J216_110101 (Q : AEnd → AH → Prop) (x1 x2 x3 : V) (h : AH) : Prop := vcAt Pg N216 B216 K216 [1, 1, 0, 1, 0, 1] [] (vcRet Pg R216 Q) [(1, x1), (2, x2), (3, x3)] h
def J216_1101000000000001 (Q : AEnd → AH → Prop) (x2 x3 : V) (h : AH) : Prop := vcAt Pg N216 B216 K216 [1, 1, 0, 1, 0, 0, 0, 0, 0, 0, 0, 0, 0, 0, 0, 1] [] (vcRet Pg R216 Q) [(2, x2), (3, x3)] h
def J216_11010000000000001111 (Q : AEnd → AH → Prop) (x1 x2 x3 x8 : V) (h : AH) : Prop := vcAt Pg N216 B216 K216 [1, 1, 0, 1, 0, 0, 0, 0, 0, 0, 0, 0, 0, 0, 0, 0, 1, 1, 1, 1] [] (vcRet Pg R216 Q) [(1, x1), (2, x2), (3, x3), (8, x8)] h
def J216_110100000000000011101 (Q : AEnd → AH → Prop) (x1 x2 x3 x8 x15 : V) (h : AH) : Prop := vcAt Pg N216 B216 K216 [1, 1, 0, 1, 0, 0, 0, 0, 0, 0, 0, 0, 0, 0, 0, 0, 1, 1, 1, 0, 1] [] (vcRet Pg R216 Q) [(1, x1), (2, x2), (3, x3), (8, x8), (15, x15)] h
def J216_1101000000000000111 (Q : AEnd → AH → Prop) (x1 x2 x3 x8 : V) (h : AH) : Prop := vcAt Pg N216 B216 K216 [1, 1, 0, 1, 0, 0, 0, 0, 0, 0, 0, 0, 0, 0, 0, 0, 1, 1, 1] [] (vcRet Pg R216 Q) [(1, x1), (2, x2), (3, x3), (8, x8)] h
def J216_110100000000000011 (Q : AEnd → AH → Prop) (x1 x2 x3 x8 : V) (h : AH) : Prop := vcAt Pg N216 B216 K216 [1, 1, 0, 1, 0, 0, 0, 0, 0, 0, 0, 0, 0, 0, 0, 0, 1, 1] [] (vcRet Pg R216 Q) [(1, x1), (2, x2), (3, x3), (8, x8)] h
def J216_11010000000000001 (Q : AEnd → AH → Prop) (x1 x2 x3 x8 : V) (h : AH) : Prop := vcAt Pg N216 B216 K216 [1, 1, 0, 1, 0, 0, 0, 0, 0, 0, 0, 0, 0, 0, 0, 0, 1] [] (vcRet Pg R216 Q) [(1, x1), (2, x2), (3, x3), (8, x8)] h
theorem J216_111_eq (Q : AEnd → AH → Prop) (x2 x3 : V) (h : AH) : J216_111 Q x2 x3 h = (
  bindV (aLoadV Pg h 134 x3) fun v31 h32 =>
  bindV (aStoreV Pg h32 134 x2 v31) fun _ h34 =>
  bindR (aRes Pg [(2, x2)] h34 R216) fun v => Q (.ret v) h34) := by kernel_rfl
theorem J216_11010000000001_eq (Q : AEnd → AH → Prop) (x1 x2 x3 : V) (h : AH) : J216_11010000000001 Q x1 x2 x3 h = (
  bindO (fstV (still (aFieldAddr Pg 134 x1 1) h)) fun v21 =>
  bindO (fstV (aLoadV Pg h 108 v21)) fun v22 =>
  (
  bindO (fstV (still (aFieldAddr Pg 134 x1 2) h)) fun v23 =>
  bindO (fstV (aLoadV Pg h 111 v23)) fun v24 =>
  (
  bindO (fstV (still (aFieldAddr Pg 134 x3 1) h)) fun v25 =>
  bindV (aStoreV Pg h 108 v25 v22) fun _ h27 => (aLoadV Pg h27 111 v23 = some (v24, h27)) ∧ (
  bindO (fstV (still (aFieldAddr Pg 134 x3 2) h27)) fun v28 =>
  bindV (aStoreV Pg h27 111 v28 v24) fun _ h30 => (
  Meet (J216_111 Q x2 x3 h30)))))) := by kernel_rfl
theorem J216_110100000001_eq (Q : AEnd → AH → Prop) (x1 x2 x3 : V) (h : AH) : J216_110100000001 Q x1 x2 x3 h = (
  bindO (fstV (still (aFieldAddr Pg 134 x1 1) h)) fun v37 =>
  bindO (fstV (still (aFieldAddr Pg 108 v37 1) h)) fun v38 =>
  bindO (fstV (aLoadV Pg h 22 v38)) fun v39 =>
  (
  bindO (fstV (still (aFieldAddr Pg 134 x1 3) h)) fun v40 =>
  bindO (fstV (aLoadV Pg h 31 v40)) fun v41 =>
  (
  bindO (fstV (still (aFieldAddr Pg 134 x1 4) h)) fun v42 =>
  bindO (fstV (aLoadV Pg h 24 v42)) fun v43 =>
  (
  bindO (fstV (still (aFieldAddr Pg 134 x1 5) h)) fun v44 =>
  bindO (fstV (aLoadV Pg h 9 v44)) fun v45 =>
  (
  bindO (fstV (still (aFieldAddr Pg 134 x3 1) h)) fun v46 =>
  bindO (fstV (still (aFieldAddr Pg 108 v46 1) h)) fun v47 =>
  bindV (aStoreV Pg h 22 v47 v39) fun _ h49 => (aLoadV Pg h49 9 v44 = some (v45, h49)) ∧ (aLoadV Pg h49 24 v42 = some (v43, h49)) ∧ (aLoadV Pg h49 31 v40 = some (v41, h49)) ∧ (
  bindO (fstV (still (aFieldAddr Pg 134 x3 3) h49)) fun v50 =>
  bindV (aStoreV Pg h49 31 v50 v41) fun _ h52 => (aLoadV Pg h52 9 v44 = some (v45, h52)) ∧ (aLoadV Pg h52 24 v42 = some (v43, h52)) ∧ (
  bindO (fstV (still (aFieldAddr Pg 134 x3 4) h52)) fun v53 =>
  bindV (aStoreV Pg h52 24 v53 v43) fun _ h55 => (aLoadV Pg h55 9 v44 = some (v45, h55)) ∧ (
  bindO (fstV (still (aFieldAddr Pg 134 x3 5) h55)) fun v56 =>
  bindV (aStoreV Pg h55 9 v56 v45) fun _ h58 => (
  Meet (J216_111 Q x2 x3 h58)))))))))) := by kernel_rfl
theorem J216_11010001_eq (Q : AEnd → AH → Prop) (x1 x2 x3 : V) (h : AH) : J216_11010001 Q x1 x2 x3 h = (
  bindO (fstV (still (aFieldAddr Pg 134 x1 1) h)) fun v75 =>
  bindO (fstV (still (aFieldAddr Pg 108 v75 1) h)) fun v76 =>
  bindO (fstV (aLoadV Pg h 22 v76)) fun v77 =>
  (
  bindO (fstV (still (aBuild Pg 108 [(0, (V.bool true)), (1, v77)]) h)) fun v78 =>
  bindO (fstV (still (aFieldAddr Pg 134 x1 6) h)) fun v79 =>
  bindO (fstV (aLoadV Pg h 5 v79)) fun v80 =>
  (
  bindO (fstV (still (aFieldAddr Pg 134 x3 1) h)) fun v81 =>
  bindV (aStoreV Pg h 108 v81 v78) fun _ h83 => (aLoadV Pg h83 5 v79 = some (v80, h83)) ∧ (
  bindO (fstV (still (aFieldAddr Pg 134 x3 6) h83)) fun v84 =>
  bindV (aStoreV Pg h83 5 v84 v80) fun _ h86 => (
  Meet (J216_111 Q x2 x3 h86)))))) := by kernel_rfl
theorem J216_1101000001_eq (Q : AEnd → AH → Prop) (x1 x2 x3 : V) (h : AH) : J216_1101000001 Q x1 x2 x3 h = (
  bindV (still (aFieldAddr Pg 134 x1 7) h) fun v61 h62 =>
  bindV (aLoadV Pg h62 123 v61) fun v63 h64 =>
  bindV (still (aFieldAddr Pg 134 x3 7) h64) fun v65 h66 =>
  bindV (aStoreV Pg h66 123 v65 v63) fun _ h68 =>
  bindV (still (aFieldAddr Pg 134 x3 7) h68) fun v69 h70 =>
  bindV (still (aFieldAddr Pg 123 v69 0) h70) fun v71 h72 =>
  bindV (aStoreV Pg h72 4 v71 (V.bool true)) fun _ h74 =>
  Meet (J216_11010001 Q x1 x2 x3 h74)) := by kernel_rfl
theorem J216_110101_eq (Q : AEnd → AH → Prop) (x1 x2 x3 : V) (h : AH) : J216_110101 Q x1 x2 x3 h = (
  bindV (still (aFieldAddr Pg 134 x1 3) h) fun v91 h92 =>
  bindV (aLoadV Pg h92 31 v91) fun v93 h94 =>
  bindV (still (aFieldAddr Pg 134 x3 3) h94) fun v95 h96 =>
  bindV (aStoreV Pg h96 31 v95 v93) fun _ h98 =>
  Meet (J216_111 Q x2 x3 h98)) := by kernel_rfl
theorem J216_1101000000000001_eq (Q : AEnd → AH → Prop) (x2 x3 : V) (h : AH) : J216_1101000000000001 Q x2 x3 h = (
  Meet (J216_111 Q x2 x3 h)) := by kernel_rfl
theorem J216_11010000000000001111_eq (Q : AEnd → AH → Prop) (x1 x2 x3 x8 : V) (h : AH) : J216_11010000000000001111 Q x1 x2 x3 x8 h = (
  bindV (still (aBin Pg .eql 5 x8 (V.int .u8 6) true) h) fun v89 h90 =>
  vcIf v89 (
  Meet (J216_110101 Q x1 x2 x3 h90)) (
  Meet (J216_1101000000000001 Q x2 x3 h90))) := by kernel_rfl
theorem J216_110100000000000011101_eq (Q : AEnd → AH → Prop) (x1 x2 x3 x8 x15 : V) (h : AH) : J216_110100000000000011101 Q x1 x2 x3 x8 x15 h = (
  vcIf x15 (
  Meet (J216_11010001 Q x1 x2 x3 h)) (
  Meet (J216_11010000000000001111 Q x1 x2 x3 x8 h))) := by kernel_rfl
theorem J216_1101000000000000111_eq (Q : AEnd → AH → Prop) (x1 x2 x3 x8 : V) (h : AH) : J216_1101000000000000111 Q x1 x2 x3 x8 h = (
  bindV (still (aBin Pg .eql 5 x8 (V.int .u8 4) true) h) fun v87 h88 =>
  vcIf v87 (
  Meet (J216_110100000000000011101 Q x1 x2 x3 x8 v87 h88)) (
  bindV (still (aBin Pg .eql 5 x8 (V.int .u8 5) true) h88) fun v99 h100 =>
  Meet (J216_110100000000000011101 Q x1 x2 x3 x8 v99 h100))) := by kernel_rfl
theorem J216_110100000000000011_eq (Q : AEnd → AH → Prop) (x1 x2 x3 x8 : V) (h : AH) : J216_110100000000000011 Q x1 x2 x3 x8 h = (
  bindV (still (aBin Pg .eql 5 x8 (V.int .u8 3) true) h) fun v59 h60 =>
  vcIf v59 (
  Meet (J216_1101000001 Q x1 x2 x3 h60)) (
  Meet (J216_1101000000000000111 Q x1 x2 x3 x8 h60))) := by kernel_rfl
theorem J216_11010000000000001_eq (Q : AEnd → AH → Prop) (x1 x2 x3 x8 : V) (h : AH) : J216_11010000000000001 Q x1 x2 x3 x8 h = (
  bindV (still (aBin Pg .eql 5 x8 (V.int .u8 2) true) h) fun v35 h36 =>
  vcIf v35 (
  Meet (J216_110100000001 Q x1 x2 x3 h36)) (
  Meet (J216_110100000000000011 Q x1 x2 x3 x8 h36))) := by kernel_rfl
theorem S216 (Q : AEnd → AH → Prop) (a0 : V) (h : AH) : vc Pg N216 B216 K216 (vcRet Pg R216 Q) (initEnv 0 [a0]) h = (
  bindV (aNew Pg h 134 a0) fun v1 h2 =>
  bindV (aAlloc Pg h2 134) fun v3 h4 =>
  bindV (still (aFieldAddr Pg 134 v1 0) h4) fun v5 h6 =>
  bindV (aLoadV Pg h6 5 v5) fun v7 h8 =>
  bindV (still (aBuild Pg 134 [(0, v7)]) h8) fun v9 h10 =>
  bindV (aAlloc Pg h10 134) fun v11 h12 =>
  bindV (aStoreV Pg h12 134 v11 v9) fun _ h14 =>
  bindV (still (aFieldAddr Pg 134 v1 0) h14) fun v15 h16 =>
  bindV (aLoadV Pg h16 5 v15) fun v17 h18 =>
  bindV (still (aBin Pg .eql 5 v17 (V.int .u8 1) true) h18) fun v19 h20 =>
  vcIf v19 (
  Meet (J216_11010000000001 Q v1 v3 v11 h20)) (
  Meet (J216_11010000000000001 Q v1 v3 v11 v17 h20))) := by kernel_rfl
theorem C216 (Q : AEnd → AH → Prop) (a0 : V) (h : AH) (c :
  bindV (aNew Pg h 134 a0) fun v1 h2 =>
  bindV (aAlloc Pg h2 134) fun v3 h4 =>
  bindV (still (aFieldAddr Pg 134 v1 0) h4) fun v5 h6 =>
  bindV (aLoadV Pg h6 5 v5) fun v7 h8 =>
  bindV (still (aBuild Pg 134 [(0, v7)]) h8) fun v9 h10 =>
  bindV (aAlloc Pg h10 134) fun v11 h12 =>
  bindV (aStoreV Pg h12 134 v11 v9) fun _ h14 =>
  bindV (still (aFieldAddr Pg 134 v1 0) h14) fun v15 h16 =>
  bindV (aLoadV Pg h16 5 v15) fun v17 h18 =>
  bindV (still (aBin Pg .eql 5 v17 (V.int .u8 1) true) h18) fun v19 h20 =>
  vcIf v19 (
  Meet (J216_11010000000001 Q v1 v3 v11 h20)) (
  Meet (J216_11010000000000001 Q v1 v3 v11 v17 h20))) : ACalls Pg 216 [a0] h Q :=
  acalls_of_vc okP Tryz.func216 (show Tryz.f216.body = some B216 from by kernel_rfl) K216 (by rw [← S216 Q a0 h] at c; exact c)

-- 265 varve/crc.More
noncomputable def B265 : Code := (Tryz.f265.body).getD .skip
def R265 : List ResultVar := [.tmp 4]
abbrev N265 : Nat := 28
def K265 : KT := (.seq .leaf (.seq .leaf (.join (.seq .leaf (.one (.loop (.join (.seq .leaf (.two .leaf .leaf) [1, 5, 6, 12]) (.join (.one (.seq .leaf (.seq .leaf (.one (.loop (.seq .leaf (.join (.two .leaf .leaf) (.join (.one .leaf) .leaf [1, 5, 6, 21]) [1, 5, 6, 21]) [1, 5, 6, 21, 22]) [1, 5, 6, 21])) [1, 5, 6, 21]) [1, 5, 6])) .leaf [1, 5, 6]) [1, 5, 6]) [1, 5, 6])) [1, 5, 6]) (.seq .leaf .leaf [4]) [5]) [1, 5]) [0, 1])
def J265_1101001001100111 (Q : AEnd → AH → Prop) (n n1 : Nat) (x1 x5 x6 x21 : V) (h : AH) : Prop := vcAt Pg N265 B265 K265 [1, 1, 0, 1, 0, 0, 1, 0, 0, 1, 1, 0, 0, 1, 1, 1] [n, n1] (vcRet Pg R265 Q) [(1, x1), (5, x5), (6, x6), (21, x21)] h
def J265_110100100110011 (Q : AEnd → AH → Prop) (n n1 : Nat) (x1 x5 x6 x21 : V) (h : AH) : Prop := vcAt Pg N265 B265 K265 [1, 1, 0, 1, 0, 0, 1, 0, 0, 1, 1, 0, 0, 1, 1] [n, n1] (vcRet Pg R265 Q) [(1, x1), (5, x5), (6, x6), (21, x21)] h
def J265_11010011 (Q : AEnd → AH → Prop) (n : Nat) (x1 x5 x6 : V) (h : AH) : Prop := vcAt Pg N265 B265 K265 [1, 1, 0, 1, 0, 0, 1, 1] [n] (vcRet Pg R265 Q) [(1, x1), (5, x5), (6, x6)] h
def L265_110100100110 (Q : AEnd → AH → Prop) (n : Nat) (n1 : Nat) (x1 x5 x6 x21 : V) (h : AH) : Prop := loopAt Pg N265 B265 K265 [1, 1, 0, 1, 0, 0, 1, 0, 0, 1, 1, 0] [n] n1 (vcRet Pg R265 Q) [(1, x1), (5, x5), (6, x6), (21, x21)] h
def J265_1101001 (Q : AEnd → AH → Prop) (n : Nat) (x1 x5 x6 : V) (h : AH) : Prop := vcAt Pg N265 B265 K265 [1, 1, 0, 1, 0, 0, 1] [n] (vcRet Pg R265 Q) [(1, x1), (5, x5), (6, x6)] h
def J265_111 (Q : AEnd → AH → Prop) (x5 : V) (h : AH) : Prop := vcAt Pg N265 B265 K265 [1, 1, 1] [] (vcRet Pg R265 Q) [(5, x5)] h
def L265_11010 (Q : AEnd → AH → Prop) (n : Nat) (x1 x5 x6 : V) (h : AH) : Prop := loopAt Pg N265 B265 K265 [1, 1, 0, 1, 0] [] n (vcRet Pg R265 Q) [(1, x1), (5, x5), (6, x6)] h
theorem J265_1101001001100111_eq (Q : AEnd → AH → Prop) (n n1 : Nat) (x1 x5 x6 x21 : V) (h : AH) : J265_1101001001100111 Q n n1 x1 x5 x6 x21 h = (
  bindV (still (aBin Pg .add 3 x21 (V.int .i64 1) true) h) fun v17 h18 =>
  Meet (L265_110100100110 Q n n1 x1 x5 x6 v17 h18)) := by kernel_rfl
theorem J265_110100100110011_eq (Q : AEnd → AH → Prop) (n n1 : Nat) (x1 x5 x6 x21 : V) (h : AH) : J265_110100100110011 Q n n1 x1 x5 x6 x21 h = (
  ACalls Pg 294 [x5] h (aEnd (fun v15 h16 =>
  Meet (J265_1101001001100111 Q n n1 x1 v15 x6 x21 h16)) fun v h => Q (.panic v) h)) := by kernel_rfl
theorem J265_11010011_eq (Q : AEnd → AH → Prop) (n : Nat) (x1 x5 x6 : V) (h : AH) : J265_11010011 Q n x1 x5 x6 h = (
  bindV (still (aBin Pg .add 3 x6 (V.int .i64 1) true) h) fun v19 h20 =>
  Meet (L265_11010 Q n x1 x5 v19 h20)) := by kernel_rfl
theorem L265_110100100110_eq (Q : AEnd → AH → Prop) (n : Nat) (n1 : Nat) (x1 x5 x6 x21 : V) (h : AH) : L265_110100100110 Q n (n1 + 1) x1 x5 x6 x21 h = (
  bindV (still (aBin Pg .lss 3 x21 (V.int .i64 8) true) h) fun v13 h14 =>
  vcIf v13 (
  Meet (J265_110100100110011 Q n n1 x1 x5 x6 x21 h14)) (
  Meet (J265_11010011 Q n x1 x5 x6 h14))) := by kernel_rfl
theorem J265_1101001_eq (Q : AEnd → AH → Prop) (n : Nat) (x1 x5 x6 : V) (h : AH) : J265_1101001 Q n x1 x5 x6 h = (
  bindV (still (aIndex Pg 9 x1 x6) h) fun v7 h8 =>
  bindV (still (aConv Pg h8 5 31 v7) h8) fun v9 h10 =>
  bindV (still (aBin Pg .xor 31 x5 v9 false) h10) fun v11 h12 =>
  ∃ n1, Meet (L265_110100100110 Q n n1 x1 v11 x6 (V.int .i64 0) h12)) := by kernel_rfl
theorem J265_111_eq (Q : AEnd → AH → Prop) (x5 : V) (h : AH) : J265_111 Q x5 h = (
  bindV (still (aUn .xor x5) h) fun v21 h22 =>
  Q (.ret v21) h22) := by kernel_rfl
theorem L265_11010_eq (Q : AEnd → AH → Prop) (n : Nat) (x1 x5 x6 : V) (h : AH) : L265_11010 Q (n + 1) x1 x5 x6 h = (
  bindV (aBuiltin Pg h .len [9] [x1]) fun v3 h4 =>
  bindV (still (aBin Pg .lss 3 x6 v3 false) h4) fun v5 h6 =>
  vcIf v5 (
  Meet (J265_1101001 Q n x1 x5 x6 h6)) (
  Meet (J265_111 Q x5 h6))) := by kernel_rfl
theorem S265 (Q : AEnd → AH → Prop) (a0 a1 : V) (h : AH) : vc Pg N265 B265 K265 (vcRet Pg R265 Q) (initEnv 0 [a0, a1]) h = (
  bindV (still (aUn .xor a0) h) fun v1 h2 =>
  ∃ n, Meet (L265_11010 Q n a1 v1 (V.int .i64 0) h2)) := by kernel_rfl
theorem C265 (Q : AEnd → AH → Prop) (a0 a1 : V) (h : AH) (c :
  bindV (still (aUn .xor a0) h) fun v1 h2 =>
  ∃ n, Meet (L265_11010 Q n a1 v1 (V.int .i64 0) h2)) : ACalls Pg 265 [a0, a1] h Q :=
  acalls_of_vc okP Tryz.func265 (show Tryz.f265.body = some B265 from by kernel_rfl) K265 (by rw [← S265 Q a0 a1 h] at c; exact c)

-- 294 varve/crc.step
noncomputable def B294 : Code := (Tryz.f294.body).getD .skip
def R294 : List ResultVar := [.tmp 2]
abbrev N294 : Nat := 10
def K294 : KT := (.seq .leaf (.seq .leaf .leaf [2]) [0])
theorem S294 (Q : AEnd → AH → Prop) (a0 : V) (h : AH) : vc Pg N294 B294 K294 (vcRet Pg R294 Q) (initEnv 0 [a0]) h = (
  bindV (still (aBin Pg .shr 31 a0 (V.int .u64 1) true) h) fun v1 h2 =>
  bindV (still (aBin Pg .and 31 a0 (V.int .u32 1) true) h2) fun v3 h4 =>
  bindV (still (aUn .neg v3) h4) fun v5 h6 =>
  bindV (still (aBin Pg .and 31 (V.int .u32 3988292384) v5 true) h6) fun v7 h8 =>
  bindV (still (aBin Pg .xor 31 v1 v7 false) h8) fun v9 h10 =>
  Q (.ret v9) h10) := by kernel_rfl
theorem C294 (Q : AEnd → AH → Prop) (a0 : V) (h : AH) (c :
  bindV (still (aBin Pg .shr 31 a0 (V.int .u64 1) true) h) fun v1 h2 =>
  bindV (still (aBin Pg .and 31 a0 (V.int .u32 1) true) h2) fun v3 h4 =>
  bindV (still (aUn .neg v3) h4) fun v5 h6 =>
  bindV (still (aBin Pg .and 31 (V.int .u32 3988292384) v5 true) h6) fun v7 h8 =>
  bindV (still (aBin Pg .xor 31 v1 v7 false) h8) fun v9 h10 =>
  Q (.ret v9) h10) : ACalls Pg 294 [a0] h Q :=
  acalls_of_vc okP Tryz.func294 (show Tryz.f294.body = some B294 from by kernel_rfl) K294 (by rw [← S294 Q a0 h] at c; exact c)

end Go.Proofs.YtcglbpjpbjaecaaGreat.Sh
namespace Go.Proofs.YtcglbpjpbjaecaaGreat.Sh
open Go Go.Ab Go.RowKit
open Go.Proofs.YtcglbpjpbjaecaaGreat.Ru (Pg okP)
set_option maxRecDepth 100000
set_option linter.unusedVariables false
-- 3 varve/varvelaw21.CommitFree
noncomputable def B3 : Code := (Tryz.f3.body).getD .skip
def R3 : List ResultVar := [.tmp 2]
abbrev N3 : Nat := 65
def K3 : KT := (.seq .leaf (.seq .leaf (.join (.join (.reg [[1, 4, 13, 17]]) (.two (.seq .leaf .leaf [2]) .leaf) [1, 4, 18]) (.seq .leaf (.seq .leaf (.join (.one (.seq .leaf (.two (.join (.reg [[31, 33], [35, 36]]) .leaf [2]) (.join (.reg [[5, 6, 42, 45]]) (.two (.join (.reg [[49, 51], [53, 54]]) .leaf [2]) .leaf) [5, 6, 38])) [1, 5, 6, 25])) (.join (.reg [[58, 60], [62, 63]]) .leaf [2]) [5, 6]) [1, 5, 6]) [1, 4, 5]) [1, 4]) [1, 4]) [1])
def J3_1111100101 (Q : AEnd → AH → Prop) (x2 : V) (h : AH) : Prop := vcAt Pg N3 B3 K3 [1, 1, 1, 1, 1, 0, 0, 1, 0, 1] [] (vcRet Pg R3 Q) [(2, x2)] h
def G3_11111001001004 (Q : AEnd → AH → Prop) (x35 x36 : V) (h : AH) : Prop := segAt Pg N3 B3 K3 [1, 1, 1, 1, 1, 0, 0, 1, 0, 0] 4 2 [] (vcRet Pg R3 Q) [(35, x35), (36, x36)] h
def G3_11111001001002 (Q : AEnd → AH → Prop) (x31 x33 : V) (h : AH) : Prop := segAt Pg N3 B3 K3 [1, 1, 1, 1, 1, 0, 0, 1, 0, 0] 2 1 [] (vcRet Pg R3 Q) [(31, x31), (33, x33)] h
def J3_111110011101 (Q : AEnd → AH → Prop) (x2 : V) (h : AH) : Prop := vcAt Pg N3 B3 K3 [1, 1, 1, 1, 1, 0, 0, 1, 1, 1, 0, 1] [] (vcRet Pg R3 Q) [(2, x2)] h
def G3_1111100111001004 (Q : AEnd → AH → Prop) (x53 x54 : V) (h : AH) : Prop := segAt Pg N3 B3 K3 [1, 1, 1, 1, 1, 0, 0, 1, 1, 1, 0, 0] 4 2 [] (vcRet Pg R3 Q) [(53, x53), (54, x54)] h
def G3_1111100111001002 (Q : AEnd → AH → Prop) (x49 x51 : V) (h : AH) : Prop := segAt Pg N3 B3 K3 [1, 1, 1, 1, 1, 0, 0, 1, 1, 1, 0, 0] 2 1 [] (vcRet Pg R3 Q) [(49, x49), (51, x51)] h
def J3_1111111 (Q : AEnd → AH → Prop) (x2 : V) (h : AH) : Prop := vcAt Pg N3 B3 K3 [1, 1, 1, 1, 1, 1, 1] [] (vcRet Pg R3 Q) [(2, x2)] h
def G3_11111101004 (Q : AEnd → AH → Prop) (x62 x63 : V) (h : AH) : Prop := segAt Pg N3 B3 K3 [1, 1, 1, 1, 1, 1, 0] 4 2 [] (vcRet Pg R3 Q) [(62, x62), (63, x63)] h
def G3_11111101002 (Q : AEnd → AH → Prop) (x58 x60 : V) (h : AH) : Prop := segAt Pg N3 B3 K3 [1, 1, 1, 1, 1, 1, 0] 2 1 [] (vcRet Pg R3 Q) [(58, x58), (60, x60)] h
def J3_111111 (Q : AEnd → AH → Prop) (x5 x6 : V) (h : AH) : Prop := vcAt Pg N3 B3 K3 [1, 1, 1, 1, 1, 1] [] (vcRet Pg R3 Q) [(5, x5), (6, x6)] h
def J3_1111100111 (Q : AEnd → AH → Prop) (x5 x6 x38 : V) (h : AH) : Prop := vcAt Pg N3 B3 K3 [1, 1, 1, 1, 1, 0, 0, 1, 1, 1] [] (vcRet Pg R3 Q) [(5, x5), (6, x6), (38, x38)] h
def G3_11111001101002 (Q : AEnd → AH → Prop) (x5 x6 x42 x45 : V) (h : AH) : Prop := segAt Pg N3 B3 K3 [1, 1, 1, 1, 1, 0, 0, 1, 1, 0] 2 1 [] (vcRet Pg R3 Q) [(5, x5), (6, x6), (42, x42), (45, x45)] h
def J3_111 (Q : AEnd → AH → Prop) (x1 x4 : V) (h : AH) : Prop := vcAt Pg N3 B3 K3 [1, 1, 1] [] (vcRet Pg R3 Q) [(1, x1), (4, x4)] h
def J3_1101 (Q : AEnd → AH → Prop) (x1 x4 x18 : V) (h : AH) : Prop := vcAt Pg N3 B3 K3 [1, 1, 0, 1] [] (vcRet Pg R3 Q) [(1, x1), (4, x4), (18, x18)] h
def G3_11001002 (Q : AEnd → AH → Prop) (x1 x4 x13 x17 : V) (h : AH) : Prop := segAt Pg N3 B3 K3 [1, 1, 0, 0] 2 1 [] (vcRet Pg R3 Q) [(1, x1), (4, x4), (13, x13), (17, x17)] h
theorem J3_1111100101_eq (Q : AEnd → AH → Prop) (x2 : V) (h : AH) : J3_1111100101 Q x2 h = (
  Q (.ret x2) h) := by kernel_rfl
theorem G3_11111001001004_eq (Q : AEnd → AH → Prop) (x35 x36 : V) (h : AH) : G3_11111001001004 Q x35 x36 h = (
  bindV (aPick x35 x36 (V.bool false) h) fun v31 h32 =>
  Meet (J3_1111100101 Q v31 h32)) := by kernel_rfl
theorem G3_11111001001002_eq (Q : AEnd → AH → Prop) (x31 x33 : V) (h : AH) : G3_11111001001002 Q x31 x33 h = (
  bindV (aPick x31 x33 (V.bool false) h) fun v29 h30 =>
  vcG v29 true (
  ACalls Pg 18 [] h30 (aEnd (fun v33 h34 =>
  Meet (G3_11111001001004 Q v29 v33 h34)) fun v h => Q (.panic v) h)) (Meet (G3_11111001001004 Q v29 hole h30))) := by kernel_rfl
theorem J3_111110011101_eq (Q : AEnd → AH → Prop) (x2 : V) (h : AH) : J3_111110011101 Q x2 h = (
  Q (.ret x2) h) := by kernel_rfl
theorem G3_1111100111001004_eq (Q : AEnd → AH → Prop) (x53 x54 : V) (h : AH) : G3_1111100111001004 Q x53 x54 h = (
  bindV (aPick x53 x54 (V.bool false) h) fun v49 h50 =>
  Meet (J3_111110011101 Q v49 h50)) := by kernel_rfl
theorem G3_1111100111001002_eq (Q : AEnd → AH → Prop) (x49 x51 : V) (h : AH) : G3_1111100111001002 Q x49 x51 h = (
  bindV (aPick x49 x51 (V.bool false) h) fun v47 h48 =>
  vcG v47 true (
  ACalls Pg 18 [] h48 (aEnd (fun v51 h52 =>
  Meet (G3_1111100111001004 Q v47 v51 h52)) fun v h => Q (.panic v) h)) (Meet (G3_1111100111001004 Q v47 hole h48))) := by kernel_rfl
theorem J3_1111111_eq (Q : AEnd → AH → Prop) (x2 : V) (h : AH) : J3_1111111 Q x2 h = (
  Q (.ret x2) h) := by kernel_rfl
theorem G3_11111101004_eq (Q : AEnd → AH → Prop) (x62 x63 : V) (h : AH) : G3_11111101004 Q x62 x63 h = (
  bindV (aPick x62 x63 (V.bool false) h) fun v59 h60 =>
  Meet (J3_1111111 Q v59 h60)) := by kernel_rfl
theorem G3_11111101002_eq (Q : AEnd → AH → Prop) (x58 x60 : V) (h : AH) : G3_11111101002 Q x58 x60 h = (
  bindV (aPick x58 x60 (V.bool false) h) fun v57 h58 =>
  vcG v57 true (
  ACalls Pg 18 [] h58 (aEnd (fun v61 h62 =>
  Meet (G3_11111101004 Q v57 v61 h62)) fun v h => Q (.panic v) h)) (Meet (G3_11111101004 Q v57 hole h58))) := by kernel_rfl
theorem J3_111111_eq (Q : AEnd → AH → Prop) (x5 x6 : V) (h : AH) : J3_111111 Q x5 x6 h = (
  bindV (still (aBin Pg .eql 29 x5 (V.int .i64 2) true) h) fun v55 h56 =>
  vcG v55 true (
  bindV (still (aBin Pg .eql 3 x6 (V.int .i64 1) true) h56) fun v63 h64 =>
  Meet (G3_11111101002 Q v55 v63 h64)) (Meet (G3_11111101002 Q v55 hole h56))) := by kernel_rfl
theorem J3_1111100111_eq (Q : AEnd → AH → Prop) (x5 x6 x38 : V) (h : AH) : J3_1111100111 Q x5 x6 x38 h = (
  vcIf x38 (
  bindV (still (aBin Pg .eql 29 x5 (V.int .i64 1) true) h) fun v45 h46 =>
  vcG v45 true (
  bindV (still (aBin Pg .eql 3 x6 (V.int .i64 1) true) h46) fun v53 h54 =>
  Meet (G3_1111100111001002 Q v45 v53 h54)) (Meet (G3_1111100111001002 Q v45 hole h46))) (
  Meet (J3_111111 Q x5 x6 h))) := by kernel_rfl
theorem G3_11111001101002_eq (Q : AEnd → AH → Prop) (x5 x6 x42 x45 : V) (h : AH) : G3_11111001101002 Q x5 x6 x42 x45 h = (
  bindV (aPick x42 (V.bool true) x45 h) fun v43 h44 =>
  Meet (J3_1111100111 Q x5 x6 v43 h44)) := by kernel_rfl
theorem J3_111_eq (Q : AEnd → AH → Prop) (x1 x4 : V) (h : AH) : J3_111 Q x1 x4 h = (
  bindV (aLoadV Pg h 24 x1) fun v13 h14 =>
  ACalls Pg 15 [x4, v13] h14 (aEnd (fun v15 h16 =>
  ACalls Pg 16 [x4] h16 (aEnd (fun v17 h18 =>
  ACalls Pg 17 [v17] h18 (aEnd (fun v19 h20 =>
  bindV (aLoadV Pg h20 24 x1) fun v21 h22 =>
  bindV (still (aBuild Pg 24 [(0, (V.int .u16 1))]) h22) fun v23 h24 =>
  bindV (still (aBin Pg .eql 24 v21 v23 false) h24) fun v25 h26 =>
  vcIf v25 (
  bindV (still (aBin Pg .eql 29 v15 (V.int .i64 0) true) h26) fun v27 h28 =>
  vcG v27 true (
  bindV (still (aBin Pg .eql 3 v19 (V.int .i64 0) true) h28) fun v35 h36 =>
  Meet (G3_11111001001002 Q v27 v35 h36)) (Meet (G3_11111001001002 Q v27 hole h28))) (
  bindV (still (aFieldAddr Pg 24 x1 0) h26) fun v37 h38 =>
  bindV (aLoadV Pg h38 22 v37) fun v39 h40 =>
  bindV (still (aBin Pg .eql 22 v39 (V.int .u16 0) true) h40) fun v41 h42 =>
  vcG v41 false (
  bindV (still (aFieldAddr Pg 24 x1 0) h42) fun v65 h66 =>
  bindV (aLoadV Pg h66 22 v65) fun v67 h68 =>
  bindV (still (aBin Pg .gtr 22 v67 (V.int .u16 2) true) h68) fun v69 h70 =>
  Meet (G3_11111001101002 Q v15 v19 v41 v69 h70)) (Meet (G3_11111001101002 Q v15 v19 v41 hole h42)))) fun v h => Q (.panic v) h)) fun v h => Q (.panic v) h)) fun v h => Q (.panic v) h)) := by kernel_rfl
theorem J3_1101_eq (Q : AEnd → AH → Prop) (x1 x4 x18 : V) (h : AH) : J3_1101 Q x1 x4 x18 h = (
  vcIf x18 (
  Q (.ret (V.bool false)) h) (
  Meet (J3_111 Q x1 x4 h))) := by kernel_rfl
theorem G3_11001002_eq (Q : AEnd → AH → Prop) (x1 x4 x13 x17 : V) (h : AH) : G3_11001002 Q x1 x4 x13 x17 h = (
  bindV (aPick x13 (V.bool true) x17 h) fun v11 h12 =>
  Meet (J3_1101 Q x1 x4 v11 h12)) := by kernel_rfl
theorem S3 (Q : AEnd → AH → Prop) (a0 : V) (h : AH) : vc Pg N3 B3 K3 (vcRet Pg R3 Q) (initEnv 0 [a0]) h = (
  bindV (aNew Pg h 24 a0) fun v1 h2 =>
  ACalls Pg 13 [(V.int .i64 2), (V.int .i64 4)] h2 (aEnd (fun v3 h4 =>
  bindV (still (aExtract v3 0) h4) fun v5 h6 =>
  bindV (still (aExtract v3 1) h6) fun v7 h8 =>
  bindV (still (aBin Pg .eql 26 v7 (V.ptr none) true) h8) fun v9 h10 =>
  vcG v9 false (
  bindV (still (aBuild Pg 33 [(0, (V.int .u8 7))]) h10) fun v71 h72 =>
  ACalls Pg 14 [v7, (V.int .u16 1), (V.int .u32 5), v71] h72 (aEnd (fun v73 h74 =>
  bindV (still (aBin Pg .neq 29 v73 (V.int .i64 0) true) h74) fun v75 h76 =>
  Meet (G3_11001002 Q v1 v7 v9 v75 h76)) fun v h => Q (.panic v) h)) (Meet (G3_11001002 Q v1 v7 v9 hole h10))) fun v h => Q (.panic v) h)) := by kernel_rfl
theorem C3 (Q : AEnd → AH → Prop) (a0 : V) (h : AH) (c :
  bindV (aNew Pg h 24 a0) fun v1 h2 =>
  ACalls Pg 13 [(V.int .i64 2), (V.int .i64 4)] h2 (aEnd (fun v3 h4 =>
  bindV (still (aExtract v3 0) h4) fun v5 h6 =>
  bindV (still (aExtract v3 1) h6) fun v7 h8 =>
  bindV (still (aBin Pg .eql 26 v7 (V.ptr none) true) h8) fun v9 h10 =>
  vcG v9 false (
  bindV (still (aBuild Pg 33 [(0, (V.int .u8 7))]) h10) fun v71 h72 =>
  ACalls Pg 14 [v7, (V.int .u16 1), (V.int .u32 5), v71] h72 (aEnd (fun v73 h74 =>
  bindV (still (aBin Pg .neq 29 v73 (V.int .i64 0) true) h74) fun v75 h76 =>
  Meet (G3_11001002 Q v1 v7 v9 v75 h76)) fun v h => Q (.panic v) h)) (Meet (G3_11001002 Q v1 v7 v9 hole h10))) fun v h => Q (.panic v) h)) : ACalls Pg 3 [a0] h Q :=
  acalls_of_vc okP Tryz.func3 (show Tryz.f3.body = some B3 from by kernel_rfl) K3 (by rw [← S3 Q a0 h] at c; exact c)

-- 15 varve/commit.Free
noncomputable def B15 : Code := (Tryz.f15.body).getD .skip
def R15 : List ResultVar := [.tmp 4]
abbrev N15 : Nat := 17
def K15 : KT := (.seq .leaf (.join (.seq .leaf (.two (.seq .leaf .leaf [4]) .leaf) [0, 3, 7]) (.seq .leaf .leaf [4]) [0, 3]) [0, 3])
def J15_11 (Q : AEnd → AH → Prop) (x0 x3 : V) (h : AH) : Prop := vcAt Pg N15 B15 K15 [1, 1] [] (vcRet Pg R15 Q) [(0, x0), (3, x3)] h
theorem J15_11_eq (Q : AEnd → AH → Prop) (x0 x3 : V) (h : AH) : J15_11 Q x0 x3 h = (
  bindV (still (aFieldAddr Pg 24 x3 0) h) fun v9 h10 =>
  bindV (aLoadV Pg h10 22 v9) fun v11 h12 =>
  bindV (still (aBin Pg .sub 22 v11 (V.int .u16 1) true) h12) fun v13 h14 =>
  bindV (still (aBuild Pg 108 [(0, (V.bool true)), (1, v13)]) h14) fun v15 h16 =>
  bindV (still (aFieldAddr Pg 24 x3 1) h16) fun v17 h18 =>
  bindV (aLoadV Pg h18 5 v17) fun v19 h20 =>
  bindV (still (aBuild Pg 134 [(0, (V.int .u8 4)), (1, v15), (6, v19)]) h20) fun v21 h22 =>
  ACalls Pg 63 [x0, v21] h22 (aEnd (fun v23 h24 =>
  Q (.ret v23) h24) fun v h => Q (.panic v) h)) := by kernel_rfl
theorem S15 (Q : AEnd → AH → Prop) (a0 a1 : V) (h : AH) : vc Pg N15 B15 K15 (vcRet Pg R15 Q) (initEnv 0 [a0, a1]) h = (
  bindV (aNew Pg h 24 a1) fun v1 h2 =>
  bindV (still (aFieldAddr Pg 24 v1 0) h2) fun v3 h4 =>
  bindV (aLoadV Pg h4 22 v3) fun v5 h6 =>
  bindV (still (aBin Pg .eql 22 v5 (V.int .u16 0) true) h6) fun v7 h8 =>
  vcIf v7 (
  Q (.ret (V.int .i64 1)) h8) (
  Meet (J15_11 Q a0 v1 h8))) := by kernel_rfl
theorem C15 (Q : AEnd → AH → Prop) (a0 a1 : V) (h : AH) (c :
  bindV (aNew Pg h 24 a1) fun v1 h2 =>
  bindV (still (aFieldAddr Pg 24 v1 0) h2) fun v3 h4 =>
  bindV (aLoadV Pg h4 22 v3) fun v5 h6 =>
  bindV (still (aBin Pg .eql 22 v5 (V.int .u16 0) true) h6) fun v7 h8 =>
  vcIf v7 (
  Q (.ret (V.int .i64 1)) h8) (
  Meet (J15_11 Q a0 v1 h8))) : ACalls Pg 15 [a0, a1] h Q :=
  acalls_of_vc okP Tryz.func15 (show Tryz.f15.body = some B15 from by kernel_rfl) K15 (by rw [← S15 Q a0 a1 h] at c; exact c)

-- 204 (*varve/cache.Cache).is
noncomputable def B204 : Code := (Tryz.f204.body).getD .skip
def R204 : List ResultVar := [.tmp 4]
abbrev N204 : Nat := 25
def K204 : KT := (.seq .leaf (.join (.seq .leaf (.two (.seq .leaf .leaf [4]) .leaf) [0, 3, 6]) (.join (.seq .leaf (.two (.seq .leaf .leaf [4]) .leaf) [0, 3, 8]) (.seq .leaf .leaf [4]) [0, 3]) [0, 3]) [0, 3])
def J204_111 (Q : AEnd → AH → Prop) (x0 x3 : V) (h : AH) : Prop := vcAt Pg N204 B204 K204 [1, 1, 1] [] (vcRet Pg R204 Q) [(0, x0), (3, x3)] h
def J204_11 (Q : AEnd → AH → Prop) (x0 x3 : V) (h : AH) : Prop := vcAt Pg N204 B204 K204 [1, 1] [] (vcRet Pg R204 Q) [(0, x0), (3, x3)] h
theorem J204_111_eq (Q : AEnd → AH → Prop) (x0 x3 : V) (h : AH) : J204_111 Q x0 x3 h = (
  bindO (fstV (still (aFieldAddr Pg 108 x3 1) h)) fun v16 =>
  bindO (fstV (aLoadV Pg h 22 v16)) fun v17 =>
  bindO (fstV (still (aConv Pg h 22 3 v17) h)) fun v18 =>
  bindO (fstV (aNil x0 h)) fun v19 =>
  bindO (fstV (still (aFieldAddr Pg 293 v19 3) h)) fun v20 =>
  bindO (fstV (aLoadV Pg h 3 v20)) fun v21 =>
  bindO (fstV (still (aBin Pg .lss 3 v18 v21 false) h)) fun v22 =>
  Q (.ret v22) h) := by kernel_rfl
theorem J204_11_eq (Q : AEnd → AH → Prop) (x0 x3 : V) (h : AH) : J204_11 Q x0 x3 h = (
  bindV (still (aFieldAddr Pg 108 x3 0) h) fun v5 h6 =>
  bindV (aLoadV Pg h6 4 v5) fun v7 h8 =>
  vcIf v7 (
  bindO (fstV (still (aFieldAddr Pg 108 x3 1) h8)) fun v9 =>
  bindO (fstV (aLoadV Pg h8 22 v9)) fun v10 =>
  bindO (fstV (still (aConv Pg h8 22 3 v10) h8)) fun v11 =>
  bindO (fstV (aNil x0 h8)) fun v12 =>
  bindO (fstV (still (aFieldAddr Pg 293 v12 4) h8)) fun v13 =>
  bindO (fstV (aLoadV Pg h8 3 v13)) fun v14 =>
  bindO (fstV (still (aBin Pg .lss 3 v11 v14 false) h8)) fun v15 =>
  Q (.ret v15) h8) (
  Meet (J204_111 Q x0 x3 h8))) := by kernel_rfl
theorem S204 (Q : AEnd → AH → Prop) (a0 a1 : V) (h : AH) : vc Pg N204 B204 K204 (vcRet Pg R204 Q) (initEnv 0 [a0, a1]) h = (
  bindV (aNew Pg h 108 a1) fun v1 h2 =>
  bindV (still (aBin Pg .eql 119 a0 (V.ptr none) true) h2) fun v3 h4 =>
  vcIf v3 (
  Q (.ret (V.bool false)) h4) (
  Meet (J204_11 Q a0 v1 h4))) := by kernel_rfl
theorem C204 (Q : AEnd → AH → Prop) (a0 a1 : V) (h : AH) (c :
  bindV (aNew Pg h 108 a1) fun v1 h2 =>
  bindV (still (aBin Pg .eql 119 a0 (V.ptr none) true) h2) fun v3 h4 =>
  vcIf v3 (
  Q (.ret (V.bool false)) h4) (
  Meet (J204_11 Q a0 v1 h4))) : ACalls Pg 204 [a0, a1] h Q :=
  acalls_of_vc okP Tryz.func204 (show Tryz.f204.body = some B204 from by kernel_rfl) K204 (by rw [← S204 Q a0 a1 h] at c; exact c)

-- 247 varve/slot.Get
noncomputable def B247 : Code := (Tryz.f247.body).getD .skip
def R247 : List ResultVar := [.cell 4 123, .tmp 5]
abbrev N247 : Nat := 27
def K247 : KT := (.seq .leaf (.join (.join (.reg [[1, 2, 4, 12, 19]]) (.two (.seq .leaf .leaf [4, 5]) .leaf) [1, 2, 4, 20]) (.seq .leaf .leaf [4, 5]) [1, 2, 4]) [1, 2, 4])
def J247_11 (Q : AEnd → AH → Prop) (x1 x2 x4 : V) (h : AH) : Prop := vcAt Pg N247 B247 K247 [1, 1] [] (vcRet Pg R247 Q) [(1, x1), (2, x2), (4, x4)] h
def J247_101 (Q : AEnd → AH → Prop) (x1 x2 x4 x20 : V) (h : AH) : Prop := vcAt Pg N247 B247 K247 [1, 0, 1] [] (vcRet Pg R247 Q) [(1, x1), (2, x2), (4, x4), (20, x20)] h
def G247_1001002 (Q : AEnd → AH → Prop) (x1 x2 x4 x12 x19 : V) (h : AH) : Prop := segAt Pg N247 B247 K247 [1, 0, 0] 2 1 [] (vcRet Pg R247 Q) [(1, x1), (2, x2), (4, x4), (12, x12), (19, x19)] h
theorem J247_11_eq (Q : AEnd → AH → Prop) (x1 x2 x4 : V) (h : AH) : J247_11 Q x1 x2 x4 h = (
  bindV (still (aFieldAddr Pg 128 x2 1) h) fun v21 h22 =>
  bindV (aLoadV Pg h22 126 v21) fun v23 h24 =>
  bindV (still (aIndexAddr Pg 126 v23 x1) h24) fun v25 h26 =>
  bindV (aLoadV Pg h26 123 v25) fun v27 h28 =>
  bindV (aStoreV Pg h28 123 x4 v27) fun _ h30 =>
  bindR (aRes Pg [(4, x4), (5, (V.bool true))] h30 R247) fun v => Q (.ret v) h30) := by kernel_rfl
theorem J247_101_eq (Q : AEnd → AH → Prop) (x1 x2 x4 x20 : V) (h : AH) : J247_101 Q x1 x2 x4 x20 h = (
  vcIf x20 (
  bindV (still (aBuild Pg 123 []) h) fun v17 h18 =>
  bindV (aStoreV Pg h18 123 x4 v17) fun _ h20 =>
  bindR (aRes Pg [(4, x4), (5, (V.bool false))] h20 R247) fun v => Q (.ret v) h20) (
  Meet (J247_11 Q x1 x2 x4 h))) := by kernel_rfl
theorem G247_1001002_eq (Q : AEnd → AH → Prop) (x1 x2 x4 x12 x19 : V) (h : AH) : G247_1001002 Q x1 x2 x4 x12 x19 h = (
  bindV (aPick x12 (V.bool true) x19 h) fun v15 h16 =>
  Meet (J247_101 Q x1 x2 x4 v15 h16)) := by kernel_rfl
theorem S247 (Q : AEnd → AH → Prop) (a0 a1 : V) (h : AH) : vc Pg N247 B247 K247 (vcRet Pg R247 Q) (initEnv 0 [a0, a1]) h = (
  bindV (aNew Pg h 128 a0) fun v1 h2 =>
  bindV (aAlloc Pg h2 123) fun v3 h4 =>
  bindV (still (aConv Pg h4 5 3 a1) h4) fun v5 h6 =>
  bindV (still (aFieldAddr Pg 128 v1 1) h6) fun v7 h8 =>
  bindV (aLoadV Pg h8 126 v7) fun v9 h10 =>
  bindV (aBuiltin Pg h10 .len [126] [v9]) fun v11 h12 =>
  bindV (still (aBin Pg .geq 3 v5 v11 false) h12) fun v13 h14 =>
  vcG v13 false (
  bindV (still (aFieldAddr Pg 128 v1 1) h14) fun v31 h32 =>
  bindV (aLoadV Pg h32 126 v31) fun v33 h34 =>
  bindV (still (aIndexAddr Pg 126 v33 a1) h34) fun v35 h36 =>
  bindV (still (aFieldAddr Pg 123 v35 0) h36) fun v37 h38 =>
  bindV (aLoadV Pg h38 4 v37) fun v39 h40 =>
  bindV (still (aUn .not v39) h40) fun v41 h42 =>
  Meet (G247_1001002 Q a1 v1 v3 v13 v41 h42)) (Meet (G247_1001002 Q a1 v1 v3 v13 hole h14))) := by kernel_rfl
theorem C247 (Q : AEnd → AH → Prop) (a0 a1 : V) (h : AH) (c :
  bindV (aNew Pg h 128 a0) fun v1 h2 =>
  bindV (aAlloc Pg h2 123) fun v3 h4 =>
  bindV (still (aConv Pg h4 5 3 a1) h4) fun v5 h6 =>
  bindV (still (aFieldAddr Pg 128 v1 1) h6) fun v7 h8 =>
  bindV (aLoadV Pg h8 126 v7) fun v9 h10 =>
  bindV (aBuiltin Pg h10 .len [126] [v9]) fun v11 h12 =>
  bindV (still (aBin Pg .geq 3 v5 v11 false) h12) fun v13 h14 =>
  vcG v13 false (
  bindV (still (aFieldAddr Pg 128 v1 1) h14) fun v31 h32 =>
  bindV (aLoadV Pg h32 126 v31) fun v33 h34 =>
  bindV (still (aIndexAddr Pg 126 v33 a1) h34) fun v35 h36 =>
  bindV (still (aFieldAddr Pg 123 v35 0) h36) fun v37 h38 =>
  bindV (aLoadV Pg h38 4 v37) fun v39 h40 =>
  bindV (still (aUn .not v39) h40) fun v41 h42 =>
  Meet (G247_1001002 Q a1 v1 v3 v13 v41 h42)) (Meet (G247_1001002 Q a1 v1 v3 v13 hole h14))) : ACalls Pg 247 [a0, a1] h Q :=
  acalls_of_vc okP Tryz.func247 (show Tryz.f247.body = some B247 from by kernel_rfl) K247 (by rw [← S247 Q a0 a1 h] at c; exact c)

end Go.Proofs.YtcglbpjpbjaecaaGreat.Sh
