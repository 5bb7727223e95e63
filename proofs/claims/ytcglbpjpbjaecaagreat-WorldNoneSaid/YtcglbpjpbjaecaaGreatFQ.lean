import Derived.Test.YtcglbpjpbjaecaaGreatFT
set_option linter.unusedVariables false
set_option linter.unusedSimpArgs false
namespace Go.Proofs.YtcglbpjpbjaecaaGreat.Sh
open Go Go.Ab Go.RowKit
open Go.Proofs.YtcglbpjpbjaecaaGreat.Ru (Pg okP)
set_option maxRecDepth 100000
set_option linter.unusedVariables false
-- 141 varve/rec.May
noncomputable def B141 : Code := (Tryz.f141.body).getD .skip
def R141 : List ResultVar := [.tmp 2]
abbrev N141 : Nat := 30
def K141 : KT := (.seq .leaf (.join (.reg [[1, 6, 9], [1, 11, 15], [1, 17, 21], [23, 28]]) .leaf [2]) [1])
def J141_11 (Q : AEnd → AH → Prop) (x2 : V) (h : AH) : Prop := vcAt Pg N141 B141 K141 [1, 1] [] (vcRet Pg R141 Q) [(2, x2)] h
def G141_101008 (Q : AEnd → AH → Prop) (x23 x28 : V) (h : AH) : Prop := segAtD Pg N141 B141 K141 [1, 0] 8 4 26 [] (vcRet Pg R141 Q) [(23, x23), (28, x28)] h
def G141_101006 (Q : AEnd → AH → Prop) (x1 x17 x21 : V) (h : AH) : Prop := segAtD Pg N141 B141 K141 [1, 0] 6 3 19 [] (vcRet Pg R141 Q) [(1, x1), (17, x17), (21, x21)] h
def G141_101004 (Q : AEnd → AH → Prop) (x1 x11 x15 : V) (h : AH) : Prop := segAtD Pg N141 B141 K141 [1, 0] 4 2 13 [] (vcRet Pg R141 Q) [(1, x1), (11, x11), (15, x15)] h
def G141_101002 (Q : AEnd → AH → Prop) (x1 x6 x9 : V) (h : AH) : Prop := segAtD Pg N141 B141 K141 [1, 0] 2 1 7 [] (vcRet Pg R141 Q) [(1, x1), (6, x6), (9, x9)] h
theorem J141_11_eq (Q : AEnd → AH → Prop) (x2 : V) (h : AH) : J141_11 Q x2 h = (
  Q (.ret x2) h) := by kernel_rfl
theorem G141_101008_eq (Q : AEnd → AH → Prop) (x23 x28 : V) (h : AH) : G141_101008 Q x23 x28 h = (
  bindO (fstV (aPick x23 x28 (V.bool false) h)) fun v9 =>
  Meet (J141_11 Q v9 h)) := by kernel_rfl
theorem G141_101006_eq (Q : AEnd → AH → Prop) (x1 x17 x21 : V) (h : AH) : G141_101006 Q x1 x17 x21 h = (
  bindO (fstV (aPick x17 x21 (V.bool false) h)) fun v8 =>
  vcG v8 true (
  bindO (fstV (still (aFieldAddr Pg 134 x1 7) h)) fun v10 =>
  bindO (fstV (still (aFieldAddr Pg 123 v10 4) h)) fun v11 =>
  bindO (fstV (aLoadV Pg h 9 v11)) fun v12 =>
  bindO (fstV (aBuiltin Pg h .len [9] [v12])) fun v13 =>
  bindO (fstV (still (aBin Pg .leq 3 v13 (V.int .i64 66) true) h)) fun v14 =>
  Meet (G141_101008 Q v8 v14 h)) (Meet (G141_101008 Q v8 hole h))) := by kernel_rfl
theorem G141_101004_eq (Q : AEnd → AH → Prop) (x1 x11 x15 : V) (h : AH) : G141_101004 Q x1 x11 x15 h = (
  bindO (fstV (aPick x11 x15 (V.bool false) h)) fun v7 =>
  vcG v7 true (
  bindO (fstV (still (aFieldAddr Pg 134 x1 5) h)) fun v15 =>
  bindO (fstV (aLoadV Pg h 9 v15)) fun v16 =>
  bindO (fstV (aBuiltin Pg h .len [9] [v16])) fun v17 =>
  bindO (fstV (still (aBin Pg .leq 3 v17 (V.int .i64 66) true) h)) fun v18 =>
  Meet (G141_101006 Q x1 v7 v18 h)) (Meet (G141_101006 Q x1 v7 hole h))) := by kernel_rfl
theorem G141_101002_eq (Q : AEnd → AH → Prop) (x1 x6 x9 : V) (h : AH) : G141_101002 Q x1 x6 x9 h = (
  bindO (fstV (aPick x6 x9 (V.bool false) h)) fun v6 =>
  vcG v6 true (
  bindO (fstV (aLoadV Pg h 134 x1)) fun v19 =>
  ∃ v20, ACalls Pg 216 [v19] h (pureE v20 h) ∧ (
  bindO (fstV (aLoadV Pg h 134 x1)) fun v21 =>
  bindO (fstV (still (aBin Pg .eql 134 v20 v21 false) h)) fun v22 =>
  Meet (G141_101004 Q x1 v6 v22 h))) (Meet (G141_101004 Q x1 v6 hole h))) := by kernel_rfl
theorem S141 (Q : AEnd → AH → Prop) (a0 : V) (h : AH) : vc Pg N141 B141 K141 (vcRet Pg R141 Q) (initEnv 0 [a0]) h = (
  bindV (aNew Pg h 134 a0) fun v1 h2 =>
  bindO (fstV (still (aFieldAddr Pg 134 v1 0) h2)) fun v3 =>
  bindO (fstV (aLoadV Pg h2 5 v3)) fun v4 =>
  bindO (fstV (still (aBin Pg .geq 5 v4 (V.int .u8 1) true) h2)) fun v5 =>
  vcG v5 true (
  bindO (fstV (still (aFieldAddr Pg 134 v1 0) h2)) fun v23 =>
  bindO (fstV (aLoadV Pg h2 5 v23)) fun v24 =>
  bindO (fstV (still (aBin Pg .leq 5 v24 (V.int .u8 6) true) h2)) fun v25 =>
  Meet (G141_101002 Q v1 v5 v25 h2)) (Meet (G141_101002 Q v1 v5 hole h2))) := by kernel_rfl
theorem C141 (Q : AEnd → AH → Prop) (a0 : V) (h : AH) (c :
  bindV (aNew Pg h 134 a0) fun v1 h2 =>
  bindO (fstV (still (aFieldAddr Pg 134 v1 0) h2)) fun v3 =>
  bindO (fstV (aLoadV Pg h2 5 v3)) fun v4 =>
  bindO (fstV (still (aBin Pg .geq 5 v4 (V.int .u8 1) true) h2)) fun v5 =>
  vcG v5 true (
  bindO (fstV (still (aFieldAddr Pg 134 v1 0) h2)) fun v23 =>
  bindO (fstV (aLoadV Pg h2 5 v23)) fun v24 =>
  bindO (fstV (still (aBin Pg .leq 5 v24 (V.int .u8 6) true) h2)) fun v25 =>
  Meet (G141_101002 Q v1 v5 v25 h2)) (Meet (G141_101002 Q v1 v5 hole h2))) : ACalls Pg 141 [a0] h Q :=
  acalls_of_vc okP Tryz.func141 (show Tryz.f141.body = some B141 from by kernel_rfl) K141 (by rw [← S141 Q a0 h] at c; exact c)

-- 216 varve/rec.bare
noncomputable def B216 : Code := (Tryz.f216.body).getD .skip
def R216 : List ResultVar := [.cell 2 134]
abbrev N216 : Nat := 57
def K216 : KT := (.seq .leaf (.seq .leaf (.join (.seq .leaf (.one (.join (.one (.join (.one (.join (.one (.join (.one (.join (.one (.join (.join (.seq .leaf (.two .leaf .leaf) [1, 2, 3, 8, 9]) (.join (.seq .leaf (.two .leaf .leaf) [1, 2, 3, 8, 11]) (.join (.seq .leaf (.two .leaf .leaf) [1, 2, 3, 8, 13]) (.join (.join (.seq .leaf (.two .leaf .leaf) [1, 2, 3, 8, 15]) (.two .leaf .leaf) [1, 2, 3, 8, 15]) (.seq .leaf (.two .leaf .leaf) [1, 2, 3, 18]) [1, 2, 3, 8]) [1, 2, 3, 8]) [1, 2, 3, 8]) [1, 2, 3, 8]) .leaf [2, 3])) (.seq (.eff [5, 7]) .leaf [2, 3]) [1, 2, 3])) (.seq (.eff [11, 13, 15, 17]) .leaf [2, 3]) [1, 2, 3])) (.seq .leaf .leaf [1, 2, 3]) [1, 2, 3])) (.seq (.eff [7, 9]) .leaf [2, 3]) [1, 2, 3])) (.seq .leaf .leaf [2, 3]) [1, 2, 3])) [1, 2, 3, 8]) (.seq .leaf .leaf [2]) [2, 3]) [1, 2, 3]) [1, 2])
def J216_111 (Q : AEnd → AH → Prop) (x2 x3 : V) (h : AH) : Prop := vcAt Pg N216 B216 K216 [1, 1, 1] [] (vcRet Pg R216 Q) [(2, x2), (3, x3)] h
def J216_11010000000001 (Q : AEnd → AH → Prop) (x1 x2 x3 : V) (h : AH) : Prop := vcAt Pg N216 B216 K216 [1, 1, 0, 1, 0, 0, 0, 0, 0, 0, 0, 0, 0, 1] [] (vcRet Pg R216 Q) [(1, x1), (2, x2), (3, x3)] h
def J216_110100000001 (Q : AEnd → AH → Prop) (x1 x2 x3 : V) (h : AH) : Prop := vcAt Pg N216 B216 K216 [1, 1, 0, 1, 0, 0, 0, 0, 0, 0, 0, 1] [] (vcRet Pg R216 Q) [(1, x1), (2, x2), (3, x3)] h
def J216_11010001 (Q : AEnd → AH → Prop) (x1 x2 x3 : V) (h : AH) : Prop := vcAt Pg N216 B216 K216 [1, 1, 0, 1, 0, 0, 0, 1] [] (vcRet Pg R216 Q) [(1, x1), (2, x2), (3, x3)] h
def J216_1101000001 (Q : AEnd → AH → Prop) (x1 x2 x3 : V) (h : AH) : Prop := vcAt Pg N216 B216 K216 [1, 1, 0, 1, 0, 0, 0, 0, 0, 1] [] (vcRet Pg R216 Q) [(1, x1), (2, x2), (3, x3)] h
def J216_110101 (Q : AEnd → AH → Prop) (x1 x2 x3 : V) (h : AH) : Prop := vcAt Pg N216 B216 K216 [1, 1, 0, 1, 0, 1] [] (vcRet Pg R216 Q) [(1, x1), (2, x2), (3, x3)] h
def J216_1101000000000001 (Q : AEnd → AH → Prop) (x2 x3 : V) (h : AH) : Prop := vcAt Pg N216 B216 K216 [1, 1, 0, 1, 0, 0, 0, 0, 0, 0, 0, 0, 0, 0, 0, 1] [] (vcRet Pg R216 Q) [(2, x2), (3, x3)] h
def J216_11010000000000001111 (Q : AEnd → AH → Prop) (x1 x2 x3 x8 : V) (h : AH) : Prop := vcAt Pg N216 B216 K216 [1, 1, 0, 1, 0, 0, 0, 0, 0, 0, 0, 0, 0, 0, 0, 0, 1, 1, 1, 1] [] (vcRet Pg R216 Q) [(1, x1), (2, x2), (3, x3), (8, x8)] h
def J216_110100000000000011101 (Q : AEnd → AH → Prop) (x1 x2 x3 x8 x15 : V) (h : AH) : Prop := vcAt Pg N216 B216 K216 [1, 1, 0, 1, 0, 0, 0, 0, 0, 0, 0, 0, 0, 0, 0, 0, 1, 1, 1, 0, 1] [] (vcRet Pg R216 Q) [(1, x1), (2, x2), (3, x3), (8, x8), (15, x15)] h
def J216_1101000000000000111 (Q : AEnd → AH → Prop) (x1 x2 x3 x8 : V) (h : AH) : Prop := vcAt Pg N216 B216 K216 [1, 1, 0, 1, 0, 0, 0, 0, 0, 0, 0, 0, 0, 0, 0, 0, 1, 1, 1] [] (vcRet Pg R216 Q) [(1, x1), (2, x2), (3, x3), (8, x8)] h
def J216_110100000000000011 (Q : AEnd → AH → Prop) (x1 x2 x3 x8 : V) (h : AH) : Prop := vcAt Pg N216 B216 K216 [1, 1, 0, 1, 0, 0, 0, 0, 0, 0, 0, 0, 0, 0, 0, 0, 1, 1] [] (vcRet Pg R216 Q) [(1, x1), (2, x2), (3, x3), (8, x8)] h
def J216_11010000000000001 (Q : AEnd → AH → Prop) (x1 x2 x3 x8 : V) (h : AH) : Prop := vcAt Pg N216 B216 K216 [1, 1, 0, 1, 0, 0, 0, 0, 0, 0, 0, 0, 0, 0, 0, 0, 1] [] (vcRet Pg R216 Q) [(1, x1), (2, x2), (3, x3), (8, x8)] h
theorem J216_111_eq (Q : AEnd → AH → Prop) (x2 x3 : V) (h : AH) : J216_111 Q x2 x3 h = (
  bindV (aLoadV Pg h 134 x3) fun v31 h32 =>
  bindV (aStoreV Pg h32 134 x2 v31) fun _ h34 =>
  bindR (aRes Pg [(2, x2)] h34 R216) fun v => Q (.ret v) h34) := by kernel_rfl
theorem J216_11010000000001_eq (Q : AEnd → AH → Prop) (x1 x2 x3 : V) (h : AH) : J216_11010000000001 Q x1 x2 x3 h = (
  bindO (fstV (still (aFieldAddr Pg 134 x1 1) h)) fun v21 =>
  bindO (fstV (aLoadV Pg h 108 v21)) fun v22 =>
  (
  bindO (fstV (still (aFieldAddr Pg 134 x1 2) h)) fun v23 =>
  bindO (fstV (aLoadV Pg h 111 v23)) fun v24 =>
  (
  bindO (fstV (still (aFieldAddr Pg 134 x3 1) h)) fun v25 =>
  bindV (aStoreV Pg h 108 v25 v22) fun _ h27 => (aLoadV Pg h27 111 v23 = some (v24, h27)) ∧ (
  bindO (fstV (still (aFieldAddr Pg 134 x3 2) h27)) fun v28 =>
  bindV (aStoreV Pg h27 111 v28 v24) fun _ h30 => (
  Meet (J216_111 Q x2 x3 h30)))))) := by kernel_rfl
theorem J216_110100000001_eq (Q : AEnd → AH → Prop) (x1 x2 x3 : V) (h : AH) : J216_110100000001 Q x1 x2 x3 h = (
  bindO (fstV (still (aFieldAddr Pg 134 x1 1) h)) fun v37 =>
  bindO (fstV (still (aFieldAddr Pg 108 v37 1) h)) fun v38 =>
  bindO (fstV (aLoadV Pg h 22 v38)) fun v39 =>
  (
  bindO (fstV (still (aFieldAddr Pg 134 x1 3) h)) fun v40 =>
  bindO (fstV (aLoadV Pg h 31 v40)) fun v41 =>
  (
  bindO (fstV (still (aFieldAddr Pg 134 x1 4) h)) fun v42 =>
  bindO (fstV (aLoadV Pg h 24 v42)) fun v43 =>
  (
  bindO (fstV (still (aFieldAddr Pg 134 x1 5) h)) fun v44 =>
  bindO (fstV (aLoadV Pg h 9 v44)) fun v45 =>
  (
  bindO (fstV (still (aFieldAddr Pg 134 x3 1) h)) fun v46 =>
  bindO (fstV (still (aFieldAddr Pg 108 v46 1) h)) fun v47 =>
  bindV (aStoreV Pg h 22 v47 v39) fun _ h49 => (aLoadV Pg h49 9 v44 = some (v45, h49)) ∧ (aLoadV Pg h49 24 v42 = some (v43, h49)) ∧ (aLoadV Pg h49 31 v40 = some (v41, h49)) ∧ (
  bindO (fstV (still (aFieldAddr Pg 134 x3 3) h49)) fun v50 =>
  bindV (aStoreV Pg h49 31 v50 v41) fun _ h52 => (aLoadV Pg h52 9 v44 = some (v45, h52)) ∧ (aLoadV Pg h52 24 v42 = some (v43, h52)) ∧ (
  bindO (fstV (still (aFieldAddr Pg 134 x3 4) h52)) fun v53 =>
  bindV (aStoreV Pg h52 24 v53 v43) fun _ h55 => (aLoadV Pg h55 9 v44 = some (v45, h55)) ∧ (
  bindO (fstV (still (aFieldAddr Pg 134 x3 5) h55)) fun v56 =>
  bindV (aStoreV Pg h55 9 v56 v45) fun _ h58 => (
  Meet (J216_111 Q x2 x3 h58)))))))))) := by kernel_rfl
theorem J216_11010001_eq (Q : AEnd → AH → Prop) (x1 x2 x3 : V) (h : AH) : J216_11010001 Q x1 x2 x3 h = (
  bindO (fstV (still (aFieldAddr Pg 134 x1 1) h)) fun v75 =>
  bindO (fstV (still (aFieldAddr Pg 108 v75 1) h)) fun v76 =>
  bindO (fstV (aLoadV Pg h 22 v76)) fun v77 =>
  (
  bindO (fstV (still (aBuild Pg 108 [(0, (V.bool true)), (1, v77)]) h)) fun v78 =>
  bindO (fstV (still (aFieldAddr Pg 134 x1 6) h)) fun v79 =>
  bindO (fstV (aLoadV Pg h 5 v79)) fun v80 =>
  (
  bindO (fstV (still (aFieldAddr Pg 134 x3 1) h)) fun v81 =>
  bindV (aStoreV Pg h 108 v81 v78) fun _ h83 => (aLoadV Pg h83 5 v79 = some (v80, h83)) ∧ (
  bindO (fstV (still (aFieldAddr Pg 134 x3 6) h83)) fun v84 =>
  bindV (aStoreV Pg h83 5 v84 v80) fun _ h86 => (
  Meet (J216_111 Q x2 x3 h86)))))) := by kernel_rfl
theorem J216_1101000001_eq (Q : AEnd → AH → Prop) (x1 x2 x3 : V) (h : AH) : J216_1101000001 Q x1 x2 x3 h = (
  bindV (still (aFieldAddr Pg 134 x1 7) h) fun v61 h62 =>
  bindV (aLoadV Pg h62 123 v61) fun v63 h64 =>
  bindV (still (aFieldAddr Pg 134 x3 7) h64) fun v65 h66 =>
  bindV (aStoreV Pg h66 123 v65 v63) fun _ h68 =>
  bindV (still (aFieldAddr Pg 134 x3 7) h68) fun v69 h70 =>
  bindV (still (aFieldAddr Pg 123 v69 0) h70) fun v71 h72 =>
  bindV (aStoreV Pg h72 4 v71 (V.bool true)) fun _ h74 =>
  Meet (J216_11010001 Q x1 x2 x3 h74)) := by kernel_rfl
theorem J216_110101_eq (Q : AEnd → AH → Prop) (x1 x2 x3 : V) (h : AH) : J216_110101 Q x1 x2 x3 h = (
  bindV (still (aFieldAddr Pg 134 x1 3) h) fun v91 h92 =>
  bindV (aLoadV Pg h92 31 v91) fun v93 h94 =>
  bindV (still (aFieldAddr Pg 134 x3 3) h94) fun v95 h96 =>
  bindV (aStoreV Pg h96 31 v95 v93) fun _ h98 =>
  Meet (J216_111 Q x2 x3 h98)) := by kernel_rfl
theorem J216_1101000000000001_eq (Q : AEnd → AH → Prop) (x2 x3 : V) (h : AH) : J216_1101000000000001 Q x2 x3 h = (
  Meet (J216_111 Q x2 x3 h)) := by kernel_rfl
theorem J216_11010000000000001111_eq (Q : AEnd → AH → Prop) (x1 x2 x3 x8 : V) (h : AH) : J216_11010000000000001111 Q x1 x2 x3 x8 h = (
  bindV (still (aBin Pg .eql 5 x8 (V.int .u8 6) true) h) fun v89 h90 =>
  vcIf v89 (
  Meet (J216_110101 Q x1 x2 x3 h90)) (
  Meet (J216_1101000000000001 Q x2 x3 h90))) := by kernel_rfl
theorem J216_110100000000000011101_eq (Q : AEnd → AH → Prop) (x1 x2 x3 x8 x15 : V) (h : AH) : J216_110100000000000011101 Q x1 x2 x3 x8 x15 h = (
  vcIf x15 (
  Meet (J216_11010001 Q x1 x2 x3 h)) (
  Meet (J216_11010000000000001111 Q x1 x2 x3 x8 h))) := by kernel_rfl
theorem J216_1101000000000000111_eq (Q : AEnd → AH → Prop) (x1 x2 x3 x8 : V) (h : AH) : J216_1101000000000000111 Q x1 x2 x3 x8 h = (
  bindV (still (aBin Pg .eql 5 x8 (V.int .u8 4) true) h) fun v87 h88 =>
  vcIf v87 (
  Meet (J216_110100000000000011101 Q x1 x2 x3 x8 v87 h88)) (
  bindV (still (aBin Pg .eql 5 x8 (V.int .u8 5) true) h88) fun v99 h100 =>
  Meet (J216_110100000000000011101 Q x1 x2 x3 x8 v99 h100))) := by kernel_rfl
theorem J216_110100000000000011_eq (Q : AEnd → AH → Prop) (x1 x2 x3 x8 : V) (h : AH) : J216_110100000000000011 Q x1 x2 x3 x8 h = (
  bindV (still (aBin Pg .eql 5 x8 (V.int .u8 3) true) h) fun v59 h60 =>
  vcIf v59 (
  Meet (J216_1101000001 Q x1 x2 x3 h60)) (
  Meet (J216_1101000000000000111 Q x1 x2 x3 x8 h60))) := by kernel_rfl
theorem J216_11010000000000001_eq (Q : AEnd → AH → Prop) (x1 x2 x3 x8 : V) (h : AH) : J216_11010000000000001 Q x1 x2 x3 x8 h = (
  bindV (still (aBin Pg .eql 5 x8 (V.int .u8 2) true) h) fun v35 h36 =>
  vcIf v35 (
  Meet (J216_110100000001 Q x1 x2 x3 h36)) (
  Meet (J216_110100000000000011 Q x1 x2 x3 x8 h36))) := by kernel_rfl
theorem S216 (Q : AEnd → AH → Prop) (a0 : V) (h : AH) : vc Pg N216 B216 K216 (vcRet Pg R216 Q) (initEnv 0 [a0]) h = (
  bindV (aNew Pg h 134 a0) fun v1 h2 =>
  bindV (aAlloc Pg h2 134) fun v3 h4 =>
  bindV (still (aFieldAddr Pg 134 v1 0) h4) fun v5 h6 =>
  bindV (aLoadV Pg h6 5 v5) fun v7 h8 =>
  bindV (still (aBuild Pg 134 [(0, v7)]) h8) fun v9 h10 =>
  bindV (aAlloc Pg h10 134) fun v11 h12 =>
  bindV (aStoreV Pg h12 134 v11 v9) fun _ h14 =>
  bindV (still (aFieldAddr Pg 134 v1 0) h14) fun v15 h16 =>
  bindV (aLoadV Pg h16 5 v15) fun v17 h18 =>
  bindV (still (aBin Pg .eql 5 v17 (V.int .u8 1) true) h18) fun v19 h20 =>
  vcIf v19 (
  Meet (J216_11010000000001 Q v1 v3 v11 h20)) (
  Meet (J216_11010000000000001 Q v1 v3 v11 v17 h20))) := by kernel_rfl
theorem C216 (Q : AEnd → AH → Prop) (a0 : V) (h : AH) (c :
  bindV (aNew Pg h 134 a0) fun v1 h2 =>
  bindV (aAlloc Pg h2 134) fun v3 h4 =>
  bindV (still (aFieldAddr Pg 134 v1 0) h4) fun v5 h6 =>
  bindV (aLoadV Pg h6 5 v5) fun v7 h8 =>
  bindV (still (aBuild Pg 134 [(0, v7)]) h8) fun v9 h10 =>
  bindV (aAlloc Pg h10 134) fun v11 h12 =>
  bindV (aStoreV Pg h12 134 v11 v9) fun _ h14 =>
  bindV (still (aFieldAddr Pg 134 v1 0) h14) fun v15 h16 =>
  bindV (aLoadV Pg h16 5 v15) fun v17 h18 =>
  bindV (still (aBin Pg .eql 5 v17 (V.int .u8 1) true) h18) fun v19 h20 =>
  vcIf v19 (
  Meet (J216_11010000000001 Q v1 v3 v11 h20)) (
  Meet (J216_11010000000000001 Q v1 v3 v11 v17 h20))) : ACalls Pg 216 [a0] h Q :=
  acalls_of_vc okP Tryz.func216 (show Tryz.f216.body = some B216 from by kernel_rfl) K216 (by rw [← S216 Q a0 h] at c; exact c)

-- 265 varve/crc.More
noncomputable def B265 : Code := (Tryz.f265.body).getD .skip
def R265 : List ResultVar := [.tmp 4]
abbrev N265 : Nat := 28
def K265 : KT := (.seq .leaf (.seq .leaf (.join (.seq .leaf (.one (.loop (.join (.seq .leaf (.two .leaf .leaf) [1, 5, 6, 12]) (.join (.one (.seq .leaf (.seq .leaf (.one (.loop (.seq .leaf (.join (.two .leaf .leaf) (.join (.one .leaf) .leaf [1, 5, 6, 21]) [1, 5, 6, 21]) [1, 5, 6, 21, 22]) [1, 5, 6, 21])) [1, 5, 6, 21]) [1, 5, 6])) .leaf [1, 5, 6]) [1, 5, 6]) [1, 5, 6])) [1, 5, 6]) (.seq .leaf .leaf [4]) [5]) [1, 5]) [0, 1])
def J265_1101001001100111 (Q : AEnd → AH → Prop) (n n1 : Nat) (x1 x5 x6 x21 : V) (h : AH) : Prop := vcAt Pg N265 B265 K265 [1, 1, 0, 1, 0, 0, 1, 0, 0, 1, 1, 0, 0, 1, 1, 1] [n, n1] (vcRet Pg R265 Q) [(1, x1), (5, x5), (6, x6), (21, x21)] h
def J265_110100100110011 (Q : AEnd → AH → Prop) (n n1 : Nat) (x1 x5 x6 x21 : V) (h : AH) : Prop := vcAt Pg N265 B265 K265 [1, 1, 0, 1, 0, 0, 1, 0, 0, 1, 1, 0, 0, 1, 1] [n, n1] (vcRet Pg R265 Q) [(1, x1), (5, x5), (6, x6), (21, x21)] h
def J265_11010011 (Q : AEnd → AH → Prop) (n : Nat) (x1 x5 x6 : V) (h : AH) : Prop := vcAt Pg N265 B265 K265 [1, 1, 0, 1, 0, 0, 1, 1] [n] (vcRet Pg R265 Q) [(1, x1), (5, x5), (6, x6)] h
def L265_110100100110 (Q : AEnd → AH → Prop) (n : Nat) (n1 : Nat) (x1 x5 x6 x21 : V) (h : AH) : Prop := loopAt Pg N265 B265 K265 [1, 1, 0, 1, 0, 0, 1, 0, 0, 1, 1, 0] [n] n1 (vcRet Pg R265 Q) [(1, x1), (5, x5), (6, x6), (21, x21)] h
def J265_1101001 (Q : AEnd → AH → Prop) (n : Nat) (x1 x5 x6 : V) (h : AH) : Prop := vcAt Pg N265 B265 K265 [1, 1, 0, 1, 0, 0, 1] [n] (vcRet Pg R265 Q) [(1, x1), (5, x5), (6, x6)] h
def J265_111 (Q : AEnd → AH → Prop) (x5 : V) (h : AH) : Prop := vcAt Pg N265 B265 K265 [1, 1, 1] [] (vcRet Pg R265 Q) [(5, x5)] h
def L265_11010 (Q : AEnd → AH → Prop) (n : Nat) (x1 x5 x6 : V) (h : AH) : Prop := loopAt Pg N265 B265 K265 [1, 1, 0, 1, 0] [] n (vcRet Pg R265 Q) [(1, x1), (5, x5), (6, x6)] h
theorem J265_1101001001100111_eq (Q : AEnd → AH → Prop) (n n1 : Nat) (x1 x5 x6 x21 : V) (h : AH) : J265_1101001001100111 Q n n1 x1 x5 x6 x21 h = (
  bindV (still (aBin Pg .add 3 x21 (V.int .i64 1) true) h) fun v17 h18 =>
  Meet (L265_110100100110 Q n n1 x1 x5 x6 v17 h18)) := by kernel_rfl
theorem J265_110100100110011_eq (Q : AEnd → AH → Prop) (n n1 : Nat) (x1 x5 x6 x21 : V) (h : AH) : J265_110100100110011 Q n n1 x1 x5 x6 x21 h = (
  ACalls Pg 294 [x5] h (aEnd (fun v15 h16 =>
  Meet (J265_1101001001100111 Q n n1 x1 v15 x6 x21 h16)) fun v h => Q (.panic v) h)) := by kernel_rfl
theorem J265_11010011_eq (Q : AEnd → AH → Prop) (n : Nat) (x1 x5 x6 : V) (h : AH) : J265_11010011 Q n x1 x5 x6 h = (
  bindV (still (aBin Pg .add 3 x6 (V.int .i64 1) true) h) fun v19 h20 =>
  Meet (L265_11010 Q n x1 x5 v19 h20)) := by kernel_rfl
theorem L265_110100100110_eq (Q : AEnd → AH → Prop) (n : Nat) (n1 : Nat) (x1 x5 x6 x21 : V) (h : AH) : L265_110100100110 Q n (n1 + 1) x1 x5 x6 x21 h = (
  bindV (still (aBin Pg .lss 3 x21 (V.int .i64 8) true) h) fun v13 h14 =>
  vcIf v13 (
  Meet (J265_110100100110011 Q n n1 x1 x5 x6 x21 h14)) (
  Meet (J265_11010011 Q n x1 x5 x6 h14))) := by kernel_rfl
theorem J265_1101001_eq (Q : AEnd → AH → Prop) (n : Nat) (x1 x5 x6 : V) (h : AH) : J265_1101001 Q n x1 x5 x6 h = (
  bindV (still (aIndex Pg 9 x1 x6) h) fun v7 h8 =>
  bindV (still (aConv Pg h8 5 31 v7) h8) fun v9 h10 =>
  bindV (still (aBin Pg .xor 31 x5 v9 false) h10) fun v11 h12 =>
  ∃ n1, Meet (L265_110100100110 Q n n1 x1 v11 x6 (V.int .i64 0) h12)) := by kernel_rfl
theorem J265_111_eq (Q : AEnd → AH → Prop) (x5 : V) (h : AH) : J265_111 Q x5 h = (
  bindV (still (aUn .xor x5) h) fun v21 h22 =>
  Q (.ret v21) h22) := by kernel_rfl
theorem L265_11010_eq (Q : AEnd → AH → Prop) (n : Nat) (x1 x5 x6 : V) (h : AH) : L265_11010 Q (n + 1) x1 x5 x6 h = (
  bindV (aBuiltin Pg h .len [9] [x1]) fun v3 h4 =>
  bindV (still (aBin Pg .lss 3 x6 v3 false) h4) fun v5 h6 =>
  vcIf v5 (
  Meet (J265_1101001 Q n x1 x5 x6 h6)) (
  Meet (J265_111 Q x5 h6))) := by kernel_rfl
theorem S265 (Q : AEnd → AH → Prop) (a0 a1 : V) (h : AH) : vc Pg N265 B265 K265 (vcRet Pg R265 Q) (initEnv 0 [a0, a1]) h = (
  bindV (still (aUn .xor a0) h) fun v1 h2 =>
  ∃ n, Meet (L265_11010 Q n a1 v1 (V.int .i64 0) h2)) := by kernel_rfl
theorem C265 (Q : AEnd → AH → Prop) (a0 a1 : V) (h : AH) (c :
  bindV (still (aUn .xor a0) h) fun v1 h2 =>
  ∃ n, Meet (L265_11010 Q n a1 v1 (V.int .i64 0) h2)) : ACalls Pg 265 [a0, a1] h Q :=
  acalls_of_vc okP Tryz.func265 (show Tryz.f265.body = some B265 from by kernel_rfl) K265 (by rw [← S265 Q a0 a1 h] at c; exact c)

-- 294 varve/crc.step
noncomputable def B294 : Code := (Tryz.f294.body).getD .skip
def R294 : List ResultVar := [.tmp 2]
abbrev N294 : Nat := 10
def K294 : KT := (.seq .leaf (.seq .leaf .leaf [2]) [0])
theorem S294 (Q : AEnd → AH → Prop) (a0 : V) (h : AH) : vc Pg N294 B294 K294 (vcRet Pg R294 Q) (initEnv 0 [a0]) h = (
  bindV (still (aBin Pg .shr 31 a0 (V.int .u64 1) true) h) fun v1 h2 =>
  bindV (still (aBin Pg .and 31 a0 (V.int .u32 1) true) h2) fun v3 h4 =>
  bindV (still (aUn .neg v3) h4) fun v5 h6 =>
  bindV (still (aBin Pg .and 31 (V.int .u32 3988292384) v5 true) h6) fun v7 h8 =>
  bindV (still (aBin Pg .xor 31 v1 v7 false) h8) fun v9 h10 =>
  Q (.ret v9) h10) := by kernel_rfl
theorem C294 (Q : AEnd → AH → Prop) (a0 : V) (h : AH) (c :
  bindV (still (aBin Pg .shr 31 a0 (V.int .u64 1) true) h) fun v1 h2 =>
  bindV (still (aBin Pg .and 31 a0 (V.int .u32 1) true) h2) fun v3 h4 =>
  bindV (still (aUn .neg v3) h4) fun v5 h6 =>
  bindV (still (aBin Pg .and 31 (V.int .u32 3988292384) v5 true) h6) fun v7 h8 =>
  bindV (still (aBin Pg .xor 31 v1 v7 false) h8) fun v9 h10 =>
  Q (.ret v9) h10) : ACalls Pg 294 [a0] h Q :=
  acalls_of_vc okP Tryz.func294 (show Tryz.f294.body = some B294 from by kernel_rfl) K294 (by rw [← S294 Q a0 h] at c; exact c)

end Go.Proofs.YtcglbpjpbjaecaaGreat.Sh
namespace Go.Proofs.YtcglbpjpbjaecaaGreat.Sh
open Go Go.Ab Go.RowKit
open Go.Proofs.YtcglbpjpbjaecaaGreat.Ru (Pg okP)
set_option maxRecDepth 100000
set_option linter.unusedVariables false
-- 6 varve/varvelaw27.WorldNone
noncomputable def B6 : Code := (Tryz.f6.body).getD .skip
def R6 : List ResultVar := [.tmp 2]
abbrev N6 : Nat := 45
def K6 : KT := (.seq .leaf (.seq .leaf (.seq .leaf (.seq .leaf (.seq .leaf (.join (.reg [[3, 5, 23, 26], [3, 5, 28, 31], [5, 33, 36], [38, 40], [42, 43]]) .leaf [2]) [3, 5]) [3]) [1, 3]) [1, 3]) [1])
def J6_111111 (Q : AEnd → AH → Prop) (x2 : V) (h : AH) : Prop := vcAt Pg N6 B6 K6 [1, 1, 1, 1, 1, 1] [] (vcRet Pg R6 Q) [(2, x2)] h
def G6_1111101010 (Q : AEnd → AH → Prop) (x42 x43 : V) (h : AH) : Prop := segAt Pg N6 B6 K6 [1, 1, 1, 1, 1, 0] 10 5 [] (vcRet Pg R6 Q) [(42, x42), (43, x43)] h
def G6_1111101008 (Q : AEnd → AH → Prop) (x38 x40 : V) (h : AH) : Prop := segAt Pg N6 B6 K6 [1, 1, 1, 1, 1, 0] 8 4 [] (vcRet Pg R6 Q) [(38, x38), (40, x40)] h
def G6_1111101006 (Q : AEnd → AH → Prop) (x5 x33 x36 : V) (h : AH) : Prop := segAt Pg N6 B6 K6 [1, 1, 1, 1, 1, 0] 6 3 [] (vcRet Pg R6 Q) [(5, x5), (33, x33), (36, x36)] h
def G6_1111101004 (Q : AEnd → AH → Prop) (x3 x5 x28 x31 : V) (h : AH) : Prop := segAt Pg N6 B6 K6 [1, 1, 1, 1, 1, 0] 4 2 [] (vcRet Pg R6 Q) [(3, x3), (5, x5), (28, x28), (31, x31)] h
def G6_1111101002 (Q : AEnd → AH → Prop) (x3 x5 x23 x26 : V) (h : AH) : Prop := segAt Pg N6 B6 K6 [1, 1, 1, 1, 1, 0] 2 1 [] (vcRet Pg R6 Q) [(3, x3), (5, x5), (23, x23), (26, x26)] h
theorem J6_111111_eq (Q : AEnd → AH → Prop) (x2 : V) (h : AH) : J6_111111 Q x2 h = (
  Q (.ret x2) h) := by kernel_rfl
theorem G6_1111101010_eq (Q : AEnd → AH → Prop) (x42 x43 : V) (h : AH) : G6_1111101010 Q x42 x43 h = (
  bindV (aPick x42 x43 (V.bool false) h) fun v39 h40 =>
  Meet (J6_111111 Q v39 h40)) := by kernel_rfl
theorem G6_1111101008_eq (Q : AEnd → AH → Prop) (x38 x40 : V) (h : AH) : G6_1111101008 Q x38 x40 h = (
  bindV (aPick x38 x40 (V.bool false) h) fun v37 h38 =>
  vcG v37 true (
  ACalls Pg 41 [] h38 (aEnd (fun v41 h42 =>
  Meet (G6_1111101010 Q v37 v41 h42)) fun v h => Q (.panic v) h)) (Meet (G6_1111101010 Q v37 hole h38))) := by kernel_rfl
theorem G6_1111101006_eq (Q : AEnd → AH → Prop) (x5 x33 x36 : V) (h : AH) : G6_1111101006 Q x5 x33 x36 h = (
  bindV (aPick x33 x36 (V.bool false) h) fun v35 h36 =>
  vcG v35 true (
  bindV (still (aBin Pg .eql 29 x5 (V.int .i64 12) true) h36) fun v43 h44 =>
  Meet (G6_1111101008 Q v35 v43 h44)) (Meet (G6_1111101008 Q v35 hole h36))) := by kernel_rfl
theorem G6_1111101004_eq (Q : AEnd → AH → Prop) (x3 x5 x28 x31 : V) (h : AH) : G6_1111101004 Q x3 x5 x28 x31 h = (
  bindV (aPick x28 x31 (V.bool false) h) fun v33 h34 =>
  vcG v33 true (
  ACalls Pg 40 [x3] h34 (aEnd (fun v45 h46 =>
  bindV (still (aBin Pg .eql 3 v45 (V.int .i64 0) true) h46) fun v47 h48 =>
  Meet (G6_1111101006 Q x5 v33 v47 h48)) fun v h => Q (.panic v) h)) (Meet (G6_1111101006 Q x5 v33 hole h34))) := by kernel_rfl
theorem G6_1111101002_eq (Q : AEnd → AH → Prop) (x3 x5 x23 x26 : V) (h : AH) : G6_1111101002 Q x3 x5 x23 x26 h = (
  bindV (aPick x23 x26 (V.bool false) h) fun v31 h32 =>
  vcG v31 true (
  ACalls Pg 39 [x3] h32 (aEnd (fun v49 h50 =>
  bindV (still (aBin Pg .eql 25 v49 (V.ptr none) true) h50) fun v51 h52 =>
  Meet (G6_1111101004 Q x3 x5 v31 v51 h52)) fun v h => Q (.panic v) h)) (Meet (G6_1111101004 Q x3 x5 v31 hole h32))) := by kernel_rfl
theorem S6 (Q : AEnd → AH → Prop) (a0 : V) (h : AH) : vc Pg N6 B6 K6 (vcRet Pg R6 Q) (initEnv 0 [a0]) h = (
  bindV (aNew Pg h 73 a0) fun v1 h2 =>
  bindV (aBuildSlice Pg h2 71 0 []) fun v3 h4 =>
  bindV (still (aFieldAddr Pg 73 v1 4) h4) fun v5 h6 =>
  bindV (aLoadV Pg h6 71 v5) fun v7 h8 =>
  bindV (aBuiltin Pg h8 .append [71, 71] [v3, v7]) fun v9 h10 =>
  bindV (still (aFieldAddr Pg 73 v1 4) h10) fun v11 h12 =>
  bindV (aStoreV Pg h12 71 v11 v9) fun _ h14 =>
  bindV (aLoadV Pg h14 73 v1) fun v15 h16 =>
  ACalls Pg 35 [(V.ptr none), v15] h16 (aEnd (fun v17 h18 =>
  ACalls Pg 36 [(V.ptr none)] h18 (aEnd (fun v19 h20 =>
  bindV (still (aExtract v19 0) h20) fun v21 h22 =>
  bindV (still (aExtract v19 1) h22) fun v23 h24 =>
  ACalls Pg 37 [(V.ptr none)] h24 (aEnd (fun v25 h26 =>
  bindV (aBuiltin Pg h26 .len [79] [v25]) fun v27 h28 =>
  bindV (still (aBin Pg .eql 3 v27 (V.int .i64 0) true) h28) fun v29 h30 =>
  vcG v29 true (
  ACalls Pg 38 [(V.ptr none)] h30 (aEnd (fun v53 h54 =>
  bindV (still (aBin Pg .eql 58 v53 (V.ptr none) true) h54) fun v55 h56 =>
  Meet (G6_1111101002 Q (V.ptr none) v23 v29 v55 h56)) fun v h => Q (.panic v) h)) (Meet (G6_1111101002 Q (V.ptr none) v23 v29 hole h30))) fun v h => Q (.panic v) h)) fun v h => Q (.panic v) h)) fun v h => Q (.panic v) h)) := by kernel_rfl
theorem C6 (Q : AEnd → AH → Prop) (a0 : V) (h : AH) (c :
  bindV (aNew Pg h 73 a0) fun v1 h2 =>
  bindV (aBuildSlice Pg h2 71 0 []) fun v3 h4 =>
  bindV (still (aFieldAddr Pg 73 v1 4) h4) fun v5 h6 =>
  bindV (aLoadV Pg h6 71 v5) fun v7 h8 =>
  bindV (aBuiltin Pg h8 .append [71, 71] [v3, v7]) fun v9 h10 =>
  bindV (still (aFieldAddr Pg 73 v1 4) h10) fun v11 h12 =>
  bindV (aStoreV Pg h12 71 v11 v9) fun _ h14 =>
  bindV (aLoadV Pg h14 73 v1) fun v15 h16 =>
  ACalls Pg 35 [(V.ptr none), v15] h16 (aEnd (fun v17 h18 =>
  ACalls Pg 36 [(V.ptr none)] h18 (aEnd (fun v19 h20 =>
  bindV (still (aExtract v19 0) h20) fun v21 h22 =>
  bindV (still (aExtract v19 1) h22) fun v23 h24 =>
  ACalls Pg 37 [(V.ptr none)] h24 (aEnd (fun v25 h26 =>
  bindV (aBuiltin Pg h26 .len [79] [v25]) fun v27 h28 =>
  bindV (still (aBin Pg .eql 3 v27 (V.int .i64 0) true) h28) fun v29 h30 =>
  vcG v29 true (
  ACalls Pg 38 [(V.ptr none)] h30 (aEnd (fun v53 h54 =>
  bindV (still (aBin Pg .eql 58 v53 (V.ptr none) true) h54) fun v55 h56 =>
  Meet (G6_1111101002 Q (V.ptr none) v23 v29 v55 h56)) fun v h => Q (.panic v) h)) (Meet (G6_1111101002 Q (V.ptr none) v23 v29 hole h30))) fun v h => Q (.panic v) h)) fun v h => Q (.panic v) h)) fun v h => Q (.panic v) h)) : ACalls Pg 6 [a0] h Q :=
  acalls_of_vc okP Tryz.func6 (show Tryz.f6.body = some B6 from by kernel_rfl) K6 (by rw [← S6 Q a0 h] at c; exact c)

/- NOT PRINTED 36 (*varve/world.World).Pages: [a region that draws: writers without an order] -/
-- 37 (*varve/world.World).Told
noncomputable def B37 : Code := (Tryz.f37.body).getD .skip
def R37 : List ResultVar := [.tmp 2]
abbrev N37 : Nat := 10
def K37 : KT := (.seq .leaf (.join (.seq .leaf (.two (.seq .leaf .leaf [2]) .leaf) [0, 4]) (.seq .leaf .leaf [2]) [0]) [0])
def J37_11 (Q : AEnd → AH → Prop) (x0 : V) (h : AH) : Prop := vcAt Pg N37 B37 K37 [1, 1] [] (vcRet Pg R37 Q) [(0, x0)] h
theorem J37_11_eq (Q : AEnd → AH → Prop) (x0 : V) (h : AH) : J37_11 Q x0 h = (
  bindV (aNil x0 h) fun v3 h4 =>
  bindV (still (aFieldAddr Pg 211 v3 5) h4) fun v5 h6 =>
  bindV (aLoadV Pg h6 79 v5) fun v7 h8 =>
  bindV (aBuiltin Pg h8 .append [79, 79] [(V.slc none 0), v7]) fun v9 h10 =>
  Q (.ret v9) h10) := by kernel_rfl
theorem S37 (Q : AEnd → AH → Prop) (a0 : V) (h : AH) : vc Pg N37 B37 K37 (vcRet Pg R37 Q) (initEnv 0 [a0]) h = (
  bindV (still (aBin Pg .eql 74 a0 (V.ptr none) true) h) fun v1 h2 =>
  vcIf v1 (
  Q (.ret (V.slc none 0)) h2) (
  Meet (J37_11 Q a0 h2))) := by kernel_rfl
theorem C37 (Q : AEnd → AH → Prop) (a0 : V) (h : AH) (c :
  bindV (still (aBin Pg .eql 74 a0 (V.ptr none) true) h) fun v1 h2 =>
  vcIf v1 (
  Q (.ret (V.slc none 0)) h2) (
  Meet (J37_11 Q a0 h2))) : ACalls Pg 37 [a0] h Q :=
  acalls_of_vc okP Tryz.func37 (show Tryz.f37.body = some B37 from by kernel_rfl) K37 (by rw [← S37 Q a0 h] at c; exact c)

-- 38 (*varve/world.World).Store
noncomputable def B38 : Code := (Tryz.f38.body).getD .skip
def R38 : List ResultVar := [.tmp 2]
abbrev N38 : Nat := 9
def K38 : KT := (.seq .leaf (.join (.seq .leaf (.two (.seq .leaf .leaf [2]) .leaf) [0, 4]) (.seq .leaf .leaf [2]) [0]) [0])
def J38_11 (Q : AEnd → AH → Prop) (x0 : V) (h : AH) : Prop := vcAt Pg N38 B38 K38 [1, 1] [] (vcRet Pg R38 Q) [(0, x0)] h
theorem J38_11_eq (Q : AEnd → AH → Prop) (x0 : V) (h : AH) : J38_11 Q x0 h = (
  bindV (aNil x0 h) fun v3 h4 =>
  bindV (still (aFieldAddr Pg 211 v3 1) h4) fun v5 h6 =>
  bindV (aLoadV Pg h6 58 v5) fun v7 h8 =>
  Q (.ret v7) h8) := by kernel_rfl
theorem S38 (Q : AEnd → AH → Prop) (a0 : V) (h : AH) : vc Pg N38 B38 K38 (vcRet Pg R38 Q) (initEnv 0 [a0]) h = (
  bindV (still (aBin Pg .eql 74 a0 (V.ptr none) true) h) fun v1 h2 =>
  vcIf v1 (
  Q (.ret (V.ptr none)) h2) (
  Meet (J38_11 Q a0 h2))) := by kernel_rfl
theorem C38 (Q : AEnd → AH → Prop) (a0 : V) (h : AH) (c :
  bindV (still (aBin Pg .eql 74 a0 (V.ptr none) true) h) fun v1 h2 =>
  vcIf v1 (
  Q (.ret (V.ptr none)) h2) (
  Meet (J38_11 Q a0 h2))) : ACalls Pg 38 [a0] h Q :=
  acalls_of_vc okP Tryz.func38 (show Tryz.f38.body = some B38 from by kernel_rfl) K38 (by rw [← S38 Q a0 h] at c; exact c)

-- 39 (*varve/world.World).Disk
noncomputable def B39 : Code := (Tryz.f39.body).getD .skip
def R39 : List ResultVar := [.tmp 2]
abbrev N39 : Nat := 9
def K39 : KT := (.seq .leaf (.join (.seq .leaf (.two (.seq .leaf .leaf [2]) .leaf) [0, 4]) (.seq .leaf .leaf [2]) [0]) [0])
def J39_11 (Q : AEnd → AH → Prop) (x0 : V) (h : AH) : Prop := vcAt Pg N39 B39 K39 [1, 1] [] (vcRet Pg R39 Q) [(0, x0)] h
theorem J39_11_eq (Q : AEnd → AH → Prop) (x0 : V) (h : AH) : J39_11 Q x0 h = (
  bindV (aNil x0 h) fun v3 h4 =>
  bindV (still (aFieldAddr Pg 211 v3 0) h4) fun v5 h6 =>
  bindV (aLoadV Pg h6 25 v5) fun v7 h8 =>
  Q (.ret v7) h8) := by kernel_rfl
theorem S39 (Q : AEnd → AH → Prop) (a0 : V) (h : AH) : vc Pg N39 B39 K39 (vcRet Pg R39 Q) (initEnv 0 [a0]) h = (
  bindV (still (aBin Pg .eql 74 a0 (V.ptr none) true) h) fun v1 h2 =>
  vcIf v1 (
  Q (.ret (V.ptr none)) h2) (
  Meet (J39_11 Q a0 h2))) := by kernel_rfl
theorem C39 (Q : AEnd → AH → Prop) (a0 : V) (h : AH) (c :
  bindV (still (aBin Pg .eql 74 a0 (V.ptr none) true) h) fun v1 h2 =>
  vcIf v1 (
  Q (.ret (V.ptr none)) h2) (
  Meet (J39_11 Q a0 h2))) : ACalls Pg 39 [a0] h Q :=
  acalls_of_vc okP Tryz.func39 (show Tryz.f39.body = some B39 from by kernel_rfl) K39 (by rw [← S39 Q a0 h] at c; exact c)

-- 40 (*varve/world.World).Life
noncomputable def B40 : Code := (Tryz.f40.body).getD .skip
def R40 : List ResultVar := [.tmp 2]
abbrev N40 : Nat := 9
def K40 : KT := (.seq .leaf (.join (.seq .leaf (.two (.seq .leaf .leaf [2]) .leaf) [0, 4]) (.seq .leaf .leaf [2]) [0]) [0])
def J40_11 (Q : AEnd → AH → Prop) (x0 : V) (h : AH) : Prop := vcAt Pg N40 B40 K40 [1, 1] [] (vcRet Pg R40 Q) [(0, x0)] h
theorem J40_11_eq (Q : AEnd → AH → Prop) (x0 : V) (h : AH) : J40_11 Q x0 h = (
  bindV (aNil x0 h) fun v3 h4 =>
  bindV (still (aFieldAddr Pg 211 v3 3) h4) fun v5 h6 =>
  bindV (aLoadV Pg h6 3 v5) fun v7 h8 =>
  Q (.ret v7) h8) := by kernel_rfl
theorem S40 (Q : AEnd → AH → Prop) (a0 : V) (h : AH) : vc Pg N40 B40 K40 (vcRet Pg R40 Q) (initEnv 0 [a0]) h = (
  bindV (still (aBin Pg .eql 74 a0 (V.ptr none) true) h) fun v1 h2 =>
  vcIf v1 (
  Q (.ret (V.int .i64 0)) h2) (
  Meet (J40_11 Q a0 h2))) := by kernel_rfl
theorem C40 (Q : AEnd → AH → Prop) (a0 : V) (h : AH) (c :
  bindV (still (aBin Pg .eql 74 a0 (V.ptr none) true) h) fun v1 h2 =>
  vcIf v1 (
  Q (.ret (V.int .i64 0)) h2) (
  Meet (J40_11 Q a0 h2))) : ACalls Pg 40 [a0] h Q :=
  acalls_of_vc okP Tryz.func40 (show Tryz.f40.body = some B40 from by kernel_rfl) K40 (by rw [← S40 Q a0 h] at c; exact c)

end Go.Proofs.YtcglbpjpbjaecaaGreat.Sh
namespace Go.Proofs.YtcglbpjpbjaecaaGreat.Sh
open Go Go.Ab Go.RowKit
open Go.Proofs.YtcglbpjpbjaecaaGreat.Ru (Pg okP)
set_option maxRecDepth 100000
set_option linter.unusedVariables false
-- 35 (*varve/world.World).Do
noncomputable def B35 : Code := (Tryz.f35.body).getD .skip
def R35 : List ResultVar := []
abbrev N35 : Nat := 95
def K35 : KT := (.seq .leaf (.join (.seq .leaf (.two .leaf .leaf) [0, 3, 6]) (.seq .leaf (.join (.join (.reg [[0, 3, 19, 22]]) (.two .leaf .leaf) [0, 3, 23]) (.seq .leaf (.one (.seq .leaf (.two .leaf (.seq .leaf (.two .leaf (.seq .leaf (.two (.seq .leaf (.one (.loop (.seq .leaf (.join (.two .leaf .leaf) (.join (.one (.seq .leaf (.one (.loop (.seq .leaf (.join (.two .leaf .leaf) (.join (.one (.seq .leaf .leaf [0, 4, 45, 46, 48])) .leaf [0, 45, 46, 48]) [0, 45, 46, 48]) [0, 45, 46, 48, 49]) [0, 45, 46, 48])) [0, 45, 46, 48])) .leaf [0, 45, 46]) [0, 45, 46]) [0, 45, 46, 47]) [0, 45, 46])) [0, 45, 46]) (.seq .leaf (.two .leaf (.seq .leaf (.two (.eff [6]) (.seq .leaf (.two (.seq (.eff [6]) (.seq .leaf .leaf [0]) [0]) (.seq .leaf (.two .leaf .leaf) [0, 3, 89])) [0, 3, 25, 75])) [0, 3, 25, 65])) [0, 3, 25, 56])) [0, 3, 25, 40])) [0, 3, 25, 34])) [0, 3, 25, 26])) [0, 3, 25]) [0, 3]) [0, 3]) [0, 3]) [0, 3])
def J35_1111101111101001100100111 (Q : AEnd → AH → Prop) (n n1 : Nat) (x0 x45 x46 x48 : V) (h : AH) : Prop := vcAt Pg N35 B35 K35 [1, 1, 1, 1, 1, 0, 1, 1, 1, 1, 1, 0, 1, 0, 0, 1, 1, 0, 0, 1, 0, 0, 1, 1, 1] [n, n1] (vcRet Pg R35 Q) [(0, x0), (45, x45), (46, x46), (48, x48)] h
def J35_111110111110100110010011 (Q : AEnd → AH → Prop) (n n1 : Nat) (x0 x45 x46 x48 : V) (h : AH) : Prop := vcAt Pg N35 B35 K35 [1, 1, 1, 1, 1, 0, 1, 1, 1, 1, 1, 0, 1, 0, 0, 1, 1, 0, 0, 1, 0, 0, 1, 1] [n, n1] (vcRet Pg R35 Q) [(0, x0), (45, x45), (46, x46), (48, x48)] h
def J35_111110111110100111 (Q : AEnd → AH → Prop) (n : Nat) (x0 x45 x46 : V) (h : AH) : Prop := vcAt Pg N35 B35 K35 [1, 1, 1, 1, 1, 0, 1, 1, 1, 1, 1, 0, 1, 0, 0, 1, 1, 1] [n] (vcRet Pg R35 Q) [(0, x0), (45, x45), (46, x46)] h
def L35_111110111110100110010 (Q : AEnd → AH → Prop) (n : Nat) (n1 : Nat) (x0 x45 x46 x48 : V) (h : AH) : Prop := loopAt Pg N35 B35 K35 [1, 1, 1, 1, 1, 0, 1, 1, 1, 1, 1, 0, 1, 0, 0, 1, 1, 0, 0, 1, 0] [n] n1 (vcRet Pg R35 Q) [(0, x0), (45, x45), (46, x46), (48, x48)] h
def J35_11111011111010011 (Q : AEnd → AH → Prop) (n : Nat) (x0 x45 x46 : V) (h : AH) : Prop := vcAt Pg N35 B35 K35 [1, 1, 1, 1, 1, 0, 1, 1, 1, 1, 1, 0, 1, 0, 0, 1, 1] [n] (vcRet Pg R35 Q) [(0, x0), (45, x45), (46, x46)] h
def L35_11111011111010 (Q : AEnd → AH → Prop) (n : Nat) (x0 x45 x46 : V) (h : AH) : Prop := loopAt Pg N35 B35 K35 [1, 1, 1, 1, 1, 0, 1, 1, 1, 1, 1, 0, 1, 0] [] n (vcRet Pg R35 Q) [(0, x0), (45, x45), (46, x46)] h
def J35_1111 (Q : AEnd → AH → Prop) (x0 x3 : V) (h : AH) : Prop := vcAt Pg N35 B35 K35 [1, 1, 1, 1] [] (vcRet Pg R35 Q) [(0, x0), (3, x3)] h
def J35_11101 (Q : AEnd → AH → Prop) (x0 x3 x23 : V) (h : AH) : Prop := vcAt Pg N35 B35 K35 [1, 1, 1, 0, 1] [] (vcRet Pg R35 Q) [(0, x0), (3, x3), (23, x23)] h
def G35_111001002 (Q : AEnd → AH → Prop) (x0 x3 x19 x22 : V) (h : AH) : Prop := segAt Pg N35 B35 K35 [1, 1, 1, 0, 0] 2 1 [] (vcRet Pg R35 Q) [(0, x0), (3, x3), (19, x19), (22, x22)] h
def J35_11 (Q : AEnd → AH → Prop) (x0 x3 : V) (h : AH) : Prop := vcAt Pg N35 B35 K35 [1, 1] [] (vcRet Pg R35 Q) [(0, x0), (3, x3)] h
theorem J35_1111101111101001100100111_eq (Q : AEnd → AH → Prop) (n n1 : Nat) (x0 x45 x46 x48 : V) (h : AH) : J35_1111101111101001100100111 Q n n1 x0 x45 x46 x48 h = (
  bindV (still (aBin Pg .add 3 x48 (V.int .i64 1) true) h) fun v69 h70 =>
  Meet (L35_111110111110100110010 Q n n1 x0 x45 x46 v69 h70)) := by kernel_rfl
theorem J35_111110111110100110010011_eq (Q : AEnd → AH → Prop) (n n1 : Nat) (x0 x45 x46 x48 : V) (h : AH) : J35_111110111110100110010011 Q n n1 x0 x45 x46 x48 h = (
  ACalls Pg 105 [x0, x48] h (aEnd (fun v67 h68 =>
  Meet (J35_1111101111101001100100111 Q n n1 x0 x45 x46 x48 h68)) fun v h => Q (.panic v) h)) := by kernel_rfl
theorem J35_111110111110100111_eq (Q : AEnd → AH → Prop) (n : Nat) (x0 x45 x46 : V) (h : AH) : J35_111110111110100111 Q n x0 x45 x46 h = (
  bindV (still (aBin Pg .add 3 x46 (V.int .i64 1) true) h) fun v71 h72 =>
  Meet (L35_11111011111010 Q n x0 x45 v71 h72)) := by kernel_rfl
theorem L35_111110111110100110010_eq (Q : AEnd → AH → Prop) (n : Nat) (n1 : Nat) (x0 x45 x46 x48 : V) (h : AH) : L35_111110111110100110010 Q n (n1 + 1) x0 x45 x46 x48 h = (
  bindV (still (aBin Pg .lss 3 x48 (V.int .i64 10) true) h) fun v65 h66 =>
  vcIf v65 (
  Meet (J35_111110111110100110010011 Q n n1 x0 x45 x46 x48 h66)) (
  Meet (J35_111110111110100111 Q n x0 x45 x46 h66))) := by kernel_rfl
theorem J35_11111011111010011_eq (Q : AEnd → AH → Prop) (n : Nat) (x0 x45 x46 : V) (h : AH) : J35_11111011111010011 Q n x0 x45 x46 h = (
  ∃ n1, Meet (L35_111110111110100110010 Q n n1 x0 x45 x46 (V.int .i64 0) h)) := by kernel_rfl
theorem L35_11111011111010_eq (Q : AEnd → AH → Prop) (n : Nat) (x0 x45 x46 : V) (h : AH) : L35_11111011111010 Q (n + 1) x0 x45 x46 h = (
  bindV (still (aBin Pg .lss 3 x46 x45 false) h) fun v63 h64 =>
  vcIf v63 (
  Meet (J35_11111011111010011 Q n x0 x45 x46 h64)) (
  Q (.ret (V.tup [])) h64)) := by kernel_rfl
theorem J35_1111_eq (Q : AEnd → AH → Prop) (x0 x3 : V) (h : AH) : J35_1111 Q x0 x3 h = (
  bindV (still (aFieldAddr Pg 73 x3 0) h) fun v29 h30 =>
  bindV (aLoadV Pg h30 5 v29) fun v31 h32 =>
  bindV (still (aBin Pg .eql 5 v31 (V.int .u8 0) true) h32) fun v33 h34 =>
  vcIf v33 (
  bindV (still (aFieldAddr Pg 73 x3 1) h34) fun v35 h36 =>
  bindV (aLoadV Pg h36 3 v35) fun v37 h38 =>
  bindV (still (aFieldAddr Pg 73 x3 3) h38) fun v39 h40 =>
  bindV (aLoadV Pg h40 57 v39) fun v41 h42 =>
  ACalls Pg 103 [x0, v37, v41] h42 (aEnd (fun v43 h44 =>
  Q (.ret (V.tup [])) h44) fun v h => Q (.panic v) h)) (
  bindV (still (aBin Pg .eql 5 v31 (V.int .u8 1) true) h34) fun v45 h46 =>
  vcIf v45 (
  bindV (still (aFieldAddr Pg 73 x3 1) h46) fun v47 h48 =>
  bindV (aLoadV Pg h48 3 v47) fun v49 h50 =>
  ACalls Pg 104 [x0, v49] h50 (aEnd (fun v51 h52 =>
  Q (.ret (V.tup [])) h52) fun v h => Q (.panic v) h)) (
  bindV (still (aBin Pg .eql 5 v31 (V.int .u8 2) true) h46) fun v53 h54 =>
  vcIf v53 (
  bindV (still (aFieldAddr Pg 73 x3 1) h54) fun v55 h56 =>
  bindV (aLoadV Pg h56 3 v55) fun v57 h58 =>
  bindV (aBuiltin Pg h58 .max [3, 3] [v57, (V.int .i64 0)]) fun v59 h60 =>
  bindV (aBuiltin Pg h60 .min [3, 3] [v59, (V.int .i64 64)]) fun v61 h62 =>
  ∃ n, Meet (L35_11111011111010 Q n x0 v61 (V.int .i64 0) h62)) (
  bindV (still (aBin Pg .eql 5 v31 (V.int .u8 3) true) h54) fun v73 h74 =>
  vcIf v73 (
  bindO (fstV (aNil x0 h74)) fun v75 =>
  bindO (fstV (still (aFieldAddr Pg 211 v75 0) h74)) fun v76 =>
  bindO (fstV (aLoadV Pg h74 25 v76)) fun v77 =>
  bindO (fstV (still (aFieldAddr Pg 73 x3 1) h74)) fun v78 =>
  bindO (fstV (aLoadV Pg h74 3 v78)) fun v79 =>
  ∃ v80, ACalls Pg 106 [v77, (V.slc none 0), v79] h74 (pureE v80 h74) ∧ (
  Q (.ret (V.tup [])) h74)) (
  bindV (still (aBin Pg .eql 5 v31 (V.int .u8 4) true) h74) fun v81 h82 =>
  vcIf v81 (
  bindO (fstV (aNil x0 h82)) fun v83 =>
  bindO (fstV (still (aFieldAddr Pg 211 v83 0) h82)) fun v84 =>
  bindO (fstV (aLoadV Pg h82 25 v84)) fun v85 =>
  (
  bindO (fstV (still (aFieldAddr Pg 73 x3 1) h82)) fun v86 =>
  bindO (fstV (aLoadV Pg h82 3 v86)) fun v87 =>
  (
  bindV (aBuildSlice Pg h82 202 1 [(0, v87)]) fun v88 h89 => (aLoadV Pg h89 25 v84 = some (v85, h89)) ∧ (
  ∃ v90, ACalls Pg 106 [v85, v88, (V.int .i64 0)] h89 (pureE v90 h89) ∧ (
  (
  Q (.ret (V.tup [])) h89)))))) (
  bindV (still (aBin Pg .eql 5 v31 (V.int .u8 5) true) h82) fun v91 h92 =>
  vcIf v91 (
  bindO (fstV (aNil x0 h92)) fun v93 =>
  bindO (fstV (still (aFieldAddr Pg 211 v93 0) h92)) fun v94 =>
  bindO (fstV (aLoadV Pg h92 25 v94)) fun v95 =>
  (
  bindO (fstV (still (aFieldAddr Pg 73 x3 4) h92)) fun v96 =>
  bindO (fstV (aLoadV Pg h92 71 v96)) fun v97 =>
  (
  ∃ v98 h99, ACalls Pg 86 [v95, v97] h92 (pureE v98 h99) ∧ (
  bindV (aNil x0 h99) fun v100 h101 =>
  bindV (still (aFieldAddr Pg 211 v100 1) h101) fun v102 h103 =>
  bindV (aStoreV Pg h103 58 v102 (V.ptr none)) fun _ h105 =>
  ACalls Pg 107 [x0] h105 (aEnd (fun v106 h107 =>
  Q (.ret (V.tup [])) h107) fun v h => Q (.panic v) h))))) (
  bindV (still (aBin Pg .eql 5 v31 (V.int .u8 6) true) h92) fun v108 h109 =>
  vcIf v108 (
  bindV (still (aFieldAddr Pg 73 x3 1) h109) fun v110 h111 =>
  bindV (aLoadV Pg h111 3 v110) fun v112 h113 =>
  ACalls Pg 108 [x0, v112] h113 (aEnd (fun v114 h115 =>
  Q (.ret (V.tup [])) h115) fun v h => Q (.panic v) h)) (
  Q (.ret (V.tup [])) h109)))))))) := by kernel_rfl
theorem J35_11101_eq (Q : AEnd → AH → Prop) (x0 x3 x23 : V) (h : AH) : J35_11101 Q x0 x3 x23 h = (
  vcIf x23 (
  Q (.ret (V.tup [])) h) (
  Meet (J35_1111 Q x0 x3 h))) := by kernel_rfl
theorem G35_111001002_eq (Q : AEnd → AH → Prop) (x0 x3 x19 x22 : V) (h : AH) : G35_111001002 Q x0 x3 x19 x22 h = (
  bindV (aPick x19 x22 (V.bool false) h) fun v27 h28 =>
  Meet (J35_11101 Q x0 x3 v27 h28)) := by kernel_rfl
theorem J35_11_eq (Q : AEnd → AH → Prop) (x0 x3 : V) (h : AH) : J35_11 Q x0 x3 h = (
  bindV (aNil x0 h) fun v5 h6 =>
  bindV (still (aFieldAddr Pg 211 v5 4) h6) fun v7 h8 =>
  bindV (aLoadV Pg h8 3 v7) fun v9 h10 =>
  bindV (still (aBin Pg .add 3 v9 (V.int .i64 1) true) h10) fun v11 h12 =>
  bindV (aNil x0 h12) fun v13 h14 =>
  bindV (still (aFieldAddr Pg 211 v13 4) h14) fun v15 h16 =>
  bindV (aStoreV Pg h16 3 v15 v11) fun _ h18 =>
  bindV (aNil x0 h18) fun v19 h20 =>
  bindV (still (aFieldAddr Pg 211 v19 0) h20) fun v21 h22 =>
  bindV (aLoadV Pg h22 25 v21) fun v23 h24 =>
  ACalls Pg 102 [v23] h24 (aEnd (fun v25 h26 =>
  vcG v25 true (
  bindV (still (aFieldAddr Pg 73 x3 0) h26) fun v116 h117 =>
  bindV (aLoadV Pg h117 5 v116) fun v118 h119 =>
  bindV (still (aBin Pg .neq 5 v118 (V.int .u8 5) true) h119) fun v120 h121 =>
  Meet (G35_111001002 Q x0 x3 v25 v120 h121)) (Meet (G35_111001002 Q x0 x3 v25 hole h26))) fun v h => Q (.panic v) h)) := by kernel_rfl
theorem S35 (Q : AEnd → AH → Prop) (a0 a1 : V) (h : AH) : vc Pg N35 B35 K35 (vcRet Pg R35 Q) (initEnv 0 [a0, a1]) h = (
  bindV (aNew Pg h 73 a1) fun v1 h2 =>
  bindV (still (aBin Pg .eql 74 a0 (V.ptr none) true) h2) fun v3 h4 =>
  vcIf v3 (
  Q (.ret (V.tup [])) h4) (
  Meet (J35_11 Q a0 v1 h4))) := by kernel_rfl
theorem C35 (Q : AEnd → AH → Prop) (a0 a1 : V) (h : AH) (c :
  bindV (aNew Pg h 73 a1) fun v1 h2 =>
  bindV (still (aBin Pg .eql 74 a0 (V.ptr none) true) h2) fun v3 h4 =>
  vcIf v3 (
  Q (.ret (V.tup [])) h4) (
  Meet (J35_11 Q a0 v1 h4))) : ACalls Pg 35 [a0, a1] h Q :=
  acalls_of_vc okP Tryz.func35 (show Tryz.f35.body = some B35 from by kernel_rfl) K35 (by rw [← S35 Q a0 a1 h] at c; exact c)

end Go.Proofs.YtcglbpjpbjaecaaGreat.Sh
