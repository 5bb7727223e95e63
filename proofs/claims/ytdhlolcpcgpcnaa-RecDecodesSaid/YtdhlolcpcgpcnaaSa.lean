import Derived.Test.YtdhlolcpcgpcnaaAbE
import Derived.Test.YtdhlolcpcgpcnaaProg
set_option linter.unusedVariables false
set_option linter.unusedSimpArgs false
namespace Go.Proofs.Ytdhlolcpcgpcnaa.Sh
open Go Go.Ab Go.RowKit
noncomputable abbrev Pg : Program := Try.prog
theorem okAll : ((List.range Pg.types.size).all fun t => layAt Pg t && zeroAt Pg t) = true := by kernel_rfl
theorem okP : Ok Pg := ok_of Pg fun t ht => List.all_eq_true.1 okAll t (List.mem_range.2 ht)
end Go.Proofs.Ytdhlolcpcgpcnaa.Sh
namespace Go.Proofs.Ytdhlolcpcgpcnaa.Sh
open Go Go.Ab Go.RowKit
-- 10 varve/varvelaw08.RecEncodes
noncomputable def B10 : Code := (Try.f10.body).getD .skip
def R10 : List ResultVar := [.tmp 2]
abbrev N10 : Nat := 42
def K10 : KT := (.seq .leaf (.seq .leaf (.seq .leaf (.join (.reg [[1, 4, 6, 20, 24], [1, 4, 6, 26, 28], [1, 6, 26, 28, 30], [1, 6, 26, 31], [33, 37], [39, 40]]) .leaf [2]) [1, 3, 4, 5, 6]) [1, 3, 4]) [1])
def J10_1111 (Q : AEnd → AH → Prop) (x2 : V) (h : AH) : Prop := vcAt Pg N10 B10 K10 [1, 1, 1, 1] [] (vcRet Pg R10 Q) [(2, x2)] h
def G10_11101010 (Q : AEnd → AH → Prop) (x39 x40 : V) (h : AH) : Prop := segAt Pg N10 B10 K10 [1, 1, 1, 0] 10 6 [] (vcRet Pg R10 Q) [(39, x39), (40, x40)] h
def G10_11101008 (Q : AEnd → AH → Prop) (x33 x37 : V) (h : AH) : Prop := segAt Pg N10 B10 K10 [1, 1, 1, 0] 8 5 [] (vcRet Pg R10 Q) [(33, x33), (37, x37)] h
def G10_11101006 (Q : AEnd → AH → Prop) (x1 x6 x26 x31 : V) (h : AH) : Prop := segAt Pg N10 B10 K10 [1, 1, 1, 0] 6 4 [] (vcRet Pg R10 Q) [(1, x1), (6, x6), (26, x26), (31, x31)] h
def G10_11101005 (Q : AEnd → AH → Prop) (x1 x6 x26 x28 x30 : V) (h : AH) : Prop := segAt Pg N10 B10 K10 [1, 1, 1, 0] 5 3 [] (vcRet Pg R10 Q) [(1, x1), (6, x6), (26, x26), (28, x28), (30, x30)] h
def G10_11101004 (Q : AEnd → AH → Prop) (x1 x4 x6 x26 x28 : V) (h : AH) : Prop := segAt Pg N10 B10 K10 [1, 1, 1, 0] 4 2 [] (vcRet Pg R10 Q) [(1, x1), (4, x4), (6, x6), (26, x26), (28, x28)] h
def G10_11101002 (Q : AEnd → AH → Prop) (x1 x4 x6 x20 x24 : V) (h : AH) : Prop := segAt Pg N10 B10 K10 [1, 1, 1, 0] 2 1 [] (vcRet Pg R10 Q) [(1, x1), (4, x4), (6, x6), (20, x20), (24, x24)] h
theorem J10_1111_eq (Q : AEnd → AH → Prop) (x2 : V) (h : AH) : J10_1111 Q x2 h = (
  Q (.ret x2) h) := by kernel_rfl
theorem G10_11101010_eq (Q : AEnd → AH → Prop) (x39 x40 : V) (h : AH) : G10_11101010 Q x39 x40 h = (
  bindV (aPick x39 x40 (V.bool false) h) fun v27 h28 =>
  Meet (J10_1111 Q v27 h28)) := by kernel_rfl
theorem G10_11101008_eq (Q : AEnd → AH → Prop) (x33 x37 : V) (h : AH) : G10_11101008 Q x33 x37 h = (
  bindV (aPick x33 x37 (V.bool false) h) fun v25 h26 =>
  vcG v25 true (
  ACalls Pg 32 [] h26 (aEnd (fun v29 h30 =>
  Meet (G10_11101010 Q v25 v29 h30)) fun v h => Q (.panic v) h)) (Meet (G10_11101010 Q v25 hole h26))) := by kernel_rfl
theorem G10_11101006_eq (Q : AEnd → AH → Prop) (x1 x6 x26 x31 : V) (h : AH) : G10_11101006 Q x1 x6 x26 x31 h = (
  bindV (aPick x26 x31 (V.bool false) h) fun v23 h24 =>
  vcG v23 true (
  bindV (aLoadV Pg h24 51 x1) fun v31 h32 =>
  ACalls Pg 31 [v31] h32 (aEnd (fun v33 h34 =>
  bindV (still (aBin Pg .eql 4 v33 x6 false) h34) fun v35 h36 =>
  Meet (G10_11101008 Q v23 v35 h36)) fun v h => Q (.panic v) h)) (Meet (G10_11101008 Q v23 hole h24))) := by kernel_rfl
theorem G10_11101005_eq (Q : AEnd → AH → Prop) (x1 x6 x26 x28 x30 : V) (h : AH) : G10_11101005 Q x1 x6 x26 x28 x30 h = (
  vcG x26 true (
  bindV (aPick x28 (V.bool true) x30 h) fun v37 h38 =>
  Meet (G10_11101006 Q x1 x6 x26 v37 h38)) (Meet (G10_11101006 Q x1 x6 x26 hole h))) := by kernel_rfl
theorem G10_11101004_eq (Q : AEnd → AH → Prop) (x1 x4 x6 x26 x28 : V) (h : AH) : G10_11101004 Q x1 x4 x6 x26 x28 h = (
  vcG x28 false (
  bindV (still (aBin Pg .eql 52 x4 (V.int .i64 1) true) h) fun v39 h40 =>
  Meet (G10_11101005 Q x1 x6 x26 x28 v39 h40)) (Meet (G10_11101005 Q x1 x6 x26 x28 hole h))) := by kernel_rfl
theorem G10_11101002_eq (Q : AEnd → AH → Prop) (x1 x4 x6 x20 x24 : V) (h : AH) : G10_11101002 Q x1 x4 x6 x20 x24 h = (
  bindV (aPick x20 x24 (V.bool false) h) fun v21 h22 =>
  vcG v21 true (
  Meet (G10_11101004 Q x1 x4 x6 v21 x6 h22)) (Meet (G10_11101004 Q x1 x4 x6 v21 hole h22))) := by kernel_rfl
theorem S10 (Q : AEnd → AH → Prop) (a0 : V) (h : AH) : vc Pg N10 B10 K10 (vcRet Pg R10 Q) (initEnv 0 [a0]) h = (
  bindV (aNew Pg h 51 a0) fun v1 h2 =>
  bindV (aLoadV Pg h2 51 v1) fun v3 h4 =>
  ACalls Pg 29 [v3] h4 (aEnd (fun v5 h6 =>
  bindV (still (aExtract v5 0) h6) fun v7 h8 =>
  bindV (still (aExtract v5 1) h8) fun v9 h10 =>
  bindV (aLoadV Pg h10 51 v1) fun v11 h12 =>
  ACalls Pg 30 [v11] h12 (aEnd (fun v13 h14 =>
  bindV (still (aExtract v13 0) h14) fun v15 h16 =>
  bindV (still (aExtract v13 1) h16) fun v17 h18 =>
  bindV (still (aBin Pg .eql 9 v7 v15 false) h18) fun v19 h20 =>
  vcG v19 true (
  bindV (still (aBin Pg .eql 52 v9 (V.int .i64 0) true) h20) fun v41 h42 =>
  bindV (still (aBin Pg .eql 4 v41 v17 false) h42) fun v43 h44 =>
  Meet (G10_11101002 Q v1 v9 v17 v19 v43 h44)) (Meet (G10_11101002 Q v1 v9 v17 v19 hole h20))) fun v h => Q (.panic v) h)) fun v h => Q (.panic v) h)) := by kernel_rfl
theorem C10 (Q : AEnd → AH → Prop) (a0 : V) (h : AH) (c :
  bindV (aNew Pg h 51 a0) fun v1 h2 =>
  bindV (aLoadV Pg h2 51 v1) fun v3 h4 =>
  ACalls Pg 29 [v3] h4 (aEnd (fun v5 h6 =>
  bindV (still (aExtract v5 0) h6) fun v7 h8 =>
  bindV (still (aExtract v5 1) h8) fun v9 h10 =>
  bindV (aLoadV Pg h10 51 v1) fun v11 h12 =>
  ACalls Pg 30 [v11] h12 (aEnd (fun v13 h14 =>
  bindV (still (aExtract v13 0) h14) fun v15 h16 =>
  bindV (still (aExtract v13 1) h16) fun v17 h18 =>
  bindV (still (aBin Pg .eql 9 v7 v15 false) h18) fun v19 h20 =>
  vcG v19 true (
  bindV (still (aBin Pg .eql 52 v9 (V.int .i64 0) true) h20) fun v41 h42 =>
  bindV (still (aBin Pg .eql 4 v41 v17 false) h42) fun v43 h44 =>
  Meet (G10_11101002 Q v1 v9 v17 v19 v43 h44)) (Meet (G10_11101002 Q v1 v9 v17 v19 hole h20))) fun v h => Q (.panic v) h)) fun v h => Q (.panic v) h)) : ACalls Pg 10 [a0] h Q :=
  acalls_of_vc okP Try.func10 (show Try.f10.body = some B10 from by kernel_rfl) K10 (by rw [← S10 Q a0 h] at c; exact c)

-- 11 varve/varvelaw08.RecUnlike
noncomputable def B11 : Code := (Try.f11.body).getD .skip
def R11 : List ResultVar := [.tmp 4]
abbrev N11 : Nat := 36
def K11 : KT := (.seq .leaf (.seq .leaf (.seq .leaf (.join (.join (.reg [[2, 3, 5, 7, 21, 23]]) (.two (.seq .leaf .leaf [4]) .leaf) [2, 3, 5, 7, 24]) (.join (.reg [[33, 34]]) .leaf [4]) [2, 3, 5, 7]) [2, 3, 5, 6, 7, 8]) [2, 3, 5, 6]) [2, 3])
def J11_11111 (Q : AEnd → AH → Prop) (x4 : V) (h : AH) : Prop := vcAt Pg N11 B11 K11 [1, 1, 1, 1, 1] [] (vcRet Pg R11 Q) [(4, x4)] h
def G11_111101002 (Q : AEnd → AH → Prop) (x33 x34 : V) (h : AH) : Prop := segAt Pg N11 B11 K11 [1, 1, 1, 1, 0] 2 1 [] (vcRet Pg R11 Q) [(33, x33), (34, x34)] h
def J11_1111 (Q : AEnd → AH → Prop) (x2 x3 x5 x7 : V) (h : AH) : Prop := vcAt Pg N11 B11 K11 [1, 1, 1, 1] [] (vcRet Pg R11 Q) [(2, x2), (3, x3), (5, x5), (7, x7)] h
def J11_11101 (Q : AEnd → AH → Prop) (x2 x3 x5 x7 x24 : V) (h : AH) : Prop := vcAt Pg N11 B11 K11 [1, 1, 1, 0, 1] [] (vcRet Pg R11 Q) [(2, x2), (3, x3), (5, x5), (7, x7), (24, x24)] h
def G11_111001002 (Q : AEnd → AH → Prop) (x2 x3 x5 x7 x21 x23 : V) (h : AH) : Prop := segAt Pg N11 B11 K11 [1, 1, 1, 0, 0] 2 1 [] (vcRet Pg R11 Q) [(2, x2), (3, x3), (5, x5), (7, x7), (21, x21), (23, x23)] h
theorem J11_11111_eq (Q : AEnd → AH → Prop) (x4 : V) (h : AH) : J11_11111 Q x4 h = (
  Q (.ret x4) h) := by kernel_rfl
theorem G11_111101002_eq (Q : AEnd → AH → Prop) (x33 x34 : V) (h : AH) : G11_111101002 Q x33 x34 h = (
  bindV (aPick x33 x34 (V.bool false) h) fun v37 h38 =>
  Meet (J11_11111 Q v37 h38)) := by kernel_rfl
theorem J11_1111_eq (Q : AEnd → AH → Prop) (x2 x3 x5 x7 : V) (h : AH) : J11_1111 Q x2 x3 x5 x7 h = (
  bindV (still (aBin Pg .eql 9 x5 x7 false) h) fun v27 h28 =>
  bindV (aLoadV Pg h28 51 x2) fun v29 h30 =>
  bindV (aLoadV Pg h30 51 x3) fun v31 h32 =>
  bindV (still (aBin Pg .eql 51 v29 v31 false) h32) fun v33 h34 =>
  bindV (still (aBin Pg .eql 4 v27 v33 false) h34) fun v35 h36 =>
  vcG v35 true (
  ACalls Pg 32 [] h36 (aEnd (fun v39 h40 =>
  Meet (G11_111101002 Q v35 v39 h40)) fun v h => Q (.panic v) h)) (Meet (G11_111101002 Q v35 hole h36))) := by kernel_rfl
theorem J11_11101_eq (Q : AEnd → AH → Prop) (x2 x3 x5 x7 x24 : V) (h : AH) : J11_11101 Q x2 x3 x5 x7 x24 h = (
  vcIf x24 (
  ACalls Pg 32 [] h (aEnd (fun v25 h26 =>
  Q (.ret v25) h26) fun v h => Q (.panic v) h)) (
  Meet (J11_1111 Q x2 x3 x5 x7 h))) := by kernel_rfl
theorem G11_111001002_eq (Q : AEnd → AH → Prop) (x2 x3 x5 x7 x21 x23 : V) (h : AH) : G11_111001002 Q x2 x3 x5 x7 x21 x23 h = (
  bindV (aPick x21 (V.bool true) x23 h) fun v23 h24 =>
  Meet (J11_11101 Q x2 x3 x5 x7 v23 h24)) := by kernel_rfl
theorem S11 (Q : AEnd → AH → Prop) (a0 a1 : V) (h : AH) : vc Pg N11 B11 K11 (vcRet Pg R11 Q) (initEnv 0 [a0, a1]) h = (
  bindV (aNew Pg h 51 a0) fun v1 h2 =>
  bindV (aNew Pg h2 51 a1) fun v3 h4 =>
  bindV (aLoadV Pg h4 51 v1) fun v5 h6 =>
  ACalls Pg 29 [v5] h6 (aEnd (fun v7 h8 =>
  bindV (still (aExtract v7 0) h8) fun v9 h10 =>
  bindV (still (aExtract v7 1) h10) fun v11 h12 =>
  bindV (aLoadV Pg h12 51 v3) fun v13 h14 =>
  ACalls Pg 29 [v13] h14 (aEnd (fun v15 h16 =>
  bindV (still (aExtract v15 0) h16) fun v17 h18 =>
  bindV (still (aExtract v15 1) h18) fun v19 h20 =>
  bindV (still (aBin Pg .neq 52 v11 (V.int .i64 0) true) h20) fun v21 h22 =>
  vcG v21 false (
  bindV (still (aBin Pg .neq 52 v19 (V.int .i64 0) true) h22) fun v41 h42 =>
  Meet (G11_111001002 Q v1 v3 v9 v17 v21 v41 h42)) (Meet (G11_111001002 Q v1 v3 v9 v17 v21 hole h22))) fun v h => Q (.panic v) h)) fun v h => Q (.panic v) h)) := by kernel_rfl
theorem C11 (Q : AEnd → AH → Prop) (a0 a1 : V) (h : AH) (c :
  bindV (aNew Pg h 51 a0) fun v1 h2 =>
  bindV (aNew Pg h2 51 a1) fun v3 h4 =>
  bindV (aLoadV Pg h4 51 v1) fun v5 h6 =>
  ACalls Pg 29 [v5] h6 (aEnd (fun v7 h8 =>
  bindV (still (aExtract v7 0) h8) fun v9 h10 =>
  bindV (still (aExtract v7 1) h10) fun v11 h12 =>
  bindV (aLoadV Pg h12 51 v3) fun v13 h14 =>
  ACalls Pg 29 [v13] h14 (aEnd (fun v15 h16 =>
  bindV (still (aExtract v15 0) h16) fun v17 h18 =>
  bindV (still (aExtract v15 1) h18) fun v19 h20 =>
  bindV (still (aBin Pg .neq 52 v11 (V.int .i64 0) true) h20) fun v21 h22 =>
  vcG v21 false (
  bindV (still (aBin Pg .neq 52 v19 (V.int .i64 0) true) h22) fun v41 h42 =>
  Meet (G11_111001002 Q v1 v3 v9 v17 v21 v41 h42)) (Meet (G11_111001002 Q v1 v3 v9 v17 v21 hole h22))) fun v h => Q (.panic v) h)) fun v h => Q (.panic v) h)) : ACalls Pg 11 [a0, a1] h Q :=
  acalls_of_vc okP Try.func11 (show Try.f11.body = some B11 from by kernel_rfl) K11 (by rw [← S11 Q a0 a1 h] at c; exact c)

-- 15 varve/word.Zig
noncomputable def B15 : Code := (Try.f15.body).getD .skip
def R15 : List ResultVar := [.tmp 2]
abbrev N15 : Nat := 10
def K15 : KT := (.seq .leaf (.seq .leaf .leaf [2]) [0])
theorem S15 (Q : AEnd → AH → Prop) (a0 : V) (h : AH) : vc Pg N15 B15 K15 (vcRet Pg R15 Q) (initEnv 0 [a0]) h = (
  bindV (still (aBin Pg .shl 2 a0 (V.int .u64 1) true) h) fun v1 h2 =>
  bindV (still (aConv Pg h2 2 22 v1) h2) fun v3 h4 =>
  bindV (still (aBin Pg .shr 2 a0 (V.int .u64 63) true) h4) fun v5 h6 =>
  bindV (still (aConv Pg h6 2 22 v5) h6) fun v7 h8 =>
  bindV (still (aBin Pg .xor 22 v3 v7 false) h8) fun v9 h10 =>
  Q (.ret v9) h10) := by kernel_rfl
theorem C15 (Q : AEnd → AH → Prop) (a0 : V) (h : AH) (c :
  bindV (still (aBin Pg .shl 2 a0 (V.int .u64 1) true) h) fun v1 h2 =>
  bindV (still (aConv Pg h2 2 22 v1) h2) fun v3 h4 =>
  bindV (still (aBin Pg .shr 2 a0 (V.int .u64 63) true) h4) fun v5 h6 =>
  bindV (still (aConv Pg h6 2 22 v5) h6) fun v7 h8 =>
  bindV (still (aBin Pg .xor 22 v3 v7 false) h8) fun v9 h10 =>
  Q (.ret v9) h10) : ACalls Pg 15 [a0] h Q :=
  acalls_of_vc okP Try.func15 (show Try.f15.body = some B15 from by kernel_rfl) K15 (by rw [← S15 Q a0 h] at c; exact c)

-- 18 varve/word.Get
noncomputable def B18 : Code := (Try.f18.body).getD .skip
def R18 : List ResultVar := [.tmp 6, .tmp 7]
abbrev N18 : Nat := 50
def K18 : KT := (.seq .leaf (.join (.join (.reg [[0, 1, 2, 12, 14], [0, 1, 2, 16, 18], [0, 1, 2, 20, 24], [0, 1, 2, 26, 32]]) (.two (.seq .leaf .leaf [6, 7]) .leaf) [0, 1, 2, 33]) (.seq .leaf (.join (.seq .leaf (.one (.loop (.join (.seq .leaf (.two .leaf .leaf) [0, 1, 8, 9, 37]) (.join (.one .leaf) .leaf [0, 1, 8, 9]) [0, 1, 8, 9]) [0, 1, 8, 9])) [0, 1, 8, 9]) (.seq .leaf .leaf [6, 7]) [8]) [0, 1, 2, 8]) [0, 1, 2]) [0, 1, 2])
def J18_111010011 (Q : AEnd → AH → Prop) (n : Nat) (x0 x1 x8 x9 : V) (h : AH) : Prop := vcAt Pg N18 B18 K18 [1, 1, 1, 0, 1, 0, 0, 1, 1] [n] (vcRet Pg R18 Q) [(0, x0), (1, x1), (8, x8), (9, x9)] h
def J18_11101001 (Q : AEnd → AH → Prop) (n : Nat) (x0 x1 x8 x9 : V) (h : AH) : Prop := vcAt Pg N18 B18 K18 [1, 1, 1, 0, 1, 0, 0, 1] [n] (vcRet Pg R18 Q) [(0, x0), (1, x1), (8, x8), (9, x9)] h
def J18_1111 (Q : AEnd → AH → Prop) (x8 : V) (h : AH) : Prop := vcAt Pg N18 B18 K18 [1, 1, 1, 1] [] (vcRet Pg R18 Q) [(8, x8)] h
def L18_111010 (Q : AEnd → AH → Prop) (n : Nat) (x0 x1 x8 x9 : V) (h : AH) : Prop := loopAt Pg N18 B18 K18 [1, 1, 1, 0, 1, 0] [] n (vcRet Pg R18 Q) [(0, x0), (1, x1), (8, x8), (9, x9)] h
def J18_11 (Q : AEnd → AH → Prop) (x0 x1 x2 : V) (h : AH) : Prop := vcAt Pg N18 B18 K18 [1, 1] [] (vcRet Pg R18 Q) [(0, x0), (1, x1), (2, x2)] h
def J18_101 (Q : AEnd → AH → Prop) (x0 x1 x2 x33 : V) (h : AH) : Prop := vcAt Pg N18 B18 K18 [1, 0, 1] [] (vcRet Pg R18 Q) [(0, x0), (1, x1), (2, x2), (33, x33)] h
def G18_1001008 (Q : AEnd → AH → Prop) (x0 x1 x2 x26 x32 : V) (h : AH) : Prop := segAt Pg N18 B18 K18 [1, 0, 0] 8 4 [] (vcRet Pg R18 Q) [(0, x0), (1, x1), (2, x2), (26, x26), (32, x32)] h
def G18_1001006 (Q : AEnd → AH → Prop) (x0 x1 x2 x20 x24 : V) (h : AH) : Prop := segAt Pg N18 B18 K18 [1, 0, 0] 6 3 [] (vcRet Pg R18 Q) [(0, x0), (1, x1), (2, x2), (20, x20), (24, x24)] h
def G18_1001004 (Q : AEnd → AH → Prop) (x0 x1 x2 x16 x18 : V) (h : AH) : Prop := segAt Pg N18 B18 K18 [1, 0, 0] 4 2 [] (vcRet Pg R18 Q) [(0, x0), (1, x1), (2, x2), (16, x16), (18, x18)] h
def G18_1001002 (Q : AEnd → AH → Prop) (x0 x1 x2 x12 x14 : V) (h : AH) : Prop := segAt Pg N18 B18 K18 [1, 0, 0] 2 1 [] (vcRet Pg R18 Q) [(0, x0), (1, x1), (2, x2), (12, x12), (14, x14)] h
theorem J18_111010011_eq (Q : AEnd → AH → Prop) (n : Nat) (x0 x1 x8 x9 : V) (h : AH) : J18_111010011 Q n x0 x1 x8 x9 h = (
  bindV (still (aBin Pg .sub 3 x9 (V.int .i64 1) true) h) fun v25 h26 =>
  Meet (L18_111010 Q n x0 x1 x8 v25 h26)) := by kernel_rfl
theorem J18_11101001_eq (Q : AEnd → AH → Prop) (n : Nat) (x0 x1 x8 x9 : V) (h : AH) : J18_11101001 Q n x0 x1 x8 x9 h = (
  bindV (still (aBin Pg .shl 22 x8 (V.int .u64 8) true) h) fun v15 h16 =>
  bindV (still (aBin Pg .add 3 x1 x9 false) h16) fun v17 h18 =>
  bindV (still (aIndex Pg 9 x0 v17) h18) fun v19 h20 =>
  bindV (still (aConv Pg h20 5 22 v19) h20) fun v21 h22 =>
  bindV (still (aBin Pg .or 22 v15 v21 false) h22) fun v23 h24 =>
  Meet (J18_111010011 Q n x0 x1 v23 x9 h24)) := by kernel_rfl
theorem J18_1111_eq (Q : AEnd → AH → Prop) (x8 : V) (h : AH) : J18_1111 Q x8 h = (
  Q (.ret (V.tup [x8, (V.bool true)])) h) := by kernel_rfl
theorem L18_111010_eq (Q : AEnd → AH → Prop) (n : Nat) (x0 x1 x8 x9 : V) (h : AH) : L18_111010 Q (n + 1) x0 x1 x8 x9 h = (
  bindV (still (aBin Pg .geq 3 x9 (V.int .i64 0) true) h) fun v13 h14 =>
  vcIf v13 (
  Meet (J18_11101001 Q n x0 x1 x8 x9 h14)) (
  Meet (J18_1111 Q x8 h14))) := by kernel_rfl
theorem J18_11_eq (Q : AEnd → AH → Prop) (x0 x1 x2 : V) (h : AH) : J18_11 Q x0 x1 x2 h = (
  bindV (still (aBin Pg .sub 3 x2 (V.int .i64 1) true) h) fun v11 h12 =>
  ∃ n, Meet (L18_111010 Q n x0 x1 (V.int .u64 0) v11 h12)) := by kernel_rfl
theorem J18_101_eq (Q : AEnd → AH → Prop) (x0 x1 x2 x33 : V) (h : AH) : J18_101 Q x0 x1 x2 x33 h = (
  vcIf x33 (
  Q (.ret (V.tup [(V.int .u64 0), (V.bool false)])) h) (
  Meet (J18_11 Q x0 x1 x2 h))) := by kernel_rfl
theorem G18_1001008_eq (Q : AEnd → AH → Prop) (x0 x1 x2 x26 x32 : V) (h : AH) : G18_1001008 Q x0 x1 x2 x26 x32 h = (
  bindV (aPick x26 (V.bool true) x32 h) fun v9 h10 =>
  Meet (J18_101 Q x0 x1 x2 v9 h10)) := by kernel_rfl
theorem G18_1001006_eq (Q : AEnd → AH → Prop) (x0 x1 x2 x20 x24 : V) (h : AH) : G18_1001006 Q x0 x1 x2 x20 x24 h = (
  bindV (aPick x20 (V.bool true) x24 h) fun v7 h8 =>
  vcG v7 false (
  bindV (aBuiltin Pg h8 .len [9] [x0]) fun v27 h28 =>
  bindV (still (aBin Pg .sub 3 v27 x1 false) h28) fun v29 h30 =>
  bindV (still (aBin Pg .gtr 3 x2 v29 false) h30) fun v31 h32 =>
  Meet (G18_1001008 Q x0 x1 x2 v7 v31 h32)) (Meet (G18_1001008 Q x0 x1 x2 v7 hole h8))) := by kernel_rfl
theorem G18_1001004_eq (Q : AEnd → AH → Prop) (x0 x1 x2 x16 x18 : V) (h : AH) : G18_1001004 Q x0 x1 x2 x16 x18 h = (
  bindV (aPick x16 (V.bool true) x18 h) fun v5 h6 =>
  vcG v5 false (
  bindV (aBuiltin Pg h6 .len [9] [x0]) fun v33 h34 =>
  bindV (still (aBin Pg .gtr 3 x1 v33 false) h34) fun v35 h36 =>
  Meet (G18_1001006 Q x0 x1 x2 v5 v35 h36)) (Meet (G18_1001006 Q x0 x1 x2 v5 hole h6))) := by kernel_rfl
theorem G18_1001002_eq (Q : AEnd → AH → Prop) (x0 x1 x2 x12 x14 : V) (h : AH) : G18_1001002 Q x0 x1 x2 x12 x14 h = (
  bindV (aPick x12 (V.bool true) x14 h) fun v3 h4 =>
  vcG v3 false (
  bindV (still (aBin Pg .lss 3 x1 (V.int .i64 0) true) h4) fun v37 h38 =>
  Meet (G18_1001004 Q x0 x1 x2 v3 v37 h38)) (Meet (G18_1001004 Q x0 x1 x2 v3 hole h4))) := by kernel_rfl
theorem S18 (Q : AEnd → AH → Prop) (a0 a1 a2 : V) (h : AH) : vc Pg N18 B18 K18 (vcRet Pg R18 Q) (initEnv 0 [a0, a1, a2]) h = (
  bindV (still (aBin Pg .lss 3 a2 (V.int .i64 0) true) h) fun v1 h2 =>
  vcG v1 false (
  bindV (still (aBin Pg .gtr 3 a2 (V.int .i64 8) true) h2) fun v39 h40 =>
  Meet (G18_1001002 Q a0 a1 a2 v1 v39 h40)) (Meet (G18_1001002 Q a0 a1 a2 v1 hole h2))) := by kernel_rfl
theorem C18 (Q : AEnd → AH → Prop) (a0 a1 a2 : V) (h : AH) (c :
  bindV (still (aBin Pg .lss 3 a2 (V.int .i64 0) true) h) fun v1 h2 =>
  vcG v1 false (
  bindV (still (aBin Pg .gtr 3 a2 (V.int .i64 8) true) h2) fun v39 h40 =>
  Meet (G18_1001002 Q a0 a1 a2 v1 v39 h40)) (Meet (G18_1001002 Q a0 a1 a2 v1 hole h2))) : ACalls Pg 18 [a0, a1, a2] h Q :=
  acalls_of_vc okP Try.func18 (show Try.f18.body = some B18 from by kernel_rfl) K18 (by rw [← S18 Q a0 a1 a2 h] at c; exact c)

-- 20 varve/word.Var
noncomputable def B20 : Code := (Try.f20.body).getD .skip
def R20 : List ResultVar := [.tmp 2]
abbrev N20 : Nat := 20
def K20 : KT := (.seq .leaf (.seq .leaf (.join (.one (.loop (.join (.seq .leaf (.two .leaf .leaf) [0, 3, 5]) (.one (.seq .leaf .leaf [0, 3])) [0, 3]) [0, 3])) (.seq .leaf .leaf [2]) [0, 3]) [0, 3]) [0])
def J20_110001 (Q : AEnd → AH → Prop) (n : Nat) (x0 x3 : V) (h : AH) : Prop := vcAt Pg N20 B20 K20 [1, 1, 0, 0, 0, 1] [n] (vcRet Pg R20 Q) [(0, x0), (3, x3)] h
def J20_111 (Q : AEnd → AH → Prop) (x0 x3 : V) (h : AH) : Prop := vcAt Pg N20 B20 K20 [1, 1, 1] [] (vcRet Pg R20 Q) [(0, x0), (3, x3)] h
def L20_1100 (Q : AEnd → AH → Prop) (n : Nat) (x0 x3 : V) (h : AH) : Prop := loopAt Pg N20 B20 K20 [1, 1, 0, 0] [] n (vcRet Pg R20 Q) [(0, x0), (3, x3)] h
theorem J20_110001_eq (Q : AEnd → AH → Prop) (n : Nat) (x0 x3 : V) (h : AH) : J20_110001 Q n x0 x3 h = (
  bindV (still (aConv Pg h 22 5 x0) h) fun v3 h4 =>
  bindV (still (aBin Pg .or 5 v3 (V.int .u8 128) true) h4) fun v5 h6 =>
  bindV (aBuildSlice Pg h6 67 1 [(0, v5)]) fun v7 h8 =>
  bindV (aBuiltin Pg h8 .append [67, 67] [x3, v7]) fun v9 h10 =>
  bindV (still (aBin Pg .shr 22 x0 (V.int .u64 7) true) h10) fun v11 h12 =>
  Meet (L20_1100 Q n v11 v9 h12)) := by kernel_rfl
theorem J20_111_eq (Q : AEnd → AH → Prop) (x0 x3 : V) (h : AH) : J20_111 Q x0 x3 h = (
  bindV (still (aConv Pg h 22 5 x0) h) fun v13 h14 =>
  bindV (aBuildSlice Pg h14 67 1 [(0, v13)]) fun v15 h16 =>
  bindV (aBuiltin Pg h16 .append [67, 67] [x3, v15]) fun v17 h18 =>
  bindV (still (aConv Pg h18 67 9 v17) h18) fun v19 h20 =>
  Q (.ret v19) h20) := by kernel_rfl
theorem L20_1100_eq (Q : AEnd → AH → Prop) (n : Nat) (x0 x3 : V) (h : AH) : L20_1100 Q (n + 1) x0 x3 h = (
  bindV (still (aBin Pg .geq 22 x0 (V.int .u64 128) true) h) fun v1 h2 =>
  vcIf v1 (
  Meet (J20_110001 Q n x0 x3 h2)) (
  Meet (J20_111 Q x0 x3 h2))) := by kernel_rfl
theorem S20 (Q : AEnd → AH → Prop) (a0 : V) (h : AH) : vc Pg N20 B20 K20 (vcRet Pg R20 Q) (initEnv 0 [a0]) h = (
  ∃ n, Meet (L20_1100 Q n a0 (V.slc none 0) h)) := by kernel_rfl
theorem C20 (Q : AEnd → AH → Prop) (a0 : V) (h : AH) (c :
  ∃ n, Meet (L20_1100 Q n a0 (V.slc none 0) h)) : ACalls Pg 20 [a0] h Q :=
  acalls_of_vc okP Try.func20 (show Try.f20.body = some B20 from by kernel_rfl) K20 (by rw [← S20 Q a0 h] at c; exact c)

-- 21 varve/word.Width
noncomputable def B21 : Code := (Try.f21.body).getD .skip
def R21 : List ResultVar := [.tmp 2]
abbrev N21 : Nat := 11
def K21 : KT := (.seq .leaf (.seq .leaf (.join (.one (.loop (.join (.seq .leaf (.two .leaf .leaf) [0, 3, 5]) (.join (.one .leaf) .leaf [0, 3]) [0, 3]) [0, 3])) (.seq .leaf .leaf [2]) [3]) [0, 3]) [0])
def J21_1100011 (Q : AEnd → AH → Prop) (n : Nat) (x0 x3 : V) (h : AH) : Prop := vcAt Pg N21 B21 K21 [1, 1, 0, 0, 0, 1, 1] [n] (vcRet Pg R21 Q) [(0, x0), (3, x3)] h
def J21_110001 (Q : AEnd → AH → Prop) (n : Nat) (x0 x3 : V) (h : AH) : Prop := vcAt Pg N21 B21 K21 [1, 1, 0, 0, 0, 1] [n] (vcRet Pg R21 Q) [(0, x0), (3, x3)] h
def J21_111 (Q : AEnd → AH → Prop) (x3 : V) (h : AH) : Prop := vcAt Pg N21 B21 K21 [1, 1, 1] [] (vcRet Pg R21 Q) [(3, x3)] h
def L21_1100 (Q : AEnd → AH → Prop) (n : Nat) (x0 x3 : V) (h : AH) : Prop := loopAt Pg N21 B21 K21 [1, 1, 0, 0] [] n (vcRet Pg R21 Q) [(0, x0), (3, x3)] h
theorem J21_1100011_eq (Q : AEnd → AH → Prop) (n : Nat) (x0 x3 : V) (h : AH) : J21_1100011 Q n x0 x3 h = (
  bindV (still (aBin Pg .shr 22 x0 (V.int .u64 8) true) h) fun v5 h6 =>
  Meet (L21_1100 Q n v5 x3 h6)) := by kernel_rfl
theorem J21_110001_eq (Q : AEnd → AH → Prop) (n : Nat) (x0 x3 : V) (h : AH) : J21_110001 Q n x0 x3 h = (
  bindV (still (aBin Pg .add 3 x3 (V.int .i64 1) true) h) fun v3 h4 =>
  Meet (J21_1100011 Q n x0 v3 h4)) := by kernel_rfl
theorem J21_111_eq (Q : AEnd → AH → Prop) (x3 : V) (h : AH) : J21_111 Q x3 h = (
  Q (.ret x3) h) := by kernel_rfl
theorem L21_1100_eq (Q : AEnd → AH → Prop) (n : Nat) (x0 x3 : V) (h : AH) : L21_1100 Q (n + 1) x0 x3 h = (
  bindV (still (aBin Pg .gtr 22 x0 (V.int .u64 0) true) h) fun v1 h2 =>
  vcIf v1 (
  Meet (J21_110001 Q n x0 x3 h2)) (
  Meet (J21_111 Q x3 h2))) := by kernel_rfl
theorem S21 (Q : AEnd → AH → Prop) (a0 : V) (h : AH) : vc Pg N21 B21 K21 (vcRet Pg R21 Q) (initEnv 0 [a0]) h = (
  ∃ n, Meet (L21_1100 Q n a0 (V.int .i64 0) h)) := by kernel_rfl
theorem C21 (Q : AEnd → AH → Prop) (a0 : V) (h : AH) (c :
  ∃ n, Meet (L21_1100 Q n a0 (V.int .i64 0) h)) : ACalls Pg 21 [a0] h Q :=
  acalls_of_vc okP Try.func21 (show Try.f21.body = some B21 from by kernel_rfl) K21 (by rw [← S21 Q a0 h] at c; exact c)

-- 22 varve/word.Put
noncomputable def B22 : Code := (Try.f22.body).getD .skip
def R22 : List ResultVar := [.tmp 4]
abbrev N22 : Nat := 31
def K22 : KT := (.seq .leaf (.join (.join (.reg [[0, 1, 9, 11]]) (.two (.seq .leaf .leaf [4]) .leaf) [0, 1, 12]) (.seq .leaf (.join (.seq .leaf (.one (.loop (.seq .leaf (.join (.two .leaf .leaf) (.join (.one (.seq .leaf .leaf [0, 5, 6, 16, 17])) .leaf [0, 5, 16, 17]) [0, 5, 16, 17]) [0, 5, 16, 17, 18]) [0, 5, 16, 17])) [0, 5, 16, 17]) (.seq .leaf .leaf [4]) [5]) [0, 5]) [0, 1]) [0, 1])
def J22_1110100111 (Q : AEnd → AH → Prop) (n : Nat) (x0 x5 x16 x17 : V) (h : AH) : Prop := vcAt Pg N22 B22 K22 [1, 1, 1, 0, 1, 0, 0, 1, 1, 1] [n] (vcRet Pg R22 Q) [(0, x0), (5, x5), (16, x16), (17, x17)] h
def J22_111010011 (Q : AEnd → AH → Prop) (n : Nat) (x0 x5 x16 x17 : V) (h : AH) : Prop := vcAt Pg N22 B22 K22 [1, 1, 1, 0, 1, 0, 0, 1, 1] [n] (vcRet Pg R22 Q) [(0, x0), (5, x5), (16, x16), (17, x17)] h
def J22_1111 (Q : AEnd → AH → Prop) (x5 : V) (h : AH) : Prop := vcAt Pg N22 B22 K22 [1, 1, 1, 1] [] (vcRet Pg R22 Q) [(5, x5)] h
def L22_111010 (Q : AEnd → AH → Prop) (n : Nat) (x0 x5 x16 x17 : V) (h : AH) : Prop := loopAt Pg N22 B22 K22 [1, 1, 1, 0, 1, 0] [] n (vcRet Pg R22 Q) [(0, x0), (5, x5), (16, x16), (17, x17)] h
def J22_11 (Q : AEnd → AH → Prop) (x0 x1 : V) (h : AH) : Prop := vcAt Pg N22 B22 K22 [1, 1] [] (vcRet Pg R22 Q) [(0, x0), (1, x1)] h
def J22_101 (Q : AEnd → AH → Prop) (x0 x1 x12 : V) (h : AH) : Prop := vcAt Pg N22 B22 K22 [1, 0, 1] [] (vcRet Pg R22 Q) [(0, x0), (1, x1), (12, x12)] h
def G22_1001002 (Q : AEnd → AH → Prop) (x0 x1 x9 x11 : V) (h : AH) : Prop := segAt Pg N22 B22 K22 [1, 0, 0] 2 1 [] (vcRet Pg R22 Q) [(0, x0), (1, x1), (9, x9), (11, x11)] h
theorem J22_1110100111_eq (Q : AEnd → AH → Prop) (n : Nat) (x0 x5 x16 x17 : V) (h : AH) : J22_1110100111 Q n x0 x5 x16 x17 h = (
  bindV (still (aBin Pg .add 3 x17 (V.int .i64 1) true) h) fun v21 h22 =>
  Meet (L22_111010 Q n x0 x5 x16 v21 h22)) := by kernel_rfl
theorem J22_111010011_eq (Q : AEnd → AH → Prop) (n : Nat) (x0 x5 x16 x17 : V) (h : AH) : J22_111010011 Q n x0 x5 x16 x17 h = (
  bindV (still (aBin Pg .mul 3 (V.int .i64 8) x17 true) h) fun v11 h12 =>
  bindV (still (aBin Pg .shr 22 x0 v11 false) h12) fun v13 h14 =>
  bindV (still (aConv Pg h14 22 5 v13) h14) fun v15 h16 =>
  bindV (still (aIndexAddr Pg 67 x5 x17) h16) fun v17 h18 =>
  bindV (aStoreV Pg h18 5 v17 v15) fun _ h20 =>
  Meet (J22_1110100111 Q n x0 x5 x16 x17 h20)) := by kernel_rfl
theorem J22_1111_eq (Q : AEnd → AH → Prop) (x5 : V) (h : AH) : J22_1111 Q x5 h = (
  bindV (still (aConv Pg h 67 9 x5) h) fun v23 h24 =>
  Q (.ret v23) h24) := by kernel_rfl
theorem L22_111010_eq (Q : AEnd → AH → Prop) (n : Nat) (x0 x5 x16 x17 : V) (h : AH) : L22_111010 Q (n + 1) x0 x5 x16 x17 h = (
  bindV (still (aBin Pg .lss 3 x17 x16 false) h) fun v9 h10 =>
  vcIf v9 (
  Meet (J22_111010011 Q n x0 x5 x16 x17 h10)) (
  Meet (J22_1111 Q x5 h10))) := by kernel_rfl
theorem J22_11_eq (Q : AEnd → AH → Prop) (x0 x1 : V) (h : AH) : J22_11 Q x0 x1 h = (
  bindV (aMakeSlice Pg h 67 x1 x1) fun v5 h6 =>
  bindV (aBuiltin Pg h6 .len [67] [v5]) fun v7 h8 =>
  ∃ n, Meet (L22_111010 Q n x0 v5 v7 (V.int .i64 0) h8)) := by kernel_rfl
theorem J22_101_eq (Q : AEnd → AH → Prop) (x0 x1 x12 : V) (h : AH) : J22_101 Q x0 x1 x12 h = (
  vcIf x12 (
  Q (.ret (V.str [])) h) (
  Meet (J22_11 Q x0 x1 h))) := by kernel_rfl
theorem G22_1001002_eq (Q : AEnd → AH → Prop) (x0 x1 x9 x11 : V) (h : AH) : G22_1001002 Q x0 x1 x9 x11 h = (
  bindV (aPick x9 (V.bool true) x11 h) fun v3 h4 =>
  Meet (J22_101 Q x0 x1 v3 h4)) := by kernel_rfl
theorem S22 (Q : AEnd → AH → Prop) (a0 a1 : V) (h : AH) : vc Pg N22 B22 K22 (vcRet Pg R22 Q) (initEnv 0 [a0, a1]) h = (
  bindV (still (aBin Pg .lss 3 a1 (V.int .i64 0) true) h) fun v1 h2 =>
  vcG v1 false (
  bindV (still (aBin Pg .gtr 3 a1 (V.int .i64 8) true) h2) fun v25 h26 =>
  Meet (G22_1001002 Q a0 a1 v1 v25 h26)) (Meet (G22_1001002 Q a0 a1 v1 hole h2))) := by kernel_rfl
theorem C22 (Q : AEnd → AH → Prop) (a0 a1 : V) (h : AH) (c :
  bindV (still (aBin Pg .lss 3 a1 (V.int .i64 0) true) h) fun v1 h2 =>
  vcG v1 false (
  bindV (still (aBin Pg .gtr 3 a1 (V.int .i64 8) true) h2) fun v25 h26 =>
  Meet (G22_1001002 Q a0 a1 v1 v25 h26)) (Meet (G22_1001002 Q a0 a1 v1 hole h2))) : ACalls Pg 22 [a0, a1] h Q :=
  acalls_of_vc okP Try.func22 (show Try.f22.body = some B22 from by kernel_rfl) K22 (by rw [← S22 Q a0 a1 h] at c; exact c)

-- 23 varve/varveref01.Put
noncomputable def B23 : Code := (Try.f23.body).getD .skip
def R23 : List ResultVar := [.tmp 4]
abbrev N23 : Nat := 28
def K23 : KT := (.seq .leaf (.join (.join (.reg [[0, 1, 9, 11]]) (.two (.seq .leaf .leaf [4]) .leaf) [0, 1, 12]) (.seq .leaf (.join (.seq .leaf (.one (.loop (.join (.seq .leaf (.two .leaf .leaf) [0, 1, 5, 6, 15]) (.join (.one (.seq .leaf .leaf [0, 1, 5, 6])) .leaf [0, 1, 5, 6]) [0, 1, 5, 6]) [0, 1, 5, 6])) [0, 1, 5, 6]) (.seq .leaf .leaf [4]) [5]) [0, 1, 5]) [0, 1]) [0, 1])
def J23_111010011 (Q : AEnd → AH → Prop) (n : Nat) (x0 x1 x5 x6 : V) (h : AH) : Prop := vcAt Pg N23 B23 K23 [1, 1, 1, 0, 1, 0, 0, 1, 1] [n] (vcRet Pg R23 Q) [(0, x0), (1, x1), (5, x5), (6, x6)] h
def J23_11101001 (Q : AEnd → AH → Prop) (n : Nat) (x0 x1 x5 x6 : V) (h : AH) : Prop := vcAt Pg N23 B23 K23 [1, 1, 1, 0, 1, 0, 0, 1] [n] (vcRet Pg R23 Q) [(0, x0), (1, x1), (5, x5), (6, x6)] h
def J23_1111 (Q : AEnd → AH → Prop) (x5 : V) (h : AH) : Prop := vcAt Pg N23 B23 K23 [1, 1, 1, 1] [] (vcRet Pg R23 Q) [(5, x5)] h
def L23_111010 (Q : AEnd → AH → Prop) (n : Nat) (x0 x1 x5 x6 : V) (h : AH) : Prop := loopAt Pg N23 B23 K23 [1, 1, 1, 0, 1, 0] [] n (vcRet Pg R23 Q) [(0, x0), (1, x1), (5, x5), (6, x6)] h
def J23_11 (Q : AEnd → AH → Prop) (x0 x1 : V) (h : AH) : Prop := vcAt Pg N23 B23 K23 [1, 1] [] (vcRet Pg R23 Q) [(0, x0), (1, x1)] h
def J23_101 (Q : AEnd → AH → Prop) (x0 x1 x12 : V) (h : AH) : Prop := vcAt Pg N23 B23 K23 [1, 0, 1] [] (vcRet Pg R23 Q) [(0, x0), (1, x1), (12, x12)] h
def G23_1001002 (Q : AEnd → AH → Prop) (x0 x1 x9 x11 : V) (h : AH) : Prop := segAt Pg N23 B23 K23 [1, 0, 0] 2 1 [] (vcRet Pg R23 Q) [(0, x0), (1, x1), (9, x9), (11, x11)] h
theorem J23_111010011_eq (Q : AEnd → AH → Prop) (n : Nat) (x0 x1 x5 x6 : V) (h : AH) : J23_111010011 Q n x0 x1 x5 x6 h = (
  bindV (still (aBin Pg .add 3 x6 (V.int .i64 1) true) h) fun v19 h20 =>
  Meet (L23_111010 Q n x0 x1 x5 v19 h20)) := by kernel_rfl
theorem J23_11101001_eq (Q : AEnd → AH → Prop) (n : Nat) (x0 x1 x5 x6 : V) (h : AH) : J23_11101001 Q n x0 x1 x5 x6 h = (
  bindV (still (aBin Pg .rem 22 x0 (V.int .u64 256) true) h) fun v7 h8 =>
  bindV (still (aConv Pg h8 22 5 v7) h8) fun v9 h10 =>
  bindV (aBuildSlice Pg h10 67 1 [(0, v9)]) fun v11 h12 =>
  bindV (still (aConv Pg h12 67 9 v11) h12) fun v13 h14 =>
  bindV (still (aBin Pg .add 9 x5 v13 false) h14) fun v15 h16 =>
  bindV (still (aBin Pg .quo 22 x0 (V.int .u64 256) true) h16) fun v17 h18 =>
  Meet (J23_111010011 Q n v17 x1 v15 x6 h18)) := by kernel_rfl
theorem J23_1111_eq (Q : AEnd → AH → Prop) (x5 : V) (h : AH) : J23_1111 Q x5 h = (
  Q (.ret x5) h) := by kernel_rfl
theorem L23_111010_eq (Q : AEnd → AH → Prop) (n : Nat) (x0 x1 x5 x6 : V) (h : AH) : L23_111010 Q (n + 1) x0 x1 x5 x6 h = (
  bindV (still (aBin Pg .lss 3 x6 x1 false) h) fun v5 h6 =>
  vcIf v5 (
  Meet (J23_11101001 Q n x0 x1 x5 x6 h6)) (
  Meet (J23_1111 Q x5 h6))) := by kernel_rfl
theorem J23_11_eq (Q : AEnd → AH → Prop) (x0 x1 : V) (h : AH) : J23_11 Q x0 x1 h = (
  ∃ n, Meet (L23_111010 Q n x0 x1 (V.str []) (V.int .i64 0) h)) := by kernel_rfl
theorem J23_101_eq (Q : AEnd → AH → Prop) (x0 x1 x12 : V) (h : AH) : J23_101 Q x0 x1 x12 h = (
  vcIf x12 (
  Q (.ret (V.str [])) h) (
  Meet (J23_11 Q x0 x1 h))) := by kernel_rfl
theorem G23_1001002_eq (Q : AEnd → AH → Prop) (x0 x1 x9 x11 : V) (h : AH) : G23_1001002 Q x0 x1 x9 x11 h = (
  bindV (aPick x9 (V.bool true) x11 h) fun v3 h4 =>
  Meet (J23_101 Q x0 x1 v3 h4)) := by kernel_rfl
theorem S23 (Q : AEnd → AH → Prop) (a0 a1 : V) (h : AH) : vc Pg N23 B23 K23 (vcRet Pg R23 Q) (initEnv 0 [a0, a1]) h = (
  bindV (still (aBin Pg .lss 3 a1 (V.int .i64 0) true) h) fun v1 h2 =>
  vcG v1 false (
  bindV (still (aBin Pg .gtr 3 a1 (V.int .i64 8) true) h2) fun v21 h22 =>
  Meet (G23_1001002 Q a0 a1 v1 v21 h22)) (Meet (G23_1001002 Q a0 a1 v1 hole h2))) := by kernel_rfl
theorem C23 (Q : AEnd → AH → Prop) (a0 a1 : V) (h : AH) (c :
  bindV (still (aBin Pg .lss 3 a1 (V.int .i64 0) true) h) fun v1 h2 =>
  vcG v1 false (
  bindV (still (aBin Pg .gtr 3 a1 (V.int .i64 8) true) h2) fun v21 h22 =>
  Meet (G23_1001002 Q a0 a1 v1 v21 h22)) (Meet (G23_1001002 Q a0 a1 v1 hole h2))) : ACalls Pg 23 [a0, a1] h Q :=
  acalls_of_vc okP Try.func23 (show Try.f23.body = some B23 from by kernel_rfl) K23 (by rw [← S23 Q a0 a1 h] at c; exact c)

-- 24 varve/varveref01.Width
noncomputable def B24 : Code := (Try.f24.body).getD .skip
def R24 : List ResultVar := [.tmp 2]
abbrev N24 : Nat := 11
def K24 : KT := (.seq .leaf (.seq .leaf (.join (.one (.loop (.join (.seq .leaf (.two .leaf .leaf) [0, 3, 5]) (.one (.seq .leaf .leaf [0, 3])) [0, 3]) [0, 3])) (.seq .leaf .leaf [2]) [3]) [0, 3]) [0])
def J24_110001 (Q : AEnd → AH → Prop) (n : Nat) (x0 x3 : V) (h : AH) : Prop := vcAt Pg N24 B24 K24 [1, 1, 0, 0, 0, 1] [n] (vcRet Pg R24 Q) [(0, x0), (3, x3)] h
def J24_111 (Q : AEnd → AH → Prop) (x3 : V) (h : AH) : Prop := vcAt Pg N24 B24 K24 [1, 1, 1] [] (vcRet Pg R24 Q) [(3, x3)] h
def L24_1100 (Q : AEnd → AH → Prop) (n : Nat) (x0 x3 : V) (h : AH) : Prop := loopAt Pg N24 B24 K24 [1, 1, 0, 0] [] n (vcRet Pg R24 Q) [(0, x0), (3, x3)] h
theorem J24_110001_eq (Q : AEnd → AH → Prop) (n : Nat) (x0 x3 : V) (h : AH) : J24_110001 Q n x0 x3 h = (
  bindV (still (aBin Pg .add 3 x3 (V.int .i64 1) true) h) fun v3 h4 =>
  bindV (still (aBin Pg .quo 22 x0 (V.int .u64 256) true) h4) fun v5 h6 =>
  Meet (L24_1100 Q n v5 v3 h6)) := by kernel_rfl
theorem J24_111_eq (Q : AEnd → AH → Prop) (x3 : V) (h : AH) : J24_111 Q x3 h = (
  Q (.ret x3) h) := by kernel_rfl
theorem L24_1100_eq (Q : AEnd → AH → Prop) (n : Nat) (x0 x3 : V) (h : AH) : L24_1100 Q (n + 1) x0 x3 h = (
  bindV (still (aBin Pg .gtr 22 x0 (V.int .u64 0) true) h) fun v1 h2 =>
  vcIf v1 (
  Meet (J24_110001 Q n x0 x3 h2)) (
  Meet (J24_111 Q x3 h2))) := by kernel_rfl
theorem S24 (Q : AEnd → AH → Prop) (a0 : V) (h : AH) : vc Pg N24 B24 K24 (vcRet Pg R24 Q) (initEnv 0 [a0]) h = (
  ∃ n, Meet (L24_1100 Q n a0 (V.int .i64 0) h)) := by kernel_rfl
theorem C24 (Q : AEnd → AH → Prop) (a0 : V) (h : AH) (c :
  ∃ n, Meet (L24_1100 Q n a0 (V.int .i64 0) h)) : ACalls Pg 24 [a0] h Q :=
  acalls_of_vc okP Try.func24 (show Try.f24.body = some B24 from by kernel_rfl) K24 (by rw [← S24 Q a0 h] at c; exact c)

-- 25 varve/word.TakeVar
noncomputable def B25 : Code := (Try.f25.body).getD .skip
def R25 : List ResultVar := [.tmp 4, .tmp 5, .tmp 6]
abbrev N25 : Nat := 56
def K25 : KT := (.seq .leaf (.join (.seq .leaf (.two (.seq .leaf .leaf [4, 5, 6]) .leaf) [0, 1, 11]) (.seq .leaf (.join (.seq .leaf (.one (.loop (.join (.join (.reg [[0, 1, 7, 8, 14, 20]]) (.two .leaf .leaf) [0, 1, 7, 8, 21]) (.join (.one (.seq .leaf (.join (.join (.reg [[0, 1, 7, 8, 9, 31, 33]]) (.two (.seq .leaf .leaf [4, 5, 6]) .leaf) [0, 1, 7, 8, 9, 34]) (.seq .leaf (.seq .leaf (.two (.join (.join (.reg [[1, 7, 8, 47, 49]]) (.two (.seq .leaf .leaf [4, 5, 6]) .leaf) [1, 7, 8, 50]) (.seq .leaf .leaf [4, 5, 6]) [1, 7, 8]) .leaf) [0, 1, 7, 8, 9, 44]) [0, 1, 7, 8, 9]) [0, 1, 7, 8, 9]) [0, 1, 7, 8, 9])) .leaf [0, 1, 7, 8]) [0, 1, 7, 8]) [0, 1, 7, 8])) [0, 1, 7, 8]) (.seq .leaf .leaf [4, 5, 6]) []) [0, 1, 7]) [0, 1]) [0, 1])
def J25_1110100100111101 (Q : AEnd → AH → Prop) (n : Nat) (x1 x7 x8 : V) (h : AH) : Prop := vcAt Pg N25 B25 K25 [1, 1, 1, 0, 1, 0, 0, 1, 0, 0, 1, 1, 1, 1, 0, 1] [n] (vcRet Pg R25 Q) [(1, x1), (7, x7), (8, x8)] h
def J25_11101001001111001 (Q : AEnd → AH → Prop) (n : Nat) (x1 x7 x8 x50 : V) (h : AH) : Prop := vcAt Pg N25 B25 K25 [1, 1, 1, 0, 1, 0, 0, 1, 0, 0, 1, 1, 1, 1, 0, 0, 1] [n] (vcRet Pg R25 Q) [(1, x1), (7, x7), (8, x8), (50, x50)] h
def G25_111010010011110001002 (Q : AEnd → AH → Prop) (n : Nat) (x1 x7 x8 x47 x49 : V) (h : AH) : Prop := segAt Pg N25 B25 K25 [1, 1, 1, 0, 1, 0, 0, 1, 0, 0, 1, 1, 1, 1, 0, 0, 0] 2 1 [n] (vcRet Pg R25 Q) [(1, x1), (7, x7), (8, x8), (47, x47), (49, x49)] h
def J25_111010011 (Q : AEnd → AH → Prop) (n : Nat) (x0 x1 x7 x8 : V) (h : AH) : Prop := vcAt Pg N25 B25 K25 [1, 1, 1, 0, 1, 0, 0, 1, 1] [n] (vcRet Pg R25 Q) [(0, x0), (1, x1), (7, x7), (8, x8)] h
def J25_111010010011 (Q : AEnd → AH → Prop) (n : Nat) (x0 x1 x7 x8 x9 : V) (h : AH) : Prop := vcAt Pg N25 B25 K25 [1, 1, 1, 0, 1, 0, 0, 1, 0, 0, 1, 1] [n] (vcRet Pg R25 Q) [(0, x0), (1, x1), (7, x7), (8, x8), (9, x9)] h
def J25_1110100100101 (Q : AEnd → AH → Prop) (n : Nat) (x0 x1 x7 x8 x9 x34 : V) (h : AH) : Prop := vcAt Pg N25 B25 K25 [1, 1, 1, 0, 1, 0, 0, 1, 0, 0, 1, 0, 1] [n] (vcRet Pg R25 Q) [(0, x0), (1, x1), (7, x7), (8, x8), (9, x9), (34, x34)] h
def G25_11101001001001002 (Q : AEnd → AH → Prop) (n : Nat) (x0 x1 x7 x8 x9 x31 x33 : V) (h : AH) : Prop := segAt Pg N25 B25 K25 [1, 1, 1, 0, 1, 0, 0, 1, 0, 0, 1, 0, 0] 2 1 [n] (vcRet Pg R25 Q) [(0, x0), (1, x1), (7, x7), (8, x8), (9, x9), (31, x31), (33, x33)] h
def J25_11101001 (Q : AEnd → AH → Prop) (n : Nat) (x0 x1 x7 x8 : V) (h : AH) : Prop := vcAt Pg N25 B25 K25 [1, 1, 1, 0, 1, 0, 0, 1] [n] (vcRet Pg R25 Q) [(0, x0), (1, x1), (7, x7), (8, x8)] h
def J25_1111 (Q : AEnd → AH → Prop) (h : AH) : Prop := vcAt Pg N25 B25 K25 [1, 1, 1, 1] [] (vcRet Pg R25 Q) [] h
def J25_111010001 (Q : AEnd → AH → Prop) (n : Nat) (x0 x1 x7 x8 x21 : V) (h : AH) : Prop := vcAt Pg N25 B25 K25 [1, 1, 1, 0, 1, 0, 0, 0, 1] [n] (vcRet Pg R25 Q) [(0, x0), (1, x1), (7, x7), (8, x8), (21, x21)] h
def G25_1110100001002 (Q : AEnd → AH → Prop) (n : Nat) (x0 x1 x7 x8 x14 x20 : V) (h : AH) : Prop := segAt Pg N25 B25 K25 [1, 1, 1, 0, 1, 0, 0, 0, 0] 2 1 [n] (vcRet Pg R25 Q) [(0, x0), (1, x1), (7, x7), (8, x8), (14, x14), (20, x20)] h
def L25_111010 (Q : AEnd → AH → Prop) (n : Nat) (x0 x1 x7 x8 : V) (h : AH) : Prop := loopAt Pg N25 B25 K25 [1, 1, 1, 0, 1, 0] [] n (vcRet Pg R25 Q) [(0, x0), (1, x1), (7, x7), (8, x8)] h
def J25_11 (Q : AEnd → AH → Prop) (x0 x1 : V) (h : AH) : Prop := vcAt Pg N25 B25 K25 [1, 1] [] (vcRet Pg R25 Q) [(0, x0), (1, x1)] h
theorem J25_1110100100111101_eq (Q : AEnd → AH → Prop) (n : Nat) (x1 x7 x8 : V) (h : AH) : J25_1110100100111101 Q n x1 x7 x8 h = (
  bindV (still (aBin Pg .add 3 x1 x8 false) h) fun v31 h32 =>
  bindV (still (aBin Pg .add 3 v31 (V.int .i64 1) true) h32) fun v33 h34 =>
  Q (.ret (V.tup [x7, v33, (V.bool true)])) h34) := by kernel_rfl
theorem J25_11101001001111001_eq (Q : AEnd → AH → Prop) (n : Nat) (x1 x7 x8 x50 : V) (h : AH) : J25_11101001001111001 Q n x1 x7 x8 x50 h = (
  vcIf x50 (
  Q (.ret (V.tup [(V.int .u64 0), (V.int .i64 0), (V.bool false)])) h) (
  Meet (J25_1110100100111101 Q n x1 x7 x8 h))) := by kernel_rfl
theorem G25_111010010011110001002_eq (Q : AEnd → AH → Prop) (n : Nat) (x1 x7 x8 x47 x49 : V) (h : AH) : G25_111010010011110001002 Q n x1 x7 x8 x47 x49 h = (
  bindV (aPick x47 x49 (V.bool false) h) fun v29 h30 =>
  Meet (J25_11101001001111001 Q n x1 x7 x8 v29 h30)) := by kernel_rfl
theorem J25_111010011_eq (Q : AEnd → AH → Prop) (n : Nat) (x0 x1 x7 x8 : V) (h : AH) : J25_111010011 Q n x0 x1 x7 x8 h = (
  bindV (still (aBin Pg .add 3 x8 (V.int .i64 1) true) h) fun v37 h38 =>
  Meet (L25_111010 Q n x0 x1 x7 v37 h38)) := by kernel_rfl
theorem J25_111010010011_eq (Q : AEnd → AH → Prop) (n : Nat) (x0 x1 x7 x8 x9 : V) (h : AH) : J25_111010010011 Q n x0 x1 x7 x8 x9 h = (
  bindV (still (aBin Pg .and 5 x9 (V.int .u8 127) true) h) fun v15 h16 =>
  bindV (still (aConv Pg h16 5 22 v15) h16) fun v17 h18 =>
  bindV (still (aBin Pg .mul 3 (V.int .i64 7) x8 true) h18) fun v19 h20 =>
  bindV (still (aBin Pg .shl 22 v17 v19 false) h20) fun v21 h22 =>
  bindV (still (aBin Pg .or 22 x7 v21 false) h22) fun v23 h24 =>
  bindV (still (aBin Pg .lss 5 x9 (V.int .u8 128) true) h24) fun v25 h26 =>
  vcIf v25 (
  bindV (still (aBin Pg .eql 5 x9 (V.int .u8 0) true) h26) fun v27 h28 =>
  vcG v27 true (
  bindV (still (aBin Pg .gtr 3 x8 (V.int .i64 0) true) h28) fun v35 h36 =>
  Meet (G25_111010010011110001002 Q n x1 v23 x8 v27 v35 h36)) (Meet (G25_111010010011110001002 Q n x1 v23 x8 v27 hole h28))) (
  Meet (J25_111010011 Q n x0 x1 v23 x8 h26))) := by kernel_rfl
theorem J25_1110100100101_eq (Q : AEnd → AH → Prop) (n : Nat) (x0 x1 x7 x8 x9 x34 : V) (h : AH) : J25_1110100100101 Q n x0 x1 x7 x8 x9 x34 h = (
  vcIf x34 (
  Q (.ret (V.tup [(V.int .u64 0), (V.int .i64 0), (V.bool false)])) h) (
  Meet (J25_111010010011 Q n x0 x1 x7 x8 x9 h))) := by kernel_rfl
theorem G25_11101001001001002_eq (Q : AEnd → AH → Prop) (n : Nat) (x0 x1 x7 x8 x9 x31 x33 : V) (h : AH) : G25_11101001001001002 Q n x0 x1 x7 x8 x9 x31 x33 h = (
  bindV (aPick x31 x33 (V.bool false) h) fun v13 h14 =>
  Meet (J25_1110100100101 Q n x0 x1 x7 x8 x9 v13 h14)) := by kernel_rfl
theorem J25_11101001_eq (Q : AEnd → AH → Prop) (n : Nat) (x0 x1 x7 x8 : V) (h : AH) : J25_11101001 Q n x0 x1 x7 x8 h = (
  bindV (still (aBin Pg .add 3 x1 x8 false) h) fun v7 h8 =>
  bindV (still (aIndex Pg 9 x0 v7) h8) fun v9 h10 =>
  bindV (still (aBin Pg .eql 3 x8 (V.int .i64 9) true) h10) fun v11 h12 =>
  vcG v11 true (
  bindV (still (aBin Pg .gtr 5 v9 (V.int .u8 1) true) h12) fun v39 h40 =>
  Meet (G25_11101001001001002 Q n x0 x1 x7 x8 v9 v11 v39 h40)) (Meet (G25_11101001001001002 Q n x0 x1 x7 x8 v9 v11 hole h12))) := by kernel_rfl
theorem J25_1111_eq (Q : AEnd → AH → Prop) (h : AH) : J25_1111 Q h = (
  Q (.ret (V.tup [(V.int .u64 0), (V.int .i64 0), (V.bool false)])) h) := by kernel_rfl
theorem J25_111010001_eq (Q : AEnd → AH → Prop) (n : Nat) (x0 x1 x7 x8 x21 : V) (h : AH) : J25_111010001 Q n x0 x1 x7 x8 x21 h = (
  vcIf x21 (
  Meet (J25_11101001 Q n x0 x1 x7 x8 h)) (
  Meet (J25_1111 Q h))) := by kernel_rfl
theorem G25_1110100001002_eq (Q : AEnd → AH → Prop) (n : Nat) (x0 x1 x7 x8 x14 x20 : V) (h : AH) : G25_1110100001002 Q n x0 x1 x7 x8 x14 x20 h = (
  bindV (aPick x14 x20 (V.bool false) h) fun v5 h6 =>
  Meet (J25_111010001 Q n x0 x1 x7 x8 v5 h6)) := by kernel_rfl
theorem L25_111010_eq (Q : AEnd → AH → Prop) (n : Nat) (x0 x1 x7 x8 : V) (h : AH) : L25_111010 Q (n + 1) x0 x1 x7 x8 h = (
  bindV (still (aBin Pg .lss 3 x8 (V.int .i64 10) true) h) fun v3 h4 =>
  vcG v3 true (
  bindV (aBuiltin Pg h4 .len [9] [x0]) fun v41 h42 =>
  bindV (still (aBin Pg .sub 3 v41 x8 false) h42) fun v43 h44 =>
  bindV (still (aBin Pg .lss 3 x1 v43 false) h44) fun v45 h46 =>
  Meet (G25_1110100001002 Q n x0 x1 x7 x8 v3 v45 h46)) (Meet (G25_1110100001002 Q n x0 x1 x7 x8 v3 hole h4))) := by kernel_rfl
theorem J25_11_eq (Q : AEnd → AH → Prop) (x0 x1 : V) (h : AH) : J25_11 Q x0 x1 h = (
  ∃ n, Meet (L25_111010 Q n x0 x1 (V.int .u64 0) (V.int .i64 0) h)) := by kernel_rfl
theorem S25 (Q : AEnd → AH → Prop) (a0 a1 : V) (h : AH) : vc Pg N25 B25 K25 (vcRet Pg R25 Q) (initEnv 0 [a0, a1]) h = (
  bindV (still (aBin Pg .lss 3 a1 (V.int .i64 0) true) h) fun v1 h2 =>
  vcIf v1 (
  Q (.ret (V.tup [(V.int .u64 0), (V.int .i64 0), (V.bool false)])) h2) (
  Meet (J25_11 Q a0 a1 h2))) := by kernel_rfl
theorem C25 (Q : AEnd → AH → Prop) (a0 a1 : V) (h : AH) (c :
  bindV (still (aBin Pg .lss 3 a1 (V.int .i64 0) true) h) fun v1 h2 =>
  vcIf v1 (
  Q (.ret (V.tup [(V.int .u64 0), (V.int .i64 0), (V.bool false)])) h2) (
  Meet (J25_11 Q a0 a1 h2))) : ACalls Pg 25 [a0, a1] h Q :=
  acalls_of_vc okP Try.func25 (show Try.f25.body = some B25 from by kernel_rfl) K25 (by rw [← S25 Q a0 a1 h] at c; exact c)

-- 28 varve/varvelaw01.awake
noncomputable def B28 : Code := (Try.f28.body).getD .skip
def R28 : List ResultVar := [.tmp 0]
abbrev N28 : Nat := 24
def K28 : KT := (.seq .leaf (.seq .leaf (.join (.reg [[2, 9, 11], [13, 14], [16, 18], [20, 22]]) .leaf [0]) [1, 2]) [])
def J28_111 (Q : AEnd → AH → Prop) (x0 : V) (h : AH) : Prop := vcAt Pg N28 B28 K28 [1, 1, 1] [] (vcRet Pg R28 Q) [(0, x0)] h
def G28_1101008 (Q : AEnd → AH → Prop) (x20 x22 : V) (h : AH) : Prop := segAt Pg N28 B28 K28 [1, 1, 0] 8 4 [] (vcRet Pg R28 Q) [(20, x20), (22, x22)] h
def G28_1101006 (Q : AEnd → AH → Prop) (x16 x18 : V) (h : AH) : Prop := segAt Pg N28 B28 K28 [1, 1, 0] 6 3 [] (vcRet Pg R28 Q) [(16, x16), (18, x18)] h
def G28_1101004 (Q : AEnd → AH → Prop) (x13 x14 : V) (h : AH) : Prop := segAt Pg N28 B28 K28 [1, 1, 0] 4 2 [] (vcRet Pg R28 Q) [(13, x13), (14, x14)] h
def G28_1101002 (Q : AEnd → AH → Prop) (x2 x9 x11 : V) (h : AH) : Prop := segAt Pg N28 B28 K28 [1, 1, 0] 2 1 [] (vcRet Pg R28 Q) [(2, x2), (9, x9), (11, x11)] h
theorem J28_111_eq (Q : AEnd → AH → Prop) (x0 : V) (h : AH) : J28_111 Q x0 h = (
  Q (.ret x0) h) := by kernel_rfl
theorem G28_1101008_eq (Q : AEnd → AH → Prop) (x20 x22 : V) (h : AH) : G28_1101008 Q x20 x22 h = (
  bindV (aPick x20 x22 (V.bool false) h) fun v17 h18 =>
  Meet (J28_111 Q v17 h18)) := by kernel_rfl
theorem G28_1101006_eq (Q : AEnd → AH → Prop) (x16 x18 : V) (h : AH) : G28_1101006 Q x16 x18 h = (
  bindV (aPick x16 x18 (V.bool false) h) fun v15 h16 =>
  vcG v15 true (
  ACalls Pg 15 [(V.int .i64 (-1))] h16 (aEnd (fun v19 h20 =>
  bindV (still (aBin Pg .eql 22 v19 (V.int .u64 1) true) h20) fun v21 h22 =>
  Meet (G28_1101008 Q v15 v21 h22)) fun v h => Q (.panic v) h)) (Meet (G28_1101008 Q v15 hole h16))) := by kernel_rfl
theorem G28_1101004_eq (Q : AEnd → AH → Prop) (x13 x14 : V) (h : AH) : G28_1101004 Q x13 x14 h = (
  bindV (aPick x13 x14 (V.bool false) h) fun v13 h14 =>
  vcG v13 true (
  ACalls Pg 20 [(V.int .u64 128)] h14 (aEnd (fun v23 h24 =>
  bindV (still (aBin Pg .eql 9 v23 (V.str [128, 1]) true) h24) fun v25 h26 =>
  Meet (G28_1101006 Q v13 v25 h26)) fun v h => Q (.panic v) h)) (Meet (G28_1101006 Q v13 hole h14))) := by kernel_rfl
theorem G28_1101002_eq (Q : AEnd → AH → Prop) (x2 x9 x11 : V) (h : AH) : G28_1101002 Q x2 x9 x11 h = (
  bindV (aPick x9 x11 (V.bool false) h) fun v11 h12 =>
  vcG v11 true (
  Meet (G28_1101004 Q v11 x2 h12)) (Meet (G28_1101004 Q v11 hole h12))) := by kernel_rfl
theorem S28 (Q : AEnd → AH → Prop) (h : AH) : vc Pg N28 B28 K28 (vcRet Pg R28 Q) (initEnv 0 []) h = (
  ACalls Pg 18 [(V.str [2, 1]), (V.int .i64 0), (V.int .i64 2)] h (aEnd (fun v1 h2 =>
  bindV (still (aExtract v1 0) h2) fun v3 h4 =>
  bindV (still (aExtract v1 1) h4) fun v5 h6 =>
  ACalls Pg 22 [(V.int .u64 258), (V.int .i64 2)] h6 (aEnd (fun v7 h8 =>
  bindV (still (aBin Pg .eql 9 v7 (V.str [2, 1]) true) h8) fun v9 h10 =>
  vcG v9 true (
  bindV (still (aBin Pg .eql 22 v3 (V.int .u64 258) true) h10) fun v27 h28 =>
  Meet (G28_1101002 Q v5 v9 v27 h28)) (Meet (G28_1101002 Q v5 v9 hole h10))) fun v h => Q (.panic v) h)) fun v h => Q (.panic v) h)) := by kernel_rfl
theorem C28 (Q : AEnd → AH → Prop) (h : AH) (c :
  ACalls Pg 18 [(V.str [2, 1]), (V.int .i64 0), (V.int .i64 2)] h (aEnd (fun v1 h2 =>
  bindV (still (aExtract v1 0) h2) fun v3 h4 =>
  bindV (still (aExtract v1 1) h4) fun v5 h6 =>
  ACalls Pg 22 [(V.int .u64 258), (V.int .i64 2)] h6 (aEnd (fun v7 h8 =>
  bindV (still (aBin Pg .eql 9 v7 (V.str [2, 1]) true) h8) fun v9 h10 =>
  vcG v9 true (
  bindV (still (aBin Pg .eql 22 v3 (V.int .u64 258) true) h10) fun v27 h28 =>
  Meet (G28_1101002 Q v5 v9 v27 h28)) (Meet (G28_1101002 Q v5 v9 hole h10))) fun v h => Q (.panic v) h)) fun v h => Q (.panic v) h)) : ACalls Pg 28 [] h Q :=
  acalls_of_vc okP Try.func28 (show Try.f28.body = some B28 from by kernel_rfl) K28 (by rw [← S28 Q h] at c; exact c)

-- 29 varve/rec.Encode
noncomputable def B29 : Code := (Try.f29.body).getD .skip
def R29 : List ResultVar := [.tmp 2, .tmp 3]
abbrev N29 : Nat := 115
def K29 : KT := (.seq .leaf (.join (.seq .leaf (.two (.seq .leaf .leaf [2, 3]) .leaf) [1, 11]) (.seq .leaf (.seq .leaf (.seq .leaf (.join (.seq .leaf (.one (.seq .leaf (.two (.seq .leaf (.join (.one (.loop (.join (.join (.reg [[1, 4, 5, 7, 31, 37]]) (.two .leaf .leaf) [1, 4, 5, 7, 38]) (.one .leaf) [1, 4, 5, 7]) [1, 4, 5, 7])) (.seq .leaf (.join (.seq .leaf (.two .leaf .leaf) [1, 4, 5, 7, 8, 43]) (.seq .leaf .leaf [2, 3]) [1, 4, 5, 7, 8]) [1, 4, 5, 7, 8]) [1, 4, 5, 7]) [1, 4, 5, 7]) (.seq .leaf (.two (.seq .leaf .leaf [2, 3]) (.seq .leaf (.two (.seq .leaf .leaf [2, 3]) (.seq .leaf (.two (.seq .leaf .leaf [2, 3]) .leaf) [1, 4, 5, 6, 102])) [1, 4, 5, 6, 26, 70])) [1, 4, 5, 6, 26, 55])) [1, 4, 5, 6, 26, 27])) [1, 4, 5, 6, 26]) (.seq .leaf .leaf [2, 3]) [1, 4, 5]) [1, 4, 5, 6]) [1, 4, 5]) [1, 4]) [1]) [1])
def J29_111110101010001 (Q : AEnd → AH → Prop) (n : Nat) (x1 x4 x5 x7 : V) (h : AH) : Prop := vcAt Pg N29 B29 K29 [1, 1, 1, 1, 1, 0, 1, 0, 1, 0, 1, 0, 0, 0, 1] [n] (vcRet Pg R29 Q) [(1, x1), (4, x4), (5, x5), (7, x7)] h
def J29_11111010101111 (Q : AEnd → AH → Prop) (x1 x4 x5 x7 x8 : V) (h : AH) : Prop := vcAt Pg N29 B29 K29 [1, 1, 1, 1, 1, 0, 1, 0, 1, 0, 1, 1, 1, 1] [] (vcRet Pg R29 Q) [(1, x1), (4, x4), (5, x5), (7, x7), (8, x8)] h
def J29_111110101011 (Q : AEnd → AH → Prop) (x1 x4 x5 x7 : V) (h : AH) : Prop := vcAt Pg N29 B29 K29 [1, 1, 1, 1, 1, 0, 1, 0, 1, 0, 1, 1] [] (vcRet Pg R29 Q) [(1, x1), (4, x4), (5, x5), (7, x7)] h
def J29_1111101010100001 (Q : AEnd → AH → Prop) (n : Nat) (x1 x4 x5 x7 x38 : V) (h : AH) : Prop := vcAt Pg N29 B29 K29 [1, 1, 1, 1, 1, 0, 1, 0, 1, 0, 1, 0, 0, 0, 0, 1] [n] (vcRet Pg R29 Q) [(1, x1), (4, x4), (5, x5), (7, x7), (38, x38)] h
def G29_11111010101000001002 (Q : AEnd → AH → Prop) (n : Nat) (x1 x4 x5 x7 x31 x37 : V) (h : AH) : Prop := segAt Pg N29 B29 K29 [1, 1, 1, 1, 1, 0, 1, 0, 1, 0, 1, 0, 0, 0, 0, 0] 2 1 [n] (vcRet Pg R29 Q) [(1, x1), (4, x4), (5, x5), (7, x7), (31, x31), (37, x37)] h
def L29_1111101010100 (Q : AEnd → AH → Prop) (n : Nat) (x1 x4 x5 x7 : V) (h : AH) : Prop := loopAt Pg N29 B29 K29 [1, 1, 1, 1, 1, 0, 1, 0, 1, 0, 1, 0, 0] [] n (vcRet Pg R29 Q) [(1, x1), (4, x4), (5, x5), (7, x7)] h
def J29_111111 (Q : AEnd → AH → Prop) (x1 x4 x5 : V) (h : AH) : Prop := vcAt Pg N29 B29 K29 [1, 1, 1, 1, 1, 1] [] (vcRet Pg R29 Q) [(1, x1), (4, x4), (5, x5)] h
def J29_11 (Q : AEnd → AH → Prop) (x1 : V) (h : AH) : Prop := vcAt Pg N29 B29 K29 [1, 1] [] (vcRet Pg R29 Q) [(1, x1)] h
theorem J29_111110101010001_eq (Q : AEnd → AH → Prop) (n : Nat) (x1 x4 x5 x7 : V) (h : AH) : J29_111110101010001 Q n x1 x4 x5 x7 h = (
  bindV (still (aBin Pg .sub 3 x7 (V.int .i64 1) true) h) fun v45 h46 =>
  Meet (L29_1111101010100 Q n x1 x4 x5 v45 h46)) := by kernel_rfl
theorem J29_11111010101111_eq (Q : AEnd → AH → Prop) (x1 x4 x5 x7 x8 : V) (h : AH) : J29_11111010101111 Q x1 x4 x5 x7 x8 h = (
  bindV (still (aBin Pg .add 9 x4 x8 false) h) fun v53 h54 =>
  bindV (still (aBin Pg .add 9 v53 x5 false) h54) fun v55 h56 =>
  bindV (still (aFieldAddr Pg 51 x1 2) h56) fun v57 h58 =>
  bindV (still (aSlice Pg h58 44 v57 none (some x7)) h58) fun v59 h60 =>
  bindV (still (aConv Pg h60 67 9 v59) h60) fun v61 h62 =>
  ACalls Pg 35 [v61] h62 (aEnd (fun v63 h64 =>
  bindV (still (aBin Pg .add 9 v55 v63 false) h64) fun v65 h66 =>
  Q (.ret (V.tup [v65, (V.int .i64 0)])) h66) fun v h => Q (.panic v) h)) := by kernel_rfl
theorem J29_111110101011_eq (Q : AEnd → AH → Prop) (x1 x4 x5 x7 : V) (h : AH) : J29_111110101011 Q x1 x4 x5 x7 h = (
  bindV (still (aFieldAddr Pg 51 x1 1) h) fun v47 h48 =>
  bindV (still (aFieldAddr Pg 42 v47 0) h48) fun v49 h50 =>
  bindV (aLoadV Pg h50 4 v49) fun v51 h52 =>
  vcIf v51 (
  Meet (J29_11111010101111 Q x1 x4 x5 x7 (V.str [1]) h52)) (
  Meet (J29_11111010101111 Q x1 x4 x5 x7 (V.str [0]) h52))) := by kernel_rfl
theorem J29_1111101010100001_eq (Q : AEnd → AH → Prop) (n : Nat) (x1 x4 x5 x7 x38 : V) (h : AH) : J29_1111101010100001 Q n x1 x4 x5 x7 x38 h = (
  vcIf x38 (
  Meet (J29_111110101010001 Q n x1 x4 x5 x7 h)) (
  Meet (J29_111110101011 Q x1 x4 x5 x7 h))) := by kernel_rfl
theorem G29_11111010101000001002_eq (Q : AEnd → AH → Prop) (n : Nat) (x1 x4 x5 x7 x31 x37 : V) (h : AH) : G29_11111010101000001002 Q n x1 x4 x5 x7 x31 x37 h = (
  bindV (aPick x31 x37 (V.bool false) h) fun v43 h44 =>
  Meet (J29_1111101010100001 Q n x1 x4 x5 x7 v43 h44)) := by kernel_rfl
theorem L29_1111101010100_eq (Q : AEnd → AH → Prop) (n : Nat) (x1 x4 x5 x7 : V) (h : AH) : L29_1111101010100 Q (n + 1) x1 x4 x5 x7 h = (
  bindV (still (aBin Pg .gtr 3 x7 (V.int .i64 0) true) h) fun v41 h42 =>
  vcG v41 true (
  bindV (still (aBin Pg .sub 3 x7 (V.int .i64 1) true) h42) fun v67 h68 =>
  bindV (still (aFieldAddr Pg 51 x1 2) h68) fun v69 h70 =>
  bindV (still (aIndexAddr Pg 44 v69 v67) h70) fun v71 h72 =>
  bindV (aLoadV Pg h72 5 v71) fun v73 h74 =>
  bindV (still (aBin Pg .eql 5 v73 (V.int .u8 0) true) h74) fun v75 h76 =>
  Meet (G29_11111010101000001002 Q n x1 x4 x5 x7 v41 v75 h76)) (Meet (G29_11111010101000001002 Q n x1 x4 x5 x7 v41 hole h42))) := by kernel_rfl
theorem J29_111111_eq (Q : AEnd → AH → Prop) (x1 x4 x5 : V) (h : AH) : J29_111111 Q x1 x4 x5 h = (
  bindV (still (aBin Pg .add 9 x4 x5 false) h) fun v122 h123 =>
  bindV (still (aFieldAddr Pg 51 x1 6) h123) fun v124 h125 =>
  bindV (aLoadV Pg h125 5 v124) fun v126 h127 =>
  bindV (aBuildSlice Pg h127 67 1 [(0, v126)]) fun v128 h129 =>
  bindV (still (aConv Pg h129 67 9 v128) h129) fun v130 h131 =>
  bindV (still (aBin Pg .add 9 v122 v130 false) h131) fun v132 h133 =>
  Q (.ret (V.tup [v132, (V.int .i64 0)])) h133) := by kernel_rfl
theorem J29_11_eq (Q : AEnd → AH → Prop) (x1 : V) (h : AH) : J29_11 Q x1 h = (
  bindV (still (aFieldAddr Pg 51 x1 0) h) fun v9 h10 =>
  bindV (aLoadV Pg h10 5 v9) fun v11 h12 =>
  bindV (aBuildSlice Pg h12 67 1 [(0, v11)]) fun v13 h14 =>
  bindV (still (aConv Pg h14 67 9 v13) h14) fun v15 h16 =>
  bindV (still (aFieldAddr Pg 51 x1 1) h16) fun v17 h18 =>
  bindV (still (aFieldAddr Pg 42 v17 1) h18) fun v19 h20 =>
  bindV (aLoadV Pg h20 40 v19) fun v21 h22 =>
  bindV (still (aConv Pg h22 40 22 v21) h22) fun v23 h24 =>
  ACalls Pg 22 [v23, (V.int .i64 2)] h24 (aEnd (fun v25 h26 =>
  bindV (still (aFieldAddr Pg 51 x1 3) h26) fun v27 h28 =>
  bindV (aLoadV Pg h28 45 v27) fun v29 h30 =>
  bindV (still (aConv Pg h30 45 22 v29) h30) fun v31 h32 =>
  ACalls Pg 22 [v31, (V.int .i64 4)] h32 (aEnd (fun v33 h34 =>
  bindV (still (aFieldAddr Pg 51 x1 0) h34) fun v35 h36 =>
  bindV (aLoadV Pg h36 5 v35) fun v37 h38 =>
  bindV (still (aBin Pg .eql 5 v37 (V.int .u8 1) true) h38) fun v39 h40 =>
  vcIf v39 (
  ∃ n, Meet (L29_1111101010100 Q n x1 v15 v25 (V.int .i64 224) h40)) (
  bindV (still (aBin Pg .eql 5 v37 (V.int .u8 2) true) h40) fun v77 h78 =>
  vcIf v77 (
  bindO (fstV (still (aBin Pg .add 9 v15 v25 false) h78)) fun v79 =>
  bindO (fstV (still (aBin Pg .add 9 v79 v33 false) h78)) fun v80 =>
  bindO (fstV (still (aFieldAddr Pg 51 x1 4) h78)) fun v81 =>
  bindO (fstV (aLoadV Pg h78 47 v81)) fun v82 =>
  ∃ v83, ACalls Pg 36 [v82] h78 (pureE v83 h78) ∧ (
  bindO (fstV (still (aBin Pg .add 9 v80 v83 false) h78)) fun v84 =>
  bindO (fstV (still (aFieldAddr Pg 51 x1 5) h78)) fun v85 =>
  bindO (fstV (aLoadV Pg h78 9 v85)) fun v86 =>
  ∃ v87, ACalls Pg 35 [v86] h78 (pureE v87 h78) ∧ (
  bindO (fstV (still (aBin Pg .add 9 v84 v87 false) h78)) fun v88 =>
  Q (.ret (V.tup [v88, (V.int .i64 0)])) h78))) (
  bindV (still (aBin Pg .eql 5 v37 (V.int .u8 3) true) h78) fun v89 h90 =>
  vcIf v89 (
  bindO (fstV (still (aBin Pg .add 9 v15 v25 false) h90)) fun v91 =>
  bindO (fstV (still (aFieldAddr Pg 51 x1 6) h90)) fun v92 =>
  bindO (fstV (aLoadV Pg h90 5 v92)) fun v93 =>
  bindO (litConv Pg 67 1 [(0, v93)] 67 9) fun v94 =>
  bindO (fstV (still (aBin Pg .add 9 v91 v94 false) h90)) fun v95 =>
  bindO (fstV (still (aFieldAddr Pg 51 x1 7) h90)) fun v96 =>
  bindO (fstV (still (aFieldAddr Pg 49 v96 1) h90)) fun v97 =>
  bindO (fstV (aLoadV Pg h90 40 v97)) fun v98 =>
  bindO (fstV (still (aConv Pg h90 40 22 v98) h90)) fun v99 =>
  ∃ v100, ACalls Pg 22 [v99, (V.int .i64 2)] h90 (pureE v100 h90) ∧ (
  bindO (fstV (still (aBin Pg .add 9 v95 v100 false) h90)) fun v101 =>
  bindO (fstV (still (aFieldAddr Pg 51 x1 7) h90)) fun v102 =>
  bindO (fstV (still (aFieldAddr Pg 49 v102 2) h90)) fun v103 =>
  bindO (fstV (aLoadV Pg h90 45 v103)) fun v104 =>
  bindO (fstV (still (aConv Pg h90 45 22 v104) h90)) fun v105 =>
  ∃ v106, ACalls Pg 22 [v105, (V.int .i64 4)] h90 (pureE v106 h90) ∧ (
  bindO (fstV (still (aBin Pg .add 9 v101 v106 false) h90)) fun v107 =>
  bindO (fstV (still (aFieldAddr Pg 51 x1 7) h90)) fun v108 =>
  bindO (fstV (still (aFieldAddr Pg 49 v108 3) h90)) fun v109 =>
  bindO (fstV (aLoadV Pg h90 47 v109)) fun v110 =>
  ∃ v111, ACalls Pg 36 [v110] h90 (pureE v111 h90) ∧ (
  bindO (fstV (still (aBin Pg .add 9 v107 v111 false) h90)) fun v112 =>
  bindO (fstV (still (aFieldAddr Pg 51 x1 7) h90)) fun v113 =>
  bindO (fstV (still (aFieldAddr Pg 49 v113 4) h90)) fun v114 =>
  bindO (fstV (aLoadV Pg h90 9 v114)) fun v115 =>
  ∃ v116, ACalls Pg 35 [v115] h90 (pureE v116 h90) ∧ (
  bindO (fstV (still (aBin Pg .add 9 v112 v116 false) h90)) fun v117 =>
  Q (.ret (V.tup [v117, (V.int .i64 0)])) h90))))) (
  bindV (still (aBin Pg .eql 5 v37 (V.int .u8 6) true) h90) fun v118 h119 =>
  vcIf v118 (
  bindV (still (aBin Pg .add 9 v15 v33 false) h119) fun v120 h121 =>
  Q (.ret (V.tup [v120, (V.int .i64 0)])) h121) (
  Meet (J29_111111 Q x1 v15 v25 h119)))))) fun v h => Q (.panic v) h)) fun v h => Q (.panic v) h)) := by kernel_rfl
theorem S29 (Q : AEnd → AH → Prop) (a0 : V) (h : AH) : vc Pg N29 B29 K29 (vcRet Pg R29 Q) (initEnv 0 [a0]) h = (
  bindV (aNew Pg h 51 a0) fun v1 h2 =>
  bindV (aLoadV Pg h2 51 v1) fun v3 h4 =>
  ACalls Pg 31 [v3] h4 (aEnd (fun v5 h6 =>
  bindV (still (aUn .not v5) h6) fun v7 h8 =>
  vcIf v7 (
  Q (.ret (V.tup [(V.str []), (V.int .i64 1)])) h8) (
  Meet (J29_11 Q v1 h8))) fun v h => Q (.panic v) h)) := by kernel_rfl
theorem C29 (Q : AEnd → AH → Prop) (a0 : V) (h : AH) (c :
  bindV (aNew Pg h 51 a0) fun v1 h2 =>
  bindV (aLoadV Pg h2 51 v1) fun v3 h4 =>
  ACalls Pg 31 [v3] h4 (aEnd (fun v5 h6 =>
  bindV (still (aUn .not v5) h6) fun v7 h8 =>
  vcIf v7 (
  Q (.ret (V.tup [(V.str []), (V.int .i64 1)])) h8) (
  Meet (J29_11 Q v1 h8))) fun v h => Q (.panic v) h)) : ACalls Pg 29 [a0] h Q :=
  acalls_of_vc okP Try.func29 (show Try.f29.body = some B29 from by kernel_rfl) K29 (by rw [← S29 Q a0 h] at c; exact c)

-- 30 varve/varveref08.Encode
noncomputable def B30 : Code := (Try.f30.body).getD .skip
def R30 : List ResultVar := [.tmp 2, .tmp 3]
abbrev N30 : Nat := 150
def K30 : KT := (.seq .leaf (.join (.seq .leaf (.two (.seq .leaf .leaf [2, 3]) .leaf) [1, 9]) (.seq .leaf (.join (.seq .leaf (.two (.seq .leaf (.two .leaf .leaf) [1, 4, 19]) .leaf) [1, 4, 16]) (.join (.seq .leaf (.two .leaf .leaf) [1, 4, 28]) (.join (.seq .leaf (.one (.seq .leaf (.two (.seq .leaf (.join (.seq .leaf (.one (.loop (.join (.seq .leaf (.two .leaf .leaf) [1, 4, 5, 6, 41]) (.join (.one (.seq .leaf (.two .leaf .leaf) [1, 4, 5, 6, 48])) .leaf [1, 4, 5, 6]) [1, 4, 5, 6]) [1, 4, 5, 6])) [1, 4, 5, 6]) .leaf [1, 4, 5]) [1, 4, 5]) (.seq .leaf (.two .leaf (.seq .leaf (.two .leaf (.join (.seq .leaf (.two .leaf .leaf) [1, 4, 37, 132]) (.two .leaf (.seq .leaf (.two .leaf .leaf) [1, 4, 141])) [1, 4, 37, 132])) [1, 4, 37, 88])) [1, 4, 37, 60])) [1, 4, 37, 38])) [1, 4, 37]) (.seq .leaf .leaf [2, 3]) [4]) [1, 4]) [1, 4]) [1, 4]) [1]) [1])
def J30_11111010101010011 (Q : AEnd → AH → Prop) (n : Nat) (x1 x4 x5 x6 : V) (h : AH) : Prop := vcAt Pg N30 B30 K30 [1, 1, 1, 1, 1, 0, 1, 0, 1, 0, 1, 0, 1, 0, 0, 1, 1] [n] (vcRet Pg R30 Q) [(1, x1), (4, x4), (5, x5), (6, x6)] h
def J30_1111101010101001 (Q : AEnd → AH → Prop) (n : Nat) (x1 x4 x5 x6 : V) (h : AH) : Prop := vcAt Pg N30 B30 K30 [1, 1, 1, 1, 1, 0, 1, 0, 1, 0, 1, 0, 1, 0, 0, 1] [n] (vcRet Pg R30 Q) [(1, x1), (4, x4), (5, x5), (6, x6)] h
def J30_111111 (Q : AEnd → AH → Prop) (x4 : V) (h : AH) : Prop := vcAt Pg N30 B30 K30 [1, 1, 1, 1, 1, 1] [] (vcRet Pg R30 Q) [(4, x4)] h
def J30_111110101011 (Q : AEnd → AH → Prop) (x1 x4 x5 : V) (h : AH) : Prop := vcAt Pg N30 B30 K30 [1, 1, 1, 1, 1, 0, 1, 0, 1, 0, 1, 1] [] (vcRet Pg R30 Q) [(1, x1), (4, x4), (5, x5)] h
def L30_11111010101010 (Q : AEnd → AH → Prop) (n : Nat) (x1 x4 x5 x6 : V) (h : AH) : Prop := loopAt Pg N30 B30 K30 [1, 1, 1, 1, 1, 0, 1, 0, 1, 0, 1, 0, 1, 0] [] n (vcRet Pg R30 Q) [(1, x1), (4, x4), (5, x5), (6, x6)] h
def J30_111110101111111 (Q : AEnd → AH → Prop) (x1 x4 x37 x132 : V) (h : AH) : Prop := vcAt Pg N30 B30 K30 [1, 1, 1, 1, 1, 0, 1, 0, 1, 1, 1, 1, 1, 1, 1] [] (vcRet Pg R30 Q) [(1, x1), (4, x4), (37, x37), (132, x132)] h
def J30_11111 (Q : AEnd → AH → Prop) (x1 x4 : V) (h : AH) : Prop := vcAt Pg N30 B30 K30 [1, 1, 1, 1, 1] [] (vcRet Pg R30 Q) [(1, x1), (4, x4)] h
def J30_1111 (Q : AEnd → AH → Prop) (x1 x4 : V) (h : AH) : Prop := vcAt Pg N30 B30 K30 [1, 1, 1, 1] [] (vcRet Pg R30 Q) [(1, x1), (4, x4)] h
def J30_11 (Q : AEnd → AH → Prop) (x1 : V) (h : AH) : Prop := vcAt Pg N30 B30 K30 [1, 1] [] (vcRet Pg R30 Q) [(1, x1)] h
theorem J30_11111010101010011_eq (Q : AEnd → AH → Prop) (n : Nat) (x1 x4 x5 x6 : V) (h : AH) : J30_11111010101010011 Q n x1 x4 x5 x6 h = (
  bindV (still (aBin Pg .add 3 x6 (V.int .i64 1) true) h) fun v69 h70 =>
  Meet (L30_11111010101010 Q n x1 x4 x5 v69 h70)) := by kernel_rfl
theorem J30_1111101010101001_eq (Q : AEnd → AH → Prop) (n : Nat) (x1 x4 x5 x6 : V) (h : AH) : J30_1111101010101001 Q n x1 x4 x5 x6 h = (
  bindV (still (aFieldAddr Pg 51 x1 2) h) fun v59 h60 =>
  bindV (still (aIndexAddr Pg 44 v59 x6) h60) fun v61 h62 =>
  bindV (aLoadV Pg h62 5 v61) fun v63 h64 =>
  bindV (still (aBin Pg .neq 5 v63 (V.int .u8 0) true) h64) fun v65 h66 =>
  vcIf v65 (
  bindV (still (aBin Pg .add 3 x6 (V.int .i64 1) true) h66) fun v67 h68 =>
  Meet (J30_11111010101010011 Q n x1 x4 v67 x6 h68)) (
  Meet (J30_11111010101010011 Q n x1 x4 x5 x6 h66))) := by kernel_rfl
theorem J30_111111_eq (Q : AEnd → AH → Prop) (x4 : V) (h : AH) : J30_111111 Q x4 h = (
  Q (.ret (V.tup [x4, (V.bool true)])) h) := by kernel_rfl
theorem J30_111110101011_eq (Q : AEnd → AH → Prop) (x1 x4 x5 : V) (h : AH) : J30_111110101011 Q x1 x4 x5 h = (
  ∃ v71, ACalls Pg 38 [x5] h (pureE v71 h) ∧ (
  bindO (fstV (still (aFieldAddr Pg 51 x1 2) h)) fun v72 =>
  bindO (fstV (still (aSlice Pg h 44 v72 none (some x5)) h)) fun v73 =>
  bindO (fstV (still (aConv Pg h 67 9 v73) h)) fun v74 =>
  bindO (fstV (still (aBin Pg .add 9 v71 v74 false) h)) fun v75 =>
  bindO (fstV (still (aBin Pg .add 9 x4 v75 false) h)) fun v76 =>
  Meet (J30_111111 Q v76 h))) := by kernel_rfl
theorem L30_11111010101010_eq (Q : AEnd → AH → Prop) (n : Nat) (x1 x4 x5 x6 : V) (h : AH) : L30_11111010101010 Q (n + 1) x1 x4 x5 x6 h = (
  bindV (still (aBin Pg .lss 3 x6 (V.int .i64 224) true) h) fun v57 h58 =>
  vcIf v57 (
  Meet (J30_1111101010101001 Q n x1 x4 x5 x6 h58)) (
  Meet (J30_111110101011 Q x1 x4 x5 h58))) := by kernel_rfl
theorem J30_111110101111111_eq (Q : AEnd → AH → Prop) (x1 x4 x37 x132 : V) (h : AH) : J30_111110101111111 Q x1 x4 x37 x132 h = (
  vcIf x132 (
  bindV (still (aFieldAddr Pg 51 x1 6) h) fun v149 h150 =>
  bindV (aLoadV Pg h150 5 v149) fun v151 h152 =>
  bindV (still (aConv Pg h152 5 3 v151) h152) fun v153 h154 =>
  ACalls Pg 38 [v153] h154 (aEnd (fun v155 h156 =>
  bindV (still (aBin Pg .add 9 x4 v155 false) h156) fun v157 h158 =>
  Meet (J30_111111 Q v157 h158)) fun v h => Q (.panic v) h)) (
  bindV (still (aBin Pg .eql 5 x37 (V.int .u8 6) true) h) fun v159 h160 =>
  vcIf v159 (
  bindV (still (aFieldAddr Pg 51 x1 3) h160) fun v161 h162 =>
  bindV (aLoadV Pg h162 45 v161) fun v163 h164 =>
  bindV (still (aConv Pg h164 45 22 v163) h164) fun v165 h166 =>
  ACalls Pg 23 [v165, (V.int .i64 4)] h166 (aEnd (fun v167 h168 =>
  bindV (still (aBin Pg .add 9 x4 v167 false) h168) fun v169 h170 =>
  Meet (J30_111111 Q v169 h170)) fun v h => Q (.panic v) h)) (
  Meet (J30_111111 Q x4 h160)))) := by kernel_rfl
theorem J30_11111_eq (Q : AEnd → AH → Prop) (x1 x4 : V) (h : AH) : J30_11111 Q x1 x4 h = (
  bindV (still (aFieldAddr Pg 51 x1 0) h) fun v51 h52 =>
  bindV (aLoadV Pg h52 5 v51) fun v53 h54 =>
  bindV (still (aBin Pg .eql 5 v53 (V.int .u8 1) true) h54) fun v55 h56 =>
  vcIf v55 (
  ∃ n, Meet (L30_11111010101010 Q n x1 x4 (V.int .i64 0) (V.int .i64 0) h56)) (
  bindV (still (aBin Pg .eql 5 v53 (V.int .u8 2) true) h56) fun v77 h78 =>
  vcIf v77 (
  bindO (fstV (still (aFieldAddr Pg 51 x1 3) h78)) fun v79 =>
  bindO (fstV (aLoadV Pg h78 45 v79)) fun v80 =>
  bindO (fstV (still (aConv Pg h78 45 22 v80) h78)) fun v81 =>
  ∃ v82, ACalls Pg 23 [v81, (V.int .i64 4)] h78 (pureE v82 h78) ∧ (
  bindO (fstV (still (aFieldAddr Pg 51 x1 4) h78)) fun v83 =>
  bindO (fstV (still (aFieldAddr Pg 47 v83 0) h78)) fun v84 =>
  bindO (fstV (aLoadV Pg h78 40 v84)) fun v85 =>
  bindO (fstV (still (aConv Pg h78 40 22 v85) h78)) fun v86 =>
  ∃ v87, ACalls Pg 23 [v86, (V.int .i64 2)] h78 (pureE v87 h78) ∧ (
  bindO (fstV (still (aBin Pg .add 9 v82 v87 false) h78)) fun v88 =>
  bindO (fstV (still (aFieldAddr Pg 51 x1 4) h78)) fun v89 =>
  bindO (fstV (still (aFieldAddr Pg 47 v89 1) h78)) fun v90 =>
  bindO (fstV (aLoadV Pg h78 5 v90)) fun v91 =>
  bindO (fstV (still (aConv Pg h78 5 3 v91) h78)) fun v92 =>
  ∃ v93, ACalls Pg 38 [v92] h78 (pureE v93 h78) ∧ (
  bindO (fstV (still (aBin Pg .add 9 v88 v93 false) h78)) fun v94 =>
  bindO (fstV (still (aFieldAddr Pg 51 x1 5) h78)) fun v95 =>
  bindO (fstV (aLoadV Pg h78 9 v95)) fun v96 =>
  bindO (fstV (aBuiltin Pg h78 .len [9] [v96])) fun v97 =>
  ∃ v98, ACalls Pg 38 [v97] h78 (pureE v98 h78) ∧ (
  bindO (fstV (still (aBin Pg .add 9 v94 v98 false) h78)) fun v99 =>
  bindO (fstV (still (aFieldAddr Pg 51 x1 5) h78)) fun v100 =>
  bindO (fstV (aLoadV Pg h78 9 v100)) fun v101 =>
  bindO (fstV (still (aBin Pg .add 9 v99 v101 false) h78)) fun v102 =>
  bindO (fstV (still (aBin Pg .add 9 x4 v102 false) h78)) fun v103 =>
  Meet (J30_111111 Q v103 h78)))))) (
  bindV (still (aBin Pg .eql 5 v53 (V.int .u8 3) true) h78) fun v104 h105 =>
  vcIf v104 (
  bindO (fstV (still (aFieldAddr Pg 51 x1 6) h105)) fun v106 =>
  bindO (fstV (aLoadV Pg h105 5 v106)) fun v107 =>
  bindO (fstV (still (aConv Pg h105 5 3 v107) h105)) fun v108 =>
  ∃ v109, ACalls Pg 38 [v108] h105 (pureE v109 h105) ∧ (
  bindO (fstV (still (aFieldAddr Pg 51 x1 7) h105)) fun v110 =>
  bindO (fstV (still (aFieldAddr Pg 49 v110 1) h105)) fun v111 =>
  bindO (fstV (aLoadV Pg h105 40 v111)) fun v112 =>
  bindO (fstV (still (aConv Pg h105 40 22 v112) h105)) fun v113 =>
  ∃ v114, ACalls Pg 23 [v113, (V.int .i64 2)] h105 (pureE v114 h105) ∧ (
  bindO (fstV (still (aBin Pg .add 9 v109 v114 false) h105)) fun v115 =>
  bindO (fstV (still (aFieldAddr Pg 51 x1 7) h105)) fun v116 =>
  bindO (fstV (still (aFieldAddr Pg 49 v116 2) h105)) fun v117 =>
  bindO (fstV (aLoadV Pg h105 45 v117)) fun v118 =>
  bindO (fstV (still (aConv Pg h105 45 22 v118) h105)) fun v119 =>
  ∃ v120, ACalls Pg 23 [v119, (V.int .i64 4)] h105 (pureE v120 h105) ∧ (
  bindO (fstV (still (aBin Pg .add 9 v115 v120 false) h105)) fun v121 =>
  bindO (fstV (still (aFieldAddr Pg 51 x1 7) h105)) fun v122 =>
  bindO (fstV (still (aFieldAddr Pg 49 v122 3) h105)) fun v123 =>
  bindO (fstV (still (aFieldAddr Pg 47 v123 0) h105)) fun v124 =>
  bindO (fstV (aLoadV Pg h105 40 v124)) fun v125 =>
  bindO (fstV (still (aConv Pg h105 40 22 v125) h105)) fun v126 =>
  ∃ v127, ACalls Pg 23 [v126, (V.int .i64 2)] h105 (pureE v127 h105) ∧ (
  bindO (fstV (still (aBin Pg .add 9 v121 v127 false) h105)) fun v128 =>
  bindO (fstV (still (aFieldAddr Pg 51 x1 7) h105)) fun v129 =>
  bindO (fstV (still (aFieldAddr Pg 49 v129 3) h105)) fun v130 =>
  bindO (fstV (still (aFieldAddr Pg 47 v130 1) h105)) fun v131 =>
  bindO (fstV (aLoadV Pg h105 5 v131)) fun v132 =>
  bindO (fstV (still (aConv Pg h105 5 3 v132) h105)) fun v133 =>
  ∃ v134, ACalls Pg 38 [v133] h105 (pureE v134 h105) ∧ (
  bindO (fstV (still (aBin Pg .add 9 v128 v134 false) h105)) fun v135 =>
  bindO (fstV (still (aFieldAddr Pg 51 x1 7) h105)) fun v136 =>
  bindO (fstV (still (aFieldAddr Pg 49 v136 4) h105)) fun v137 =>
  bindO (fstV (aLoadV Pg h105 9 v137)) fun v138 =>
  bindO (fstV (aBuiltin Pg h105 .len [9] [v138])) fun v139 =>
  ∃ v140, ACalls Pg 38 [v139] h105 (pureE v140 h105) ∧ (
  bindO (fstV (still (aBin Pg .add 9 v135 v140 false) h105)) fun v141 =>
  bindO (fstV (still (aFieldAddr Pg 51 x1 7) h105)) fun v142 =>
  bindO (fstV (still (aFieldAddr Pg 49 v142 4) h105)) fun v143 =>
  bindO (fstV (aLoadV Pg h105 9 v143)) fun v144 =>
  bindO (fstV (still (aBin Pg .add 9 v141 v144 false) h105)) fun v145 =>
  bindO (fstV (still (aBin Pg .add 9 x4 v145 false) h105)) fun v146 =>
  Meet (J30_111111 Q v146 h105)))))))) (
  bindV (still (aBin Pg .eql 5 v53 (V.int .u8 4) true) h105) fun v147 h148 =>
  vcIf v147 (
  Meet (J30_111110101111111 Q x1 x4 v53 v147 h148)) (
  bindV (still (aBin Pg .eql 5 v53 (V.int .u8 5) true) h148) fun v171 h172 =>
  Meet (J30_111110101111111 Q x1 x4 v53 v171 h172)))))) := by kernel_rfl
theorem J30_1111_eq (Q : AEnd → AH → Prop) (x1 x4 : V) (h : AH) : J30_1111 Q x1 x4 h = (
  bindV (still (aFieldAddr Pg 51 x1 0) h) fun v33 h34 =>
  bindV (aLoadV Pg h34 5 v33) fun v35 h36 =>
  bindV (still (aBin Pg .neq 5 v35 (V.int .u8 6) true) h36) fun v37 h38 =>
  vcIf v37 (
  bindV (still (aFieldAddr Pg 51 x1 1) h38) fun v39 h40 =>
  bindV (still (aFieldAddr Pg 42 v39 1) h40) fun v41 h42 =>
  bindV (aLoadV Pg h42 40 v41) fun v43 h44 =>
  bindV (still (aConv Pg h44 40 22 v43) h44) fun v45 h46 =>
  ACalls Pg 23 [v45, (V.int .i64 2)] h46 (aEnd (fun v47 h48 =>
  bindV (still (aBin Pg .add 9 x4 v47 false) h48) fun v49 h50 =>
  Meet (J30_11111 Q x1 v49 h50)) fun v h => Q (.panic v) h)) (
  Meet (J30_11111 Q x1 x4 h38))) := by kernel_rfl
theorem J30_11_eq (Q : AEnd → AH → Prop) (x1 : V) (h : AH) : J30_11 Q x1 h = (
  bindV (still (aFieldAddr Pg 51 x1 0) h) fun v9 h10 =>
  bindV (aLoadV Pg h10 5 v9) fun v11 h12 =>
  bindV (still (aConv Pg h12 5 3 v11) h12) fun v13 h14 =>
  ACalls Pg 38 [v13] h14 (aEnd (fun v15 h16 =>
  bindV (still (aFieldAddr Pg 51 x1 0) h16) fun v17 h18 =>
  bindV (aLoadV Pg h18 5 v17) fun v19 h20 =>
  bindV (still (aBin Pg .eql 5 v19 (V.int .u8 1) true) h20) fun v21 h22 =>
  vcIf v21 (
  bindV (still (aFieldAddr Pg 51 x1 1) h22) fun v23 h24 =>
  bindV (still (aFieldAddr Pg 42 v23 0) h24) fun v25 h26 =>
  bindV (aLoadV Pg h26 4 v25) fun v27 h28 =>
  vcIf v27 (
  ACalls Pg 38 [(V.int .i64 1)] h28 (aEnd (fun v29 h30 =>
  bindV (still (aBin Pg .add 9 v15 v29 false) h30) fun v31 h32 =>
  Meet (J30_1111 Q x1 v31 h32)) fun v h => Q (.panic v) h)) (
  ACalls Pg 38 [(V.int .i64 0)] h28 (aEnd (fun v173 h174 =>
  bindV (still (aBin Pg .add 9 v15 v173 false) h174) fun v175 h176 =>
  Meet (J30_1111 Q x1 v175 h176)) fun v h => Q (.panic v) h))) (
  Meet (J30_1111 Q x1 v15 h22))) fun v h => Q (.panic v) h)) := by kernel_rfl
theorem S30 (Q : AEnd → AH → Prop) (a0 : V) (h : AH) : vc Pg N30 B30 K30 (vcRet Pg R30 Q) (initEnv 0 [a0]) h = (
  bindV (aNew Pg h 51 a0) fun v1 h2 =>
  bindV (aLoadV Pg h2 51 v1) fun v3 h4 =>
  ACalls Pg 37 [v3] h4 (aEnd (fun v5 h6 =>
  bindV (still (aUn .not v5) h6) fun v7 h8 =>
  vcIf v7 (
  Q (.ret (V.tup [(V.str []), (V.bool false)])) h8) (
  Meet (J30_11 Q v1 h8))) fun v h => Q (.panic v) h)) := by kernel_rfl
theorem C30 (Q : AEnd → AH → Prop) (a0 : V) (h : AH) (c :
  bindV (aNew Pg h 51 a0) fun v1 h2 =>
  bindV (aLoadV Pg h2 51 v1) fun v3 h4 =>
  ACalls Pg 37 [v3] h4 (aEnd (fun v5 h6 =>
  bindV (still (aUn .not v5) h6) fun v7 h8 =>
  vcIf v7 (
  Q (.ret (V.tup [(V.str []), (V.bool false)])) h8) (
  Meet (J30_11 Q v1 h8))) fun v h => Q (.panic v) h)) : ACalls Pg 30 [a0] h Q :=
  acalls_of_vc okP Try.func30 (show Try.f30.body = some B30 from by kernel_rfl) K30 (by rw [← S30 Q a0 h] at c; exact c)

-- 31 varve/rec.May
noncomputable def B31 : Code := (Try.f31.body).getD .skip
def R31 : List ResultVar := [.tmp 2]
abbrev N31 : Nat := 30
def K31 : KT := (.seq .leaf (.join (.reg [[1, 6, 9], [1, 11, 15], [1, 17, 21], [23, 28]]) .leaf [2]) [1])
def J31_11 (Q : AEnd → AH → Prop) (x2 : V) (h : AH) : Prop := vcAt Pg N31 B31 K31 [1, 1] [] (vcRet Pg R31 Q) [(2, x2)] h
def G31_101008 (Q : AEnd → AH → Prop) (x23 x28 : V) (h : AH) : Prop := segAtD Pg N31 B31 K31 [1, 0] 8 4 26 [] (vcRet Pg R31 Q) [(23, x23), (28, x28)] h
def G31_101006 (Q : AEnd → AH → Prop) (x1 x17 x21 : V) (h : AH) : Prop := segAtD Pg N31 B31 K31 [1, 0] 6 3 19 [] (vcRet Pg R31 Q) [(1, x1), (17, x17), (21, x21)] h
def G31_101004 (Q : AEnd → AH → Prop) (x1 x11 x15 : V) (h : AH) : Prop := segAtD Pg N31 B31 K31 [1, 0] 4 2 13 [] (vcRet Pg R31 Q) [(1, x1), (11, x11), (15, x15)] h
def G31_101002 (Q : AEnd → AH → Prop) (x1 x6 x9 : V) (h : AH) : Prop := segAtD Pg N31 B31 K31 [1, 0] 2 1 7 [] (vcRet Pg R31 Q) [(1, x1), (6, x6), (9, x9)] h
theorem J31_11_eq (Q : AEnd → AH → Prop) (x2 : V) (h : AH) : J31_11 Q x2 h = (
  Q (.ret x2) h) := by kernel_rfl
theorem G31_101008_eq (Q : AEnd → AH → Prop) (x23 x28 : V) (h : AH) : G31_101008 Q x23 x28 h = (
  bindO (fstV (aPick x23 x28 (V.bool false) h)) fun v9 =>
  Meet (J31_11 Q v9 h)) := by kernel_rfl
theorem G31_101006_eq (Q : AEnd → AH → Prop) (x1 x17 x21 : V) (h : AH) : G31_101006 Q x1 x17 x21 h = (
  bindO (fstV (aPick x17 x21 (V.bool false) h)) fun v8 =>
  vcG v8 true (
  bindO (fstV (still (aFieldAddr Pg 51 x1 7) h)) fun v10 =>
  bindO (fstV (still (aFieldAddr Pg 49 v10 4) h)) fun v11 =>
  bindO (fstV (aLoadV Pg h 9 v11)) fun v12 =>
  bindO (fstV (aBuiltin Pg h .len [9] [v12])) fun v13 =>
  bindO (fstV (still (aBin Pg .leq 3 v13 (V.int .i64 66) true) h)) fun v14 =>
  Meet (G31_101008 Q v8 v14 h)) (Meet (G31_101008 Q v8 hole h))) := by kernel_rfl
theorem G31_101004_eq (Q : AEnd → AH → Prop) (x1 x11 x15 : V) (h : AH) : G31_101004 Q x1 x11 x15 h = (
  bindO (fstV (aPick x11 x15 (V.bool false) h)) fun v7 =>
  vcG v7 true (
  bindO (fstV (still (aFieldAddr Pg 51 x1 5) h)) fun v15 =>
  bindO (fstV (aLoadV Pg h 9 v15)) fun v16 =>
  bindO (fstV (aBuiltin Pg h .len [9] [v16])) fun v17 =>
  bindO (fstV (still (aBin Pg .leq 3 v17 (V.int .i64 66) true) h)) fun v18 =>
  Meet (G31_101006 Q x1 v7 v18 h)) (Meet (G31_101006 Q x1 v7 hole h))) := by kernel_rfl
theorem G31_101002_eq (Q : AEnd → AH → Prop) (x1 x6 x9 : V) (h : AH) : G31_101002 Q x1 x6 x9 h = (
  bindO (fstV (aPick x6 x9 (V.bool false) h)) fun v6 =>
  vcG v6 true (
  bindO (fstV (aLoadV Pg h 51 x1)) fun v19 =>
  ∃ v20, ACalls Pg 39 [v19] h (pureE v20 h) ∧ (
  bindO (fstV (aLoadV Pg h 51 x1)) fun v21 =>
  bindO (fstV (still (aBin Pg .eql 51 v20 v21 false) h)) fun v22 =>
  Meet (G31_101004 Q x1 v6 v22 h))) (Meet (G31_101004 Q x1 v6 hole h))) := by kernel_rfl
theorem S31 (Q : AEnd → AH → Prop) (a0 : V) (h : AH) : vc Pg N31 B31 K31 (vcRet Pg R31 Q) (initEnv 0 [a0]) h = (
  bindV (aNew Pg h 51 a0) fun v1 h2 =>
  bindO (fstV (still (aFieldAddr Pg 51 v1 0) h2)) fun v3 =>
  bindO (fstV (aLoadV Pg h2 5 v3)) fun v4 =>
  bindO (fstV (still (aBin Pg .geq 5 v4 (V.int .u8 1) true) h2)) fun v5 =>
  vcG v5 true (
  bindO (fstV (still (aFieldAddr Pg 51 v1 0) h2)) fun v23 =>
  bindO (fstV (aLoadV Pg h2 5 v23)) fun v24 =>
  bindO (fstV (still (aBin Pg .leq 5 v24 (V.int .u8 6) true) h2)) fun v25 =>
  Meet (G31_101002 Q v1 v5 v25 h2)) (Meet (G31_101002 Q v1 v5 hole h2))) := by kernel_rfl
theorem C31 (Q : AEnd → AH → Prop) (a0 : V) (h : AH) (c :
  bindV (aNew Pg h 51 a0) fun v1 h2 =>
  bindO (fstV (still (aFieldAddr Pg 51 v1 0) h2)) fun v3 =>
  bindO (fstV (aLoadV Pg h2 5 v3)) fun v4 =>
  bindO (fstV (still (aBin Pg .geq 5 v4 (V.int .u8 1) true) h2)) fun v5 =>
  vcG v5 true (
  bindO (fstV (still (aFieldAddr Pg 51 v1 0) h2)) fun v23 =>
  bindO (fstV (aLoadV Pg h2 5 v23)) fun v24 =>
  bindO (fstV (still (aBin Pg .leq 5 v24 (V.int .u8 6) true) h2)) fun v25 =>
  Meet (G31_101002 Q v1 v5 v25 h2)) (Meet (G31_101002 Q v1 v5 hole h2))) : ACalls Pg 31 [a0] h Q :=
  acalls_of_vc okP Try.func31 (show Try.f31.body = some B31 from by kernel_rfl) K31 (by rw [← S31 Q a0 h] at c; exact c)

-- 32 varve/varvelaw08.awake
noncomputable def B32 : Code := (Try.f32.body).getD .skip
def R32 : List ResultVar := [.tmp 0]
abbrev N32 : Nat := 14
def K32 : KT := (.seq .leaf (.seq .leaf (.join (.reg [[10, 12]]) .leaf [0]) [1, 2]) [])
def J32_111 (Q : AEnd → AH → Prop) (x0 : V) (h : AH) : Prop := vcAt Pg N32 B32 K32 [1, 1, 1] [] (vcRet Pg R32 Q) [(0, x0)] h
def G32_1101002 (Q : AEnd → AH → Prop) (x10 x12 : V) (h : AH) : Prop := segAt Pg N32 B32 K32 [1, 1, 0] 2 1 [] (vcRet Pg R32 Q) [(10, x10), (12, x12)] h
theorem J32_111_eq (Q : AEnd → AH → Prop) (x0 : V) (h : AH) : J32_111 Q x0 h = (
  Q (.ret x0) h) := by kernel_rfl
theorem G32_1101002_eq (Q : AEnd → AH → Prop) (x10 x12 : V) (h : AH) : G32_1101002 Q x10 x12 h = (
  bindV (aPick x10 x12 (V.bool false) h) fun v11 h12 =>
  Meet (J32_111 Q v11 h12)) := by kernel_rfl
theorem S32 (Q : AEnd → AH → Prop) (h : AH) : vc Pg N32 B32 K32 (vcRet Pg R32 Q) (initEnv 0 []) h = (
  bindV (still (aBuild Pg 51 [(0, (V.int .u8 6)), (3, (V.int .u32 258))]) h) fun v1 h2 =>
  ACalls Pg 29 [v1] h2 (aEnd (fun v3 h4 =>
  bindV (still (aExtract v3 0) h4) fun v5 h6 =>
  bindV (still (aExtract v3 1) h6) fun v7 h8 =>
  bindV (still (aBin Pg .eql 52 v7 (V.int .i64 0) true) h8) fun v9 h10 =>
  vcG v9 true (
  bindV (still (aBin Pg .eql 9 v5 (V.str [6, 2, 1, 0, 0]) true) h10) fun v13 h14 =>
  Meet (G32_1101002 Q v9 v13 h14)) (Meet (G32_1101002 Q v9 hole h10))) fun v h => Q (.panic v) h)) := by kernel_rfl
theorem C32 (Q : AEnd → AH → Prop) (h : AH) (c :
  bindV (still (aBuild Pg 51 [(0, (V.int .u8 6)), (3, (V.int .u32 258))]) h) fun v1 h2 =>
  ACalls Pg 29 [v1] h2 (aEnd (fun v3 h4 =>
  bindV (still (aExtract v3 0) h4) fun v5 h6 =>
  bindV (still (aExtract v3 1) h6) fun v7 h8 =>
  bindV (still (aBin Pg .eql 52 v7 (V.int .i64 0) true) h8) fun v9 h10 =>
  vcG v9 true (
  bindV (still (aBin Pg .eql 9 v5 (V.str [6, 2, 1, 0, 0]) true) h10) fun v13 h14 =>
  Meet (G32_1101002 Q v9 v13 h14)) (Meet (G32_1101002 Q v9 hole h10))) fun v h => Q (.panic v) h)) : ACalls Pg 32 [] h Q :=
  acalls_of_vc okP Try.func32 (show Try.f32.body = some B32 from by kernel_rfl) K32 (by rw [← S32 Q h] at c; exact c)

-- 35 varve/rec.short
noncomputable def B35 : Code := (Try.f35.body).getD .skip
def R35 : List ResultVar := [.tmp 2]
abbrev N35 : Nat := 10
def K35 : KT := (.seq .leaf (.seq .leaf .leaf [2]) [0])
theorem S35 (Q : AEnd → AH → Prop) (a0 : V) (h : AH) : vc Pg N35 B35 K35 (vcRet Pg R35 Q) (initEnv 0 [a0]) h = (
  bindV (aBuiltin Pg h .len [9] [a0]) fun v1 h2 =>
  bindV (still (aConv Pg h2 3 5 v1) h2) fun v3 h4 =>
  bindV (aBuildSlice Pg h4 67 1 [(0, v3)]) fun v5 h6 =>
  bindV (still (aConv Pg h6 67 9 v5) h6) fun v7 h8 =>
  bindV (still (aBin Pg .add 9 v7 a0 false) h8) fun v9 h10 =>
  Q (.ret v9) h10) := by kernel_rfl
theorem C35 (Q : AEnd → AH → Prop) (a0 : V) (h : AH) (c :
  bindV (aBuiltin Pg h .len [9] [a0]) fun v1 h2 =>
  bindV (still (aConv Pg h2 3 5 v1) h2) fun v3 h4 =>
  bindV (aBuildSlice Pg h4 67 1 [(0, v3)]) fun v5 h6 =>
  bindV (still (aConv Pg h6 67 9 v5) h6) fun v7 h8 =>
  bindV (still (aBin Pg .add 9 v7 a0 false) h8) fun v9 h10 =>
  Q (.ret v9) h10) : ACalls Pg 35 [a0] h Q :=
  acalls_of_vc okP Try.func35 (show Try.f35.body = some B35 from by kernel_rfl) K35 (by rw [← S35 Q a0 h] at c; exact c)

-- 36 varve/rec.ref
noncomputable def B36 : Code := (Try.f36.body).getD .skip
def R36 : List ResultVar := [.tmp 2]
abbrev N36 : Nat := 12
def K36 : KT := (.seq .leaf (.seq .leaf .leaf [2]) [1])
theorem S36 (Q : AEnd → AH → Prop) (a0 : V) (h : AH) : vc Pg N36 B36 K36 (vcRet Pg R36 Q) (initEnv 0 [a0]) h = (
  bindV (aNew Pg h 47 a0) fun v1 h2 =>
  bindO (fstV (still (aFieldAddr Pg 47 v1 0) h2)) fun v3 =>
  bindO (fstV (aLoadV Pg h2 40 v3)) fun v4 =>
  bindO (fstV (still (aConv Pg h2 40 22 v4) h2)) fun v5 =>
  ∃ v6, ACalls Pg 22 [v5, (V.int .i64 2)] h2 (pureE v6 h2) ∧ (
  bindO (fstV (still (aFieldAddr Pg 47 v1 1) h2)) fun v7 =>
  bindO (fstV (aLoadV Pg h2 5 v7)) fun v8 =>
  bindO (litConv Pg 67 1 [(0, v8)] 67 9) fun v9 =>
  bindO (fstV (still (aBin Pg .add 9 v6 v9 false) h2)) fun v10 =>
  Q (.ret v10) h2)) := by kernel_rfl
theorem C36 (Q : AEnd → AH → Prop) (a0 : V) (h : AH) (c :
  bindV (aNew Pg h 47 a0) fun v1 h2 =>
  bindO (fstV (still (aFieldAddr Pg 47 v1 0) h2)) fun v3 =>
  bindO (fstV (aLoadV Pg h2 40 v3)) fun v4 =>
  bindO (fstV (still (aConv Pg h2 40 22 v4) h2)) fun v5 =>
  ∃ v6, ACalls Pg 22 [v5, (V.int .i64 2)] h2 (pureE v6 h2) ∧ (
  bindO (fstV (still (aFieldAddr Pg 47 v1 1) h2)) fun v7 =>
  bindO (fstV (aLoadV Pg h2 5 v7)) fun v8 =>
  bindO (litConv Pg 67 1 [(0, v8)] 67 9) fun v9 =>
  bindO (fstV (still (aBin Pg .add 9 v6 v9 false) h2)) fun v10 =>
  Q (.ret v10) h2)) : ACalls Pg 36 [a0] h Q :=
  acalls_of_vc okP Try.func36 (show Try.f36.body = some B36 from by kernel_rfl) K36 (by rw [← S36 Q a0 h] at c; exact c)

-- 37 varve/varveref08.May
noncomputable def B37 : Code := (Try.f37.body).getD .skip
def R37 : List ResultVar := [.tmp 2]
abbrev N37 : Nat := 128
def K37 : KT := (.seq .leaf (.seq .leaf (.seq .leaf (.seq .leaf (.join (.reg [[1, 3, 4, 5, 21, 25], [1, 3, 4, 5, 27, 30]]) (.join (.seq .leaf (.one (.seq .leaf (.two (.join (.reg [[4, 37, 40], [42, 43]]) .leaf [2]) (.seq .leaf (.two (.join (.reg [[1, 4, 49, 50], [1, 4, 52, 55], [1, 57, 58], [60, 64]]) .leaf [2]) (.seq .leaf (.two (.join (.reg [[1, 6, 69, 70], [1, 72, 73], [1, 75, 78], [80, 85]]) .leaf [2]) (.join (.seq .leaf (.two .leaf .leaf) [1, 3, 4, 5, 6, 33, 87]) (.two (.join (.reg [[4, 6, 91, 92], [4, 94, 95], [97, 98]]) .leaf [2]) (.seq .leaf (.two (.join (.reg [[1, 4, 106, 107], [1, 4, 109, 113], [1, 4, 115, 118], [4, 120, 123], [125, 126]]) .leaf [2]) .leaf) [1, 3, 4, 100])) [1, 3, 4, 5, 6, 33, 87])) [1, 3, 4, 5, 6, 33, 66])) [1, 3, 4, 5, 6, 33, 45])) [1, 3, 4, 5, 6, 33, 34])) [1, 3, 4, 5, 6, 33]) (.seq .leaf .leaf [2]) []) [1, 3, 4, 5, 6]) [1, 3, 4, 5]) [1, 3, 4]) [1, 3]) [1])
def J37_11111010101 (Q : AEnd → AH → Prop) (x2 : V) (h : AH) : Prop := vcAt Pg N37 B37 K37 [1, 1, 1, 1, 1, 0, 1, 0, 1, 0, 1] [] (vcRet Pg R37 Q) [(2, x2)] h
def G37_111110101001004 (Q : AEnd → AH → Prop) (x42 x43 : V) (h : AH) : Prop := segAt Pg N37 B37 K37 [1, 1, 1, 1, 1, 0, 1, 0, 1, 0, 0] 4 2 [] (vcRet Pg R37 Q) [(42, x42), (43, x43)] h
def G37_111110101001002 (Q : AEnd → AH → Prop) (x4 x37 x40 : V) (h : AH) : Prop := segAt Pg N37 B37 K37 [1, 1, 1, 1, 1, 0, 1, 0, 1, 0, 0] 2 1 [] (vcRet Pg R37 Q) [(4, x4), (37, x37), (40, x40)] h
def J37_1111101011101 (Q : AEnd → AH → Prop) (x2 : V) (h : AH) : Prop := vcAt Pg N37 B37 K37 [1, 1, 1, 1, 1, 0, 1, 0, 1, 1, 1, 0, 1] [] (vcRet Pg R37 Q) [(2, x2)] h
def G37_11111010111001008 (Q : AEnd → AH → Prop) (x60 x64 : V) (h : AH) : Prop := segAt Pg N37 B37 K37 [1, 1, 1, 1, 1, 0, 1, 0, 1, 1, 1, 0, 0] 8 4 [] (vcRet Pg R37 Q) [(60, x60), (64, x64)] h
def G37_11111010111001006 (Q : AEnd → AH → Prop) (x1 x57 x58 : V) (h : AH) : Prop := segAt Pg N37 B37 K37 [1, 1, 1, 1, 1, 0, 1, 0, 1, 1, 1, 0, 0] 6 3 [] (vcRet Pg R37 Q) [(1, x1), (57, x57), (58, x58)] h
def G37_11111010111001004 (Q : AEnd → AH → Prop) (x1 x4 x52 x55 : V) (h : AH) : Prop := segAt Pg N37 B37 K37 [1, 1, 1, 1, 1, 0, 1, 0, 1, 1, 1, 0, 0] 4 2 [] (vcRet Pg R37 Q) [(1, x1), (4, x4), (52, x52), (55, x55)] h
def G37_11111010111001002 (Q : AEnd → AH → Prop) (x1 x4 x49 x50 : V) (h : AH) : Prop := segAt Pg N37 B37 K37 [1, 1, 1, 1, 1, 0, 1, 0, 1, 1, 1, 0, 0] 2 1 [] (vcRet Pg R37 Q) [(1, x1), (4, x4), (49, x49), (50, x50)] h
def J37_111110101111101 (Q : AEnd → AH → Prop) (x2 : V) (h : AH) : Prop := vcAt Pg N37 B37 K37 [1, 1, 1, 1, 1, 0, 1, 0, 1, 1, 1, 1, 1, 0, 1] [] (vcRet Pg R37 Q) [(2, x2)] h
def G37_1111101011111001008 (Q : AEnd → AH → Prop) (x80 x85 : V) (h : AH) : Prop := segAt Pg N37 B37 K37 [1, 1, 1, 1, 1, 0, 1, 0, 1, 1, 1, 1, 1, 0, 0] 8 4 [] (vcRet Pg R37 Q) [(80, x80), (85, x85)] h
def G37_1111101011111001006 (Q : AEnd → AH → Prop) (x1 x75 x78 : V) (h : AH) : Prop := segAt Pg N37 B37 K37 [1, 1, 1, 1, 1, 0, 1, 0, 1, 1, 1, 1, 1, 0, 0] 6 3 [] (vcRet Pg R37 Q) [(1, x1), (75, x75), (78, x78)] h
def G37_1111101011111001004 (Q : AEnd → AH → Prop) (x1 x72 x73 : V) (h : AH) : Prop := segAt Pg N37 B37 K37 [1, 1, 1, 1, 1, 0, 1, 0, 1, 1, 1, 1, 1, 0, 0] 4 2 [] (vcRet Pg R37 Q) [(1, x1), (72, x72), (73, x73)] h
def G37_1111101011111001002 (Q : AEnd → AH → Prop) (x1 x6 x69 x70 : V) (h : AH) : Prop := segAt Pg N37 B37 K37 [1, 1, 1, 1, 1, 0, 1, 0, 1, 1, 1, 1, 1, 0, 0] 2 1 [] (vcRet Pg R37 Q) [(1, x1), (6, x6), (69, x69), (70, x70)] h
def J37_11111010111111101 (Q : AEnd → AH → Prop) (x2 : V) (h : AH) : Prop := vcAt Pg N37 B37 K37 [1, 1, 1, 1, 1, 0, 1, 0, 1, 1, 1, 1, 1, 1, 1, 0, 1] [] (vcRet Pg R37 Q) [(2, x2)] h
def G37_111110101111111001006 (Q : AEnd → AH → Prop) (x97 x98 : V) (h : AH) : Prop := segAt Pg N37 B37 K37 [1, 1, 1, 1, 1, 0, 1, 0, 1, 1, 1, 1, 1, 1, 1, 0, 0] 6 3 [] (vcRet Pg R37 Q) [(97, x97), (98, x98)] h
def G37_111110101111111001004 (Q : AEnd → AH → Prop) (x4 x94 x95 : V) (h : AH) : Prop := segAt Pg N37 B37 K37 [1, 1, 1, 1, 1, 0, 1, 0, 1, 1, 1, 1, 1, 1, 1, 0, 0] 4 2 [] (vcRet Pg R37 Q) [(4, x4), (94, x94), (95, x95)] h
def G37_111110101111111001002 (Q : AEnd → AH → Prop) (x4 x6 x91 x92 : V) (h : AH) : Prop := segAt Pg N37 B37 K37 [1, 1, 1, 1, 1, 0, 1, 0, 1, 1, 1, 1, 1, 1, 1, 0, 0] 2 1 [] (vcRet Pg R37 Q) [(4, x4), (6, x6), (91, x91), (92, x92)] h
def J37_1111101011111111101 (Q : AEnd → AH → Prop) (x2 : V) (h : AH) : Prop := vcAt Pg N37 B37 K37 [1, 1, 1, 1, 1, 0, 1, 0, 1, 1, 1, 1, 1, 1, 1, 1, 1, 0, 1] [] (vcRet Pg R37 Q) [(2, x2)] h
def G37_11111010111111111001010 (Q : AEnd → AH → Prop) (x125 x126 : V) (h : AH) : Prop := segAt Pg N37 B37 K37 [1, 1, 1, 1, 1, 0, 1, 0, 1, 1, 1, 1, 1, 1, 1, 1, 1, 0, 0] 10 5 [] (vcRet Pg R37 Q) [(125, x125), (126, x126)] h
def G37_11111010111111111001008 (Q : AEnd → AH → Prop) (x4 x120 x123 : V) (h : AH) : Prop := segAt Pg N37 B37 K37 [1, 1, 1, 1, 1, 0, 1, 0, 1, 1, 1, 1, 1, 1, 1, 1, 1, 0, 0] 8 4 [] (vcRet Pg R37 Q) [(4, x4), (120, x120), (123, x123)] h
def G37_11111010111111111001006 (Q : AEnd → AH → Prop) (x1 x4 x115 x118 : V) (h : AH) : Prop := segAt Pg N37 B37 K37 [1, 1, 1, 1, 1, 0, 1, 0, 1, 1, 1, 1, 1, 1, 1, 1, 1, 0, 0] 6 3 [] (vcRet Pg R37 Q) [(1, x1), (4, x4), (115, x115), (118, x118)] h
def G37_11111010111111111001004 (Q : AEnd → AH → Prop) (x1 x4 x109 x113 : V) (h : AH) : Prop := segAt Pg N37 B37 K37 [1, 1, 1, 1, 1, 0, 1, 0, 1, 1, 1, 1, 1, 1, 1, 1, 1, 0, 0] 4 2 [] (vcRet Pg R37 Q) [(1, x1), (4, x4), (109, x109), (113, x113)] h
def G37_11111010111111111001002 (Q : AEnd → AH → Prop) (x1 x4 x106 x107 : V) (h : AH) : Prop := segAt Pg N37 B37 K37 [1, 1, 1, 1, 1, 0, 1, 0, 1, 1, 1, 1, 1, 1, 1, 1, 1, 0, 0] 2 1 [] (vcRet Pg R37 Q) [(1, x1), (4, x4), (106, x106), (107, x107)] h
def J37_111111 (Q : AEnd → AH → Prop) (h : AH) : Prop := vcAt Pg N37 B37 K37 [1, 1, 1, 1, 1, 1] [] (vcRet Pg R37 Q) [] h
def J37_111110101111111 (Q : AEnd → AH → Prop) (x1 x3 x4 x5 x6 x33 x87 : V) (h : AH) : Prop := vcAt Pg N37 B37 K37 [1, 1, 1, 1, 1, 0, 1, 0, 1, 1, 1, 1, 1, 1, 1] [] (vcRet Pg R37 Q) [(1, x1), (3, x3), (4, x4), (5, x5), (6, x6), (33, x33), (87, x87)] h
def J37_11111 (Q : AEnd → AH → Prop) (x1 x3 x4 x5 x6 : V) (h : AH) : Prop := vcAt Pg N37 B37 K37 [1, 1, 1, 1, 1] [] (vcRet Pg R37 Q) [(1, x1), (3, x3), (4, x4), (5, x5), (6, x6)] h
def G37_111101004 (Q : AEnd → AH → Prop) (x1 x3 x4 x5 x27 x30 : V) (h : AH) : Prop := segAt Pg N37 B37 K37 [1, 1, 1, 1, 0] 4 2 [] (vcRet Pg R37 Q) [(1, x1), (3, x3), (4, x4), (5, x5), (27, x27), (30, x30)] h
def G37_111101002 (Q : AEnd → AH → Prop) (x1 x3 x4 x5 x21 x25 : V) (h : AH) : Prop := segAt Pg N37 B37 K37 [1, 1, 1, 1, 0] 2 1 [] (vcRet Pg R37 Q) [(1, x1), (3, x3), (4, x4), (5, x5), (21, x21), (25, x25)] h
theorem J37_11111010101_eq (Q : AEnd → AH → Prop) (x2 : V) (h : AH) : J37_11111010101 Q x2 h = (
  Q (.ret x2) h) := by kernel_rfl
theorem G37_111110101001004_eq (Q : AEnd → AH → Prop) (x42 x43 : V) (h : AH) : G37_111110101001004 Q x42 x43 h = (
  bindV (aPick x42 x43 (V.bool false) h) fun v43 h44 =>
  Meet (J37_11111010101 Q v43 h44)) := by kernel_rfl
theorem G37_111110101001002_eq (Q : AEnd → AH → Prop) (x4 x37 x40 : V) (h : AH) : G37_111110101001002 Q x4 x37 x40 h = (
  bindV (aPick x37 x40 (V.bool false) h) fun v41 h42 =>
  vcG v41 true (
  Meet (G37_111110101001004 Q v41 x4 h42)) (Meet (G37_111110101001004 Q v41 hole h42))) := by kernel_rfl
theorem J37_1111101011101_eq (Q : AEnd → AH → Prop) (x2 : V) (h : AH) : J37_1111101011101 Q x2 h = (
  Q (.ret x2) h) := by kernel_rfl
theorem G37_11111010111001008_eq (Q : AEnd → AH → Prop) (x60 x64 : V) (h : AH) : G37_11111010111001008 Q x60 x64 h = (
  bindV (aPick x60 x64 (V.bool false) h) fun v61 h62 =>
  Meet (J37_1111101011101 Q v61 h62)) := by kernel_rfl
theorem G37_11111010111001006_eq (Q : AEnd → AH → Prop) (x1 x57 x58 : V) (h : AH) : G37_11111010111001006 Q x1 x57 x58 h = (
  bindV (aPick x57 x58 (V.bool false) h) fun v59 h60 =>
  vcG v59 true (
  bindV (still (aFieldAddr Pg 51 x1 5) h60) fun v63 h64 =>
  bindV (aLoadV Pg h64 9 v63) fun v65 h66 =>
  bindV (aBuiltin Pg h66 .len [9] [v65]) fun v67 h68 =>
  bindV (still (aBin Pg .leq 3 v67 (V.int .i64 66) true) h68) fun v69 h70 =>
  Meet (G37_11111010111001008 Q v59 v69 h70)) (Meet (G37_11111010111001008 Q v59 hole h60))) := by kernel_rfl
theorem G37_11111010111001004_eq (Q : AEnd → AH → Prop) (x1 x4 x52 x55 : V) (h : AH) : G37_11111010111001004 Q x1 x4 x52 x55 h = (
  bindV (aPick x52 x55 (V.bool false) h) fun v57 h58 =>
  vcG v57 true (
  Meet (G37_11111010111001006 Q x1 v57 x4 h58)) (Meet (G37_11111010111001006 Q x1 v57 hole h58))) := by kernel_rfl
theorem G37_11111010111001002_eq (Q : AEnd → AH → Prop) (x1 x4 x49 x50 : V) (h : AH) : G37_11111010111001002 Q x1 x4 x49 x50 h = (
  bindV (aPick x49 x50 (V.bool false) h) fun v55 h56 =>
  vcG v55 true (
  bindV (still (aFieldAddr Pg 51 x1 6) h56) fun v71 h72 =>
  bindV (aLoadV Pg h72 5 v71) fun v73 h74 =>
  bindV (still (aBin Pg .eql 5 v73 (V.int .u8 0) true) h74) fun v75 h76 =>
  Meet (G37_11111010111001004 Q x1 x4 v55 v75 h76)) (Meet (G37_11111010111001004 Q x1 x4 v55 hole h56))) := by kernel_rfl
theorem J37_111110101111101_eq (Q : AEnd → AH → Prop) (x2 : V) (h : AH) : J37_111110101111101 Q x2 h = (
  Q (.ret x2) h) := by kernel_rfl
theorem G37_1111101011111001008_eq (Q : AEnd → AH → Prop) (x80 x85 : V) (h : AH) : G37_1111101011111001008 Q x80 x85 h = (
  bindV (aPick x80 x85 (V.bool false) h) fun v85 h86 =>
  Meet (J37_111110101111101 Q v85 h86)) := by kernel_rfl
theorem G37_1111101011111001006_eq (Q : AEnd → AH → Prop) (x1 x75 x78 : V) (h : AH) : G37_1111101011111001006 Q x1 x75 x78 h = (
  bindV (aPick x75 x78 (V.bool false) h) fun v83 h84 =>
  vcG v83 true (
  bindV (still (aFieldAddr Pg 51 x1 7) h84) fun v87 h88 =>
  bindV (still (aFieldAddr Pg 49 v87 4) h88) fun v89 h90 =>
  bindV (aLoadV Pg h90 9 v89) fun v91 h92 =>
  bindV (aBuiltin Pg h92 .len [9] [v91]) fun v93 h94 =>
  bindV (still (aBin Pg .leq 3 v93 (V.int .i64 66) true) h94) fun v95 h96 =>
  Meet (G37_1111101011111001008 Q v83 v95 h96)) (Meet (G37_1111101011111001008 Q v83 hole h84))) := by kernel_rfl
theorem G37_1111101011111001004_eq (Q : AEnd → AH → Prop) (x1 x72 x73 : V) (h : AH) : G37_1111101011111001004 Q x1 x72 x73 h = (
  bindV (aPick x72 x73 (V.bool false) h) fun v81 h82 =>
  vcG v81 true (
  bindV (still (aFieldAddr Pg 51 x1 7) h82) fun v97 h98 =>
  bindV (still (aFieldAddr Pg 49 v97 0) h98) fun v99 h100 =>
  bindV (aLoadV Pg h100 4 v99) fun v101 h102 =>
  Meet (G37_1111101011111001006 Q x1 v81 v101 h102)) (Meet (G37_1111101011111001006 Q x1 v81 hole h82))) := by kernel_rfl
theorem G37_1111101011111001002_eq (Q : AEnd → AH → Prop) (x1 x6 x69 x70 : V) (h : AH) : G37_1111101011111001002 Q x1 x6 x69 x70 h = (
  bindV (aPick x69 x70 (V.bool false) h) fun v79 h80 =>
  vcG v79 true (
  Meet (G37_1111101011111001004 Q x1 v79 x6 h80)) (Meet (G37_1111101011111001004 Q x1 v79 hole h80))) := by kernel_rfl
theorem J37_11111010111111101_eq (Q : AEnd → AH → Prop) (x2 : V) (h : AH) : J37_11111010111111101 Q x2 h = (
  Q (.ret x2) h) := by kernel_rfl
theorem G37_111110101111111001006_eq (Q : AEnd → AH → Prop) (x97 x98 : V) (h : AH) : G37_111110101111111001006 Q x97 x98 h = (
  bindV (aPick x97 x98 (V.bool false) h) fun v109 h110 =>
  Meet (J37_11111010111111101 Q v109 h110)) := by kernel_rfl
theorem G37_111110101111111001004_eq (Q : AEnd → AH → Prop) (x4 x94 x95 : V) (h : AH) : G37_111110101111111001004 Q x4 x94 x95 h = (
  bindV (aPick x94 x95 (V.bool false) h) fun v107 h108 =>
  vcG v107 true (
  Meet (G37_111110101111111001006 Q v107 x4 h108)) (Meet (G37_111110101111111001006 Q v107 hole h108))) := by kernel_rfl
theorem G37_111110101111111001002_eq (Q : AEnd → AH → Prop) (x4 x6 x91 x92 : V) (h : AH) : G37_111110101111111001002 Q x4 x6 x91 x92 h = (
  bindV (aPick x91 x92 (V.bool false) h) fun v105 h106 =>
  vcG v105 true (
  Meet (G37_111110101111111001004 Q x4 v105 x6 h106)) (Meet (G37_111110101111111001004 Q x4 v105 hole h106))) := by kernel_rfl
theorem J37_1111101011111111101_eq (Q : AEnd → AH → Prop) (x2 : V) (h : AH) : J37_1111101011111111101 Q x2 h = (
  Q (.ret x2) h) := by kernel_rfl
theorem G37_11111010111111111001010_eq (Q : AEnd → AH → Prop) (x125 x126 : V) (h : AH) : G37_11111010111111111001010 Q x125 x126 h = (
  bindV (aPick x125 x126 (V.bool false) h) fun v129 h130 =>
  Meet (J37_1111101011111111101 Q v129 h130)) := by kernel_rfl
theorem G37_11111010111111111001008_eq (Q : AEnd → AH → Prop) (x4 x120 x123 : V) (h : AH) : G37_11111010111111111001008 Q x4 x120 x123 h = (
  bindV (aPick x120 x123 (V.bool false) h) fun v127 h128 =>
  vcG v127 true (
  Meet (G37_11111010111111111001010 Q v127 x4 h128)) (Meet (G37_11111010111111111001010 Q v127 hole h128))) := by kernel_rfl
theorem G37_11111010111111111001006_eq (Q : AEnd → AH → Prop) (x1 x4 x115 x118 : V) (h : AH) : G37_11111010111111111001006 Q x1 x4 x115 x118 h = (
  bindV (aPick x115 x118 (V.bool false) h) fun v125 h126 =>
  vcG v125 true (
  bindV (still (aFieldAddr Pg 51 x1 6) h126) fun v131 h132 =>
  bindV (aLoadV Pg h132 5 v131) fun v133 h134 =>
  bindV (still (aBin Pg .eql 5 v133 (V.int .u8 0) true) h134) fun v135 h136 =>
  Meet (G37_11111010111111111001008 Q x4 v125 v135 h136)) (Meet (G37_11111010111111111001008 Q x4 v125 hole h126))) := by kernel_rfl
theorem G37_11111010111111111001004_eq (Q : AEnd → AH → Prop) (x1 x4 x109 x113 : V) (h : AH) : G37_11111010111111111001004 Q x1 x4 x109 x113 h = (
  bindV (aPick x109 x113 (V.bool false) h) fun v123 h124 =>
  vcG v123 true (
  bindV (still (aFieldAddr Pg 51 x1 5) h124) fun v137 h138 =>
  bindV (aLoadV Pg h138 9 v137) fun v139 h140 =>
  bindV (still (aBin Pg .eql 9 v139 (V.str []) true) h140) fun v141 h142 =>
  Meet (G37_11111010111111111001006 Q x1 x4 v123 v141 h142)) (Meet (G37_11111010111111111001006 Q x1 x4 v123 hole h124))) := by kernel_rfl
theorem G37_11111010111111111001002_eq (Q : AEnd → AH → Prop) (x1 x4 x106 x107 : V) (h : AH) : G37_11111010111111111001002 Q x1 x4 x106 x107 h = (
  bindV (aPick x106 x107 (V.bool false) h) fun v121 h122 =>
  vcG v121 true (
  bindV (still (aFieldAddr Pg 51 x1 4) h122) fun v143 h144 =>
  bindV (aLoadV Pg h144 47 v143) fun v145 h146 =>
  bindV (still (aBuild Pg 47 []) h146) fun v147 h148 =>
  bindV (still (aBin Pg .eql 47 v145 v147 false) h148) fun v149 h150 =>
  Meet (G37_11111010111111111001004 Q x1 x4 v121 v149 h150)) (Meet (G37_11111010111111111001004 Q x1 x4 v121 hole h122))) := by kernel_rfl
theorem J37_111111_eq (Q : AEnd → AH → Prop) (h : AH) : J37_111111 Q h = (
  Q (.ret (V.bool false)) h) := by kernel_rfl
theorem J37_111110101111111_eq (Q : AEnd → AH → Prop) (x1 x3 x4 x5 x6 x33 x87 : V) (h : AH) : J37_111110101111111 Q x1 x3 x4 x5 x6 x33 x87 h = (
  vcIf x87 (
  vcG x5 true (
  Meet (G37_111110101111111001002 Q x4 x6 x5 x3 h)) (Meet (G37_111110101111111001002 Q x4 x6 x5 hole h))) (
  bindV (still (aBin Pg .eql 5 x33 (V.int .u8 6) true) h) fun v111 h112 =>
  vcIf v111 (
  bindV (still (aFieldAddr Pg 51 x1 1) h112) fun v113 h114 =>
  bindV (aLoadV Pg h114 42 v113) fun v115 h116 =>
  bindV (still (aBuild Pg 42 []) h116) fun v117 h118 =>
  bindV (still (aBin Pg .eql 42 v115 v117 false) h118) fun v119 h120 =>
  vcG v119 true (
  Meet (G37_11111010111111111001002 Q x1 x4 v119 x3 h120)) (Meet (G37_11111010111111111001002 Q x1 x4 v119 hole h120))) (
  Meet (J37_111111 Q h112)))) := by kernel_rfl
theorem J37_11111_eq (Q : AEnd → AH → Prop) (x1 x3 x4 x5 x6 : V) (h : AH) : J37_11111 Q x1 x3 x4 x5 x6 h = (
  bindV (still (aFieldAddr Pg 51 x1 0) h) fun v35 h36 =>
  bindV (aLoadV Pg h36 5 v35) fun v37 h38 =>
  bindV (still (aBin Pg .eql 5 v37 (V.int .u8 1) true) h38) fun v39 h40 =>
  vcIf v39 (
  vcG x6 true (
  bindV (still (aFieldAddr Pg 51 x1 6) h40) fun v45 h46 =>
  bindV (aLoadV Pg h46 5 v45) fun v47 h48 =>
  bindV (still (aBin Pg .eql 5 v47 (V.int .u8 0) true) h48) fun v49 h50 =>
  Meet (G37_111110101001002 Q x4 x6 v49 h50)) (Meet (G37_111110101001002 Q x4 x6 hole h40))) (
  bindV (still (aBin Pg .eql 5 v37 (V.int .u8 2) true) h40) fun v51 h52 =>
  vcIf v51 (
  bindV (still (aUn .not x5) h52) fun v53 h54 =>
  vcG v53 true (
  Meet (G37_11111010111001002 Q x1 x4 v53 x3 h54)) (Meet (G37_11111010111001002 Q x1 x4 v53 hole h54))) (
  bindV (still (aBin Pg .eql 5 v37 (V.int .u8 3) true) h52) fun v77 h78 =>
  vcIf v77 (
  vcG x5 true (
  Meet (G37_1111101011111001002 Q x1 x6 x5 x3 h78)) (Meet (G37_1111101011111001002 Q x1 x6 x5 hole h78))) (
  bindV (still (aBin Pg .eql 5 v37 (V.int .u8 4) true) h78) fun v103 h104 =>
  vcIf v103 (
  Meet (J37_111110101111111 Q x1 x3 x4 x5 x6 v37 v103 h104)) (
  bindV (still (aBin Pg .eql 5 v37 (V.int .u8 5) true) h104) fun v151 h152 =>
  Meet (J37_111110101111111 Q x1 x3 x4 x5 x6 v37 v151 h152)))))) := by kernel_rfl
theorem G37_111101004_eq (Q : AEnd → AH → Prop) (x1 x3 x4 x5 x27 x30 : V) (h : AH) : G37_111101004 Q x1 x3 x4 x5 x27 x30 h = (
  bindV (aPick x27 x30 (V.bool false) h) fun v33 h34 =>
  Meet (J37_11111 Q x1 x3 x4 x5 v33 h34)) := by kernel_rfl
theorem G37_111101002_eq (Q : AEnd → AH → Prop) (x1 x3 x4 x5 x21 x25 : V) (h : AH) : G37_111101002 Q x1 x3 x4 x5 x21 x25 h = (
  bindV (aPick x21 x25 (V.bool false) h) fun v31 h32 =>
  vcG v31 true (
  bindV (still (aFieldAddr Pg 51 x1 5) h32) fun v153 h154 =>
  bindV (aLoadV Pg h154 9 v153) fun v155 h156 =>
  bindV (still (aBin Pg .eql 9 v155 (V.str []) true) h156) fun v157 h158 =>
  Meet (G37_111101004 Q x1 x3 x4 x5 v31 v157 h158)) (Meet (G37_111101004 Q x1 x3 x4 x5 v31 hole h32))) := by kernel_rfl
theorem S37 (Q : AEnd → AH → Prop) (a0 : V) (h : AH) : vc Pg N37 B37 K37 (vcRet Pg R37 Q) (initEnv 0 [a0]) h = (
  bindV (aNew Pg h 51 a0) fun v1 h2 =>
  bindV (still (aFieldAddr Pg 51 v1 2) h2) fun v3 h4 =>
  bindV (aLoadV Pg h4 44 v3) fun v5 h6 =>
  bindV (still (aBuild Pg 44 []) h6) fun v7 h8 =>
  bindV (still (aBin Pg .eql 44 v5 v7 false) h8) fun v9 h10 =>
  bindV (still (aFieldAddr Pg 51 v1 7) h10) fun v11 h12 =>
  bindV (aLoadV Pg h12 49 v11) fun v13 h14 =>
  bindV (still (aBuild Pg 49 []) h14) fun v15 h16 =>
  bindV (still (aBin Pg .eql 49 v13 v15 false) h16) fun v17 h18 =>
  bindV (still (aFieldAddr Pg 51 v1 1) h18) fun v19 h20 =>
  bindV (still (aFieldAddr Pg 42 v19 0) h20) fun v21 h22 =>
  bindV (aLoadV Pg h22 4 v21) fun v23 h24 =>
  bindV (still (aFieldAddr Pg 51 v1 3) h24) fun v25 h26 =>
  bindV (aLoadV Pg h26 45 v25) fun v27 h28 =>
  bindV (still (aBin Pg .eql 45 v27 (V.int .u32 0) true) h28) fun v29 h30 =>
  vcG v29 true (
  bindV (still (aFieldAddr Pg 51 v1 4) h30) fun v159 h160 =>
  bindV (aLoadV Pg h160 47 v159) fun v161 h162 =>
  bindV (still (aBuild Pg 47 []) h162) fun v163 h164 =>
  bindV (still (aBin Pg .eql 47 v161 v163 false) h164) fun v165 h166 =>
  Meet (G37_111101002 Q v1 v9 v17 v23 v29 v165 h166)) (Meet (G37_111101002 Q v1 v9 v17 v23 v29 hole h30))) := by kernel_rfl
theorem C37 (Q : AEnd → AH → Prop) (a0 : V) (h : AH) (c :
  bindV (aNew Pg h 51 a0) fun v1 h2 =>
  bindV (still (aFieldAddr Pg 51 v1 2) h2) fun v3 h4 =>
  bindV (aLoadV Pg h4 44 v3) fun v5 h6 =>
  bindV (still (aBuild Pg 44 []) h6) fun v7 h8 =>
  bindV (still (aBin Pg .eql 44 v5 v7 false) h8) fun v9 h10 =>
  bindV (still (aFieldAddr Pg 51 v1 7) h10) fun v11 h12 =>
  bindV (aLoadV Pg h12 49 v11) fun v13 h14 =>
  bindV (still (aBuild Pg 49 []) h14) fun v15 h16 =>
  bindV (still (aBin Pg .eql 49 v13 v15 false) h16) fun v17 h18 =>
  bindV (still (aFieldAddr Pg 51 v1 1) h18) fun v19 h20 =>
  bindV (still (aFieldAddr Pg 42 v19 0) h20) fun v21 h22 =>
  bindV (aLoadV Pg h22 4 v21) fun v23 h24 =>
  bindV (still (aFieldAddr Pg 51 v1 3) h24) fun v25 h26 =>
  bindV (aLoadV Pg h26 45 v25) fun v27 h28 =>
  bindV (still (aBin Pg .eql 45 v27 (V.int .u32 0) true) h28) fun v29 h30 =>
  vcG v29 true (
  bindV (still (aFieldAddr Pg 51 v1 4) h30) fun v159 h160 =>
  bindV (aLoadV Pg h160 47 v159) fun v161 h162 =>
  bindV (still (aBuild Pg 47 []) h162) fun v163 h164 =>
  bindV (still (aBin Pg .eql 47 v161 v163 false) h164) fun v165 h166 =>
  Meet (G37_111101002 Q v1 v9 v17 v23 v29 v165 h166)) (Meet (G37_111101002 Q v1 v9 v17 v23 v29 hole h30))) : ACalls Pg 37 [a0] h Q :=
  acalls_of_vc okP Try.func37 (show Try.f37.body = some B37 from by kernel_rfl) K37 (by rw [← S37 Q a0 h] at c; exact c)

-- 38 varve/varveref08.one
noncomputable def B38 : Code := (Try.f38.body).getD .skip
def R38 : List ResultVar := [.tmp 2]
abbrev N38 : Nat := 7
def K38 : KT := (.seq .leaf (.seq .leaf .leaf [2]) [0])
theorem S38 (Q : AEnd → AH → Prop) (a0 : V) (h : AH) : vc Pg N38 B38 K38 (vcRet Pg R38 Q) (initEnv 0 [a0]) h = (
  bindV (still (aConv Pg h 3 5 a0) h) fun v1 h2 =>
  bindV (aBuildSlice Pg h2 67 1 [(0, v1)]) fun v3 h4 =>
  bindV (still (aConv Pg h4 67 9 v3) h4) fun v5 h6 =>
  Q (.ret v5) h6) := by kernel_rfl
theorem C38 (Q : AEnd → AH → Prop) (a0 : V) (h : AH) (c :
  bindV (still (aConv Pg h 3 5 a0) h) fun v1 h2 =>
  bindV (aBuildSlice Pg h2 67 1 [(0, v1)]) fun v3 h4 =>
  bindV (still (aConv Pg h4 67 9 v3) h4) fun v5 h6 =>
  Q (.ret v5) h6) : ACalls Pg 38 [a0] h Q :=
  acalls_of_vc okP Try.func38 (show Try.f38.body = some B38 from by kernel_rfl) K38 (by rw [← S38 Q a0 h] at c; exact c)

-- 39 varve/rec.bare
noncomputable def B39 : Code := (Try.f39.body).getD .skip
def R39 : List ResultVar := [.cell 2 51]
abbrev N39 : Nat := 57
def K39 : KT := (.seq .leaf (.seq .leaf (.join (.seq .leaf (.one (.join (.one (.join (.one (.join (.one (.join (.one (.join (.one (.join (.join (.seq .leaf (.two .leaf .leaf) [1, 2, 3, 8, 9]) (.join (.seq .leaf (.two .leaf .leaf) [1, 2, 3, 8, 11]) (.join (.seq .leaf (.two .leaf .leaf) [1, 2, 3, 8, 13]) (.join (.join (.seq .leaf (.two .leaf .leaf) [1, 2, 3, 8, 15]) (.two .leaf .leaf) [1, 2, 3, 8, 15]) (.seq .leaf (.two .leaf .leaf) [1, 2, 3, 18]) [1, 2, 3, 8]) [1, 2, 3, 8]) [1, 2, 3, 8]) [1, 2, 3, 8]) .leaf [2, 3])) (.seq (.eff [5, 7]) .leaf [2, 3]) [1, 2, 3])) (.seq (.eff [11, 13, 15, 17]) .leaf [2, 3]) [1, 2, 3])) (.seq .leaf .leaf [1, 2, 3]) [1, 2, 3])) (.seq (.eff [7, 9]) .leaf [2, 3]) [1, 2, 3])) (.seq .leaf .leaf [2, 3]) [1, 2, 3])) [1, 2, 3, 8]) (.seq .leaf .leaf [2]) [2, 3]) [1, 2, 3]) [1, 2])
def J39_111 (Q : AEnd → AH → Prop) (x2 x3 : V) (h : AH) : Prop := vcAt Pg N39 B39 K39 [1, 1, 1] [] (vcRet Pg R39 Q) [(2, x2), (3, x3)] h
def J39_11010000000001 (Q : AEnd → AH → Prop) (x1 x2 x3 : V) (h : AH) : Prop := vcAt Pg N39 B39 K39 [1, 1, 0, 1, 0, 0, 0, 0, 0, 0, 0, 0, 0, 1] [] (vcRet Pg R39 Q) [(1, x1), (2, x2), (3, x3)] h
def J39_110100000001 (Q : AEnd → AH → Prop) (x1 x2 x3 : V) (h : AH) : Prop := vcAt Pg N39 B39 K39 [1, 1, 0, 1, 0, 0, 0, 0, 0, 0, 0, 1] [] (vcRet Pg R39 Q) [(1, x1), (2, x2), (3, x3)] h
def J39_11010001 (Q : AEnd → AH → Prop) (x1 x2 x3 : V) (h : AH) : Prop := vcAt Pg N39 B39 K39 [1, 1, 0, 1, 0, 0, 0, 1] [] (vcRet Pg R39 Q) [(1, x1), (2, x2), (3, x3)] h
def J39_1101000001 (Q : AEnd → AH → Prop) (x1 x2 x3 : V) (h : AH) : Prop := vcAt Pg N39 B39 K39 [1, 1, 0, 1, 0, 0, 0, 0, 0, 1] [] (vcRet Pg R39 Q) [(1, x1), (2, x2), (3, x3)] h
def J39_110101 (Q : AEnd → AH → Prop) (x1 x2 x3 : V) (h : AH) : Prop := vcAt Pg N39 B39 K39 [1, 1, 0, 1, 0, 1] [] (vcRet Pg R39 Q) [(1, x1), (2, x2), (3, x3)] h
def J39_1101000000000001 (Q : AEnd → AH → Prop) (x2 x3 : V) (h : AH) : Prop := vcAt Pg N39 B39 K39 [1, 1, 0, 1, 0, 0, 0, 0, 0, 0, 0, 0, 0, 0, 0, 1] [] (vcRet Pg R39 Q) [(2, x2), (3, x3)] h
def J39_11010000000000001111 (Q : AEnd → AH → Prop) (x1 x2 x3 x8 : V) (h : AH) : Prop := vcAt Pg N39 B39 K39 [1, 1, 0, 1, 0, 0, 0, 0, 0, 0, 0, 0, 0, 0, 0, 0, 1, 1, 1, 1] [] (vcRet Pg R39 Q) [(1, x1), (2, x2), (3, x3), (8, x8)] h
def J39_110100000000000011101 (Q : AEnd → AH → Prop) (x1 x2 x3 x8 x15 : V) (h : AH) : Prop := vcAt Pg N39 B39 K39 [1, 1, 0, 1, 0, 0, 0, 0, 0, 0, 0, 0, 0, 0, 0, 0, 1, 1, 1, 0, 1] [] (vcRet Pg R39 Q) [(1, x1), (2, x2), (3, x3), (8, x8), (15, x15)] h
def J39_1101000000000000111 (Q : AEnd → AH → Prop) (x1 x2 x3 x8 : V) (h : AH) : Prop := vcAt Pg N39 B39 K39 [1, 1, 0, 1, 0, 0, 0, 0, 0, 0, 0, 0, 0, 0, 0, 0, 1, 1, 1] [] (vcRet Pg R39 Q) [(1, x1), (2, x2), (3, x3), (8, x8)] h
def J39_110100000000000011 (Q : AEnd → AH → Prop) (x1 x2 x3 x8 : V) (h : AH) : Prop := vcAt Pg N39 B39 K39 [1, 1, 0, 1, 0, 0, 0, 0, 0, 0, 0, 0, 0, 0, 0, 0, 1, 1] [] (vcRet Pg R39 Q) [(1, x1), (2, x2), (3, x3), (8, x8)] h
def J39_11010000000000001 (Q : AEnd → AH → Prop) (x1 x2 x3 x8 : V) (h : AH) : Prop := vcAt Pg N39 B39 K39 [1, 1, 0, 1, 0, 0, 0, 0, 0, 0, 0, 0, 0, 0, 0, 0, 1] [] (vcRet Pg R39 Q) [(1, x1), (2, x2), (3, x3), (8, x8)] h
theorem J39_111_eq (Q : AEnd → AH → Prop) (x2 x3 : V) (h : AH) : J39_111 Q x2 x3 h = (
  bindV (aLoadV Pg h 51 x3) fun v31 h32 =>
  bindV (aStoreV Pg h32 51 x2 v31) fun _ h34 =>
  bindR (aRes Pg [(2, x2)] h34 R39) fun v => Q (.ret v) h34) := by kernel_rfl
theorem J39_11010000000001_eq (Q : AEnd → AH → Prop) (x1 x2 x3 : V) (h : AH) : J39_11010000000001 Q x1 x2 x3 h = (
  bindO (fstV (still (aFieldAddr Pg 51 x1 1) h)) fun v21 =>
  bindO (fstV (aLoadV Pg h 42 v21)) fun v22 =>
  (
  bindO (fstV (still (aFieldAddr Pg 51 x1 2) h)) fun v23 =>
  bindO (fstV (aLoadV Pg h 44 v23)) fun v24 =>
  (
  bindO (fstV (still (aFieldAddr Pg 51 x3 1) h)) fun v25 =>
  bindV (aStoreV Pg h 42 v25 v22) fun _ h27 => (aLoadV Pg h27 44 v23 = some (v24, h27)) ∧ (
  bindO (fstV (still (aFieldAddr Pg 51 x3 2) h27)) fun v28 =>
  bindV (aStoreV Pg h27 44 v28 v24) fun _ h30 => (
  Meet (J39_111 Q x2 x3 h30)))))) := by kernel_rfl
theorem J39_110100000001_eq (Q : AEnd → AH → Prop) (x1 x2 x3 : V) (h : AH) : J39_110100000001 Q x1 x2 x3 h = (
  bindO (fstV (still (aFieldAddr Pg 51 x1 1) h)) fun v37 =>
  bindO (fstV (still (aFieldAddr Pg 42 v37 1) h)) fun v38 =>
  bindO (fstV (aLoadV Pg h 40 v38)) fun v39 =>
  (
  bindO (fstV (still (aFieldAddr Pg 51 x1 3) h)) fun v40 =>
  bindO (fstV (aLoadV Pg h 45 v40)) fun v41 =>
  (
  bindO (fstV (still (aFieldAddr Pg 51 x1 4) h)) fun v42 =>
  bindO (fstV (aLoadV Pg h 47 v42)) fun v43 =>
  (
  bindO (fstV (still (aFieldAddr Pg 51 x1 5) h)) fun v44 =>
  bindO (fstV (aLoadV Pg h 9 v44)) fun v45 =>
  (
  bindO (fstV (still (aFieldAddr Pg 51 x3 1) h)) fun v46 =>
  bindO (fstV (still (aFieldAddr Pg 42 v46 1) h)) fun v47 =>
  bindV (aStoreV Pg h 40 v47 v39) fun _ h49 => (aLoadV Pg h49 9 v44 = some (v45, h49)) ∧ (aLoadV Pg h49 47 v42 = some (v43, h49)) ∧ (aLoadV Pg h49 45 v40 = some (v41, h49)) ∧ (
  bindO (fstV (still (aFieldAddr Pg 51 x3 3) h49)) fun v50 =>
  bindV (aStoreV Pg h49 45 v50 v41) fun _ h52 => (aLoadV Pg h52 9 v44 = some (v45, h52)) ∧ (aLoadV Pg h52 47 v42 = some (v43, h52)) ∧ (
  bindO (fstV (still (aFieldAddr Pg 51 x3 4) h52)) fun v53 =>
  bindV (aStoreV Pg h52 47 v53 v43) fun _ h55 => (aLoadV Pg h55 9 v44 = some (v45, h55)) ∧ (
  bindO (fstV (still (aFieldAddr Pg 51 x3 5) h55)) fun v56 =>
  bindV (aStoreV Pg h55 9 v56 v45) fun _ h58 => (
  Meet (J39_111 Q x2 x3 h58)))))))))) := by kernel_rfl
theorem J39_11010001_eq (Q : AEnd → AH → Prop) (x1 x2 x3 : V) (h : AH) : J39_11010001 Q x1 x2 x3 h = (
  bindO (fstV (still (aFieldAddr Pg 51 x1 1) h)) fun v75 =>
  bindO (fstV (still (aFieldAddr Pg 42 v75 1) h)) fun v76 =>
  bindO (fstV (aLoadV Pg h 40 v76)) fun v77 =>
  (
  bindO (fstV (still (aBuild Pg 42 [(0, (V.bool true)), (1, v77)]) h)) fun v78 =>
  bindO (fstV (still (aFieldAddr Pg 51 x1 6) h)) fun v79 =>
  bindO (fstV (aLoadV Pg h 5 v79)) fun v80 =>
  (
  bindO (fstV (still (aFieldAddr Pg 51 x3 1) h)) fun v81 =>
  bindV (aStoreV Pg h 42 v81 v78) fun _ h83 => (aLoadV Pg h83 5 v79 = some (v80, h83)) ∧ (
  bindO (fstV (still (aFieldAddr Pg 51 x3 6) h83)) fun v84 =>
  bindV (aStoreV Pg h83 5 v84 v80) fun _ h86 => (
  Meet (J39_111 Q x2 x3 h86)))))) := by kernel_rfl
theorem J39_1101000001_eq (Q : AEnd → AH → Prop) (x1 x2 x3 : V) (h : AH) : J39_1101000001 Q x1 x2 x3 h = (
  bindV (still (aFieldAddr Pg 51 x1 7) h) fun v61 h62 =>
  bindV (aLoadV Pg h62 49 v61) fun v63 h64 =>
  bindV (still (aFieldAddr Pg 51 x3 7) h64) fun v65 h66 =>
  bindV (aStoreV Pg h66 49 v65 v63) fun _ h68 =>
  bindV (still (aFieldAddr Pg 51 x3 7) h68) fun v69 h70 =>
  bindV (still (aFieldAddr Pg 49 v69 0) h70) fun v71 h72 =>
  bindV (aStoreV Pg h72 4 v71 (V.bool true)) fun _ h74 =>
  Meet (J39_11010001 Q x1 x2 x3 h74)) := by kernel_rfl
theorem J39_110101_eq (Q : AEnd → AH → Prop) (x1 x2 x3 : V) (h : AH) : J39_110101 Q x1 x2 x3 h = (
  bindV (still (aFieldAddr Pg 51 x1 3) h) fun v91 h92 =>
  bindV (aLoadV Pg h92 45 v91) fun v93 h94 =>
  bindV (still (aFieldAddr Pg 51 x3 3) h94) fun v95 h96 =>
  bindV (aStoreV Pg h96 45 v95 v93) fun _ h98 =>
  Meet (J39_111 Q x2 x3 h98)) := by kernel_rfl
theorem J39_1101000000000001_eq (Q : AEnd → AH → Prop) (x2 x3 : V) (h : AH) : J39_1101000000000001 Q x2 x3 h = (
  Meet (J39_111 Q x2 x3 h)) := by kernel_rfl
theorem J39_11010000000000001111_eq (Q : AEnd → AH → Prop) (x1 x2 x3 x8 : V) (h : AH) : J39_11010000000000001111 Q x1 x2 x3 x8 h = (
  bindV (still (aBin Pg .eql 5 x8 (V.int .u8 6) true) h) fun v89 h90 =>
  vcIf v89 (
  Meet (J39_110101 Q x1 x2 x3 h90)) (
  Meet (J39_1101000000000001 Q x2 x3 h90))) := by kernel_rfl
theorem J39_110100000000000011101_eq (Q : AEnd → AH → Prop) (x1 x2 x3 x8 x15 : V) (h : AH) : J39_110100000000000011101 Q x1 x2 x3 x8 x15 h = (
  vcIf x15 (
  Meet (J39_11010001 Q x1 x2 x3 h)) (
  Meet (J39_11010000000000001111 Q x1 x2 x3 x8 h))) := by kernel_rfl
theorem J39_1101000000000000111_eq (Q : AEnd → AH → Prop) (x1 x2 x3 x8 : V) (h : AH) : J39_1101000000000000111 Q x1 x2 x3 x8 h = (
  bindV (still (aBin Pg .eql 5 x8 (V.int .u8 4) true) h) fun v87 h88 =>
  vcIf v87 (
  Meet (J39_110100000000000011101 Q x1 x2 x3 x8 v87 h88)) (
  bindV (still (aBin Pg .eql 5 x8 (V.int .u8 5) true) h88) fun v99 h100 =>
  Meet (J39_110100000000000011101 Q x1 x2 x3 x8 v99 h100))) := by kernel_rfl
theorem J39_110100000000000011_eq (Q : AEnd → AH → Prop) (x1 x2 x3 x8 : V) (h : AH) : J39_110100000000000011 Q x1 x2 x3 x8 h = (
  bindV (still (aBin Pg .eql 5 x8 (V.int .u8 3) true) h) fun v59 h60 =>
  vcIf v59 (
  Meet (J39_1101000001 Q x1 x2 x3 h60)) (
  Meet (J39_1101000000000000111 Q x1 x2 x3 x8 h60))) := by kernel_rfl
theorem J39_11010000000000001_eq (Q : AEnd → AH → Prop) (x1 x2 x3 x8 : V) (h : AH) : J39_11010000000000001 Q x1 x2 x3 x8 h = (
  bindV (still (aBin Pg .eql 5 x8 (V.int .u8 2) true) h) fun v35 h36 =>
  vcIf v35 (
  Meet (J39_110100000001 Q x1 x2 x3 h36)) (
  Meet (J39_110100000000000011 Q x1 x2 x3 x8 h36))) := by kernel_rfl
theorem S39 (Q : AEnd → AH → Prop) (a0 : V) (h : AH) : vc Pg N39 B39 K39 (vcRet Pg R39 Q) (initEnv 0 [a0]) h = (
  bindV (aNew Pg h 51 a0) fun v1 h2 =>
  bindV (aAlloc Pg h2 51) fun v3 h4 =>
  bindV (still (aFieldAddr Pg 51 v1 0) h4) fun v5 h6 =>
  bindV (aLoadV Pg h6 5 v5) fun v7 h8 =>
  bindV (still (aBuild Pg 51 [(0, v7)]) h8) fun v9 h10 =>
  bindV (aAlloc Pg h10 51) fun v11 h12 =>
  bindV (aStoreV Pg h12 51 v11 v9) fun _ h14 =>
  bindV (still (aFieldAddr Pg 51 v1 0) h14) fun v15 h16 =>
  bindV (aLoadV Pg h16 5 v15) fun v17 h18 =>
  bindV (still (aBin Pg .eql 5 v17 (V.int .u8 1) true) h18) fun v19 h20 =>
  vcIf v19 (
  Meet (J39_11010000000001 Q v1 v3 v11 h20)) (
  Meet (J39_11010000000000001 Q v1 v3 v11 v17 h20))) := by kernel_rfl
theorem C39 (Q : AEnd → AH → Prop) (a0 : V) (h : AH) (c :
  bindV (aNew Pg h 51 a0) fun v1 h2 =>
  bindV (aAlloc Pg h2 51) fun v3 h4 =>
  bindV (still (aFieldAddr Pg 51 v1 0) h4) fun v5 h6 =>
  bindV (aLoadV Pg h6 5 v5) fun v7 h8 =>
  bindV (still (aBuild Pg 51 [(0, v7)]) h8) fun v9 h10 =>
  bindV (aAlloc Pg h10 51) fun v11 h12 =>
  bindV (aStoreV Pg h12 51 v11 v9) fun _ h14 =>
  bindV (still (aFieldAddr Pg 51 v1 0) h14) fun v15 h16 =>
  bindV (aLoadV Pg h16 5 v15) fun v17 h18 =>
  bindV (still (aBin Pg .eql 5 v17 (V.int .u8 1) true) h18) fun v19 h20 =>
  vcIf v19 (
  Meet (J39_11010000000001 Q v1 v3 v11 h20)) (
  Meet (J39_11010000000000001 Q v1 v3 v11 v17 h20))) : ACalls Pg 39 [a0] h Q :=
  acalls_of_vc okP Try.func39 (show Try.f39.body = some B39 from by kernel_rfl) K39 (by rw [← S39 Q a0 h] at c; exact c)

end Go.Proofs.Ytdhlolcpcgpcnaa.Sh
namespace Go.Proofs.Ytdhlolcpcgpcnaa.Sh
open Go Go.Ab Go.RowKit
-- the record's places
theorem ly51_ : layB Pg (.one 51) [] = some (0, 51) := by kernel_rfl
theorem ly51_0 : layB Pg (.one 51) [0] = some (0, 5) := by kernel_rfl
theorem ly51_1 : layB Pg (.one 51) [1] = some (1, 42) := by kernel_rfl
theorem ly51_10 : layB Pg (.one 51) [1, 0] = some (1, 4) := by kernel_rfl
theorem ly51_11 : layB Pg (.one 51) [1, 1] = some (2, 40) := by kernel_rfl
theorem ly51_2 : layB Pg (.one 51) [2] = some (3, 44) := by kernel_rfl
theorem ly51_3 : layB Pg (.one 51) [3] = some (227, 45) := by kernel_rfl
theorem ly51_4 : layB Pg (.one 51) [4] = some (228, 47) := by kernel_rfl
theorem ly51_40 : layB Pg (.one 51) [4, 0] = some (228, 40) := by kernel_rfl
theorem ly51_41 : layB Pg (.one 51) [4, 1] = some (229, 5) := by kernel_rfl
theorem ly51_5 : layB Pg (.one 51) [5] = some (230, 9) := by kernel_rfl
theorem ly51_6 : layB Pg (.one 51) [6] = some (231, 5) := by kernel_rfl
theorem ly51_7 : layB Pg (.one 51) [7] = some (232, 49) := by kernel_rfl
theorem ly51_70 : layB Pg (.one 51) [7, 0] = some (232, 4) := by kernel_rfl
theorem ly51_71 : layB Pg (.one 51) [7, 1] = some (233, 40) := by kernel_rfl
theorem ly51_72 : layB Pg (.one 51) [7, 2] = some (234, 45) := by kernel_rfl
theorem ly51_73 : layB Pg (.one 51) [7, 3] = some (235, 47) := by kernel_rfl
theorem ly51_730 : layB Pg (.one 51) [7, 3, 0] = some (235, 40) := by kernel_rfl
theorem ly51_731 : layB Pg (.one 51) [7, 3, 1] = some (236, 5) := by kernel_rfl
theorem ly51_74 : layB Pg (.one 51) [7, 4] = some (237, 9) := by kernel_rfl
theorem fa51__0 (n : Nat) : aFieldAddr Pg 51 (.ptr (some ⟨n, .one 51, []⟩)) 0 = some (.ptr (some ⟨n, .one 51, [0]⟩)) := by kernel_rfl
theorem fa51__1 (n : Nat) : aFieldAddr Pg 51 (.ptr (some ⟨n, .one 51, []⟩)) 1 = some (.ptr (some ⟨n, .one 51, [1]⟩)) := by kernel_rfl
theorem fa42_1_0 (n : Nat) : aFieldAddr Pg 42 (.ptr (some ⟨n, .one 51, [1]⟩)) 0 = some (.ptr (some ⟨n, .one 51, [1, 0]⟩)) := by kernel_rfl
theorem fa42_1_1 (n : Nat) : aFieldAddr Pg 42 (.ptr (some ⟨n, .one 51, [1]⟩)) 1 = some (.ptr (some ⟨n, .one 51, [1, 1]⟩)) := by kernel_rfl
theorem fa51__2 (n : Nat) : aFieldAddr Pg 51 (.ptr (some ⟨n, .one 51, []⟩)) 2 = some (.ptr (some ⟨n, .one 51, [2]⟩)) := by kernel_rfl
theorem fa51__3 (n : Nat) : aFieldAddr Pg 51 (.ptr (some ⟨n, .one 51, []⟩)) 3 = some (.ptr (some ⟨n, .one 51, [3]⟩)) := by kernel_rfl
theorem fa51__4 (n : Nat) : aFieldAddr Pg 51 (.ptr (some ⟨n, .one 51, []⟩)) 4 = some (.ptr (some ⟨n, .one 51, [4]⟩)) := by kernel_rfl
theorem fa47_4_0 (n : Nat) : aFieldAddr Pg 47 (.ptr (some ⟨n, .one 51, [4]⟩)) 0 = some (.ptr (some ⟨n, .one 51, [4, 0]⟩)) := by kernel_rfl
theorem fa47_4_1 (n : Nat) : aFieldAddr Pg 47 (.ptr (some ⟨n, .one 51, [4]⟩)) 1 = some (.ptr (some ⟨n, .one 51, [4, 1]⟩)) := by kernel_rfl
theorem fa51__5 (n : Nat) : aFieldAddr Pg 51 (.ptr (some ⟨n, .one 51, []⟩)) 5 = some (.ptr (some ⟨n, .one 51, [5]⟩)) := by kernel_rfl
theorem fa51__6 (n : Nat) : aFieldAddr Pg 51 (.ptr (some ⟨n, .one 51, []⟩)) 6 = some (.ptr (some ⟨n, .one 51, [6]⟩)) := by kernel_rfl
theorem fa51__7 (n : Nat) : aFieldAddr Pg 51 (.ptr (some ⟨n, .one 51, []⟩)) 7 = some (.ptr (some ⟨n, .one 51, [7]⟩)) := by kernel_rfl
theorem fa49_7_0 (n : Nat) : aFieldAddr Pg 49 (.ptr (some ⟨n, .one 51, [7]⟩)) 0 = some (.ptr (some ⟨n, .one 51, [7, 0]⟩)) := by kernel_rfl
theorem fa49_7_1 (n : Nat) : aFieldAddr Pg 49 (.ptr (some ⟨n, .one 51, [7]⟩)) 1 = some (.ptr (some ⟨n, .one 51, [7, 1]⟩)) := by kernel_rfl
theorem fa49_7_2 (n : Nat) : aFieldAddr Pg 49 (.ptr (some ⟨n, .one 51, [7]⟩)) 2 = some (.ptr (some ⟨n, .one 51, [7, 2]⟩)) := by kernel_rfl
theorem fa49_7_3 (n : Nat) : aFieldAddr Pg 49 (.ptr (some ⟨n, .one 51, [7]⟩)) 3 = some (.ptr (some ⟨n, .one 51, [7, 3]⟩)) := by kernel_rfl
theorem fa47_73_0 (n : Nat) : aFieldAddr Pg 47 (.ptr (some ⟨n, .one 51, [7, 3]⟩)) 0 = some (.ptr (some ⟨n, .one 51, [7, 3, 0]⟩)) := by kernel_rfl
theorem fa47_73_1 (n : Nat) : aFieldAddr Pg 47 (.ptr (some ⟨n, .one 51, [7, 3]⟩)) 1 = some (.ptr (some ⟨n, .one 51, [7, 3, 1]⟩)) := by kernel_rfl
theorem fa49_7_4 (n : Nat) : aFieldAddr Pg 49 (.ptr (some ⟨n, .one 51, [7]⟩)) 4 = some (.ptr (some ⟨n, .one 51, [7, 4]⟩)) := by kernel_rfl

structure Rc where
  k : Int
  undo : Bool
  no : Int
  im : List Int
  ts : Int
  pp : Int
  ps : Int
  dl : List UInt8
  sl : Int
  live : Bool
  op : Int
  ots : Int
  onp : Int
  ons : Int
  od : List UInt8
  deriving DecidableEq
def vIm (l : List Int) : V := .agg (l.map (.int .u8))
def vRef (p s : Int) : V := .agg [.int .u16 p, .int .u8 s]
def vPg (u : Bool) (n : Int) : V := .agg [.bool u, .int .u16 n]
def vOld (live : Bool) (p ts np ns : Int) (d : List UInt8) : V := .agg [.bool live, .int .u16 p, .int .u32 ts, vRef np ns, .str d]
def vRec (k : Int) (undo : Bool) (no : Int) (im : List Int) (ts pp ps : Int) (dl : List UInt8) (sl : Int) (o : V) : V :=
  .agg [.int .u8 k, vPg undo no, vIm im, .int .u32 ts, vRef pp ps, .str dl, .int .u8 sl, o]
def Rc.v (r : Rc) : V := vRec r.k r.undo r.no r.im r.ts r.pp r.ps r.dl r.sl (vOld r.live r.op r.ots r.onp r.ons r.od)
def im0 : List Int := List.replicate 224 0
theorem shIm {l : List Int} (h : l.length = 224) : hasShape Pg (vIm l) 44 = true := by
  have e : hasShape Pg (vIm l) 44 = ((l.map (V.int .u8)).length == 224 && shapesAll Pg (l.map (V.int .u8)) 5) := by kernel_rfl
  have all : ∀ l : List Int, shapesAll Pg (l.map (V.int .u8)) 5 = true := by
    intro l
    induction l with
    | nil => rfl
    | cons a l ih =>
      have : shapesAll Pg ((a :: l).map (V.int .u8)) 5 = (hasShape Pg (.int .u8 a) 5 && shapesAll Pg (l.map (V.int .u8)) 5) := rfl
      rw [this, ih]
      have : hasShape Pg (.int .u8 a) 5 = true := by kernel_rfl
      rw [this]; rfl
  rw [e, all]
  simp [h]
theorem shRec {k : Int} {undo : Bool} {no : Int} {im : List Int} {ts pp ps : Int} {dl : List UInt8} {sl : Int} {a : Bool} {b c d e : Int} {f : List UInt8} (h : im.length = 224) : hasShape Pg (vRec k undo no im ts pp ps dl sl (vOld a b c d e f)) 51 = true := by
  have e : hasShape Pg (vRec k undo no im ts pp ps dl sl (vOld a b c d e f)) 51 = (hasShape Pg (vIm im) 44 && true) := by kernel_rfl
  rw [e, shIm h]; rfl
theorem flat_im : ∀ l : List Int, flatBs (l.map (V.int .u8)) = true
  | [] => rfl
  | _ :: l => by simp only [List.map_cons, flatBs, flatB, flat_im l, Bool.and_self]
theorem flat_rec (r : Rc) : flatB r.v = true := by
  simp only [Rc.v, vRec, vPg, vIm, vRef, vOld, flatB, flatBs, flat_im, Bool.and_self]
theorem flat_args (r : Rc) : flatBs [r.v] = true := by simp only [flatBs, flat_rec, Bool.and_self]
def Rc.z (k : Int) : Rc := ⟨k, false, 0, im0, 0, 0, 0, [], 0, false, 0, 0, 0, 0, []⟩
/-- A record with the fields that its kind has. -/
def Rc.bare (r : Rc) : Rc :=
  if r.k = 1 then { Rc.z r.k with undo := r.undo, no := r.no, im := r.im }
  else if r.k = 2 then { Rc.z r.k with no := r.no, ts := r.ts, pp := r.pp, ps := r.ps, dl := r.dl }
  else if r.k = 3 then { Rc.z r.k with undo := true, no := r.no, sl := r.sl, live := true, op := r.op, ots := r.ots, onp := r.onp, ons := r.ons, od := r.od }
  else if r.k = 4 then { Rc.z r.k with undo := true, no := r.no, sl := r.sl }
  else if r.k = 5 then { Rc.z r.k with undo := true, no := r.no, sl := r.sl }
  else if r.k = 6 then { Rc.z r.k with ts := r.ts }
  else Rc.z r.k
theorem Rc.bare_im (r : Rc) (hi : r.im.length = 224) : r.bare.im.length = 224 := by
  have h0 : im0.length = 224 := List.length_replicate ..
  unfold Rc.bare
  repeat' split
  all_goals first | exact hi | exact h0
theorem beq_im : ∀ a b : List Int, a.length = b.length → beqVs (a.map (V.int .u8)) (b.map (V.int .u8)) = some (a == b)
  | [], [], _ => rfl
  | x :: a, y :: b, h => by
    have ih := beq_im a b (by simpa using h)
    simp only [List.map_cons, beqVs, beqV, if_true, ih]
    cases hxy : x == y
    · simp [List.beq_cons_cons, hxy] 
    · simp [List.beq_cons_cons, hxy]
  | [], _ :: _, h => by simp at h
  | _ :: _, [], h => by simp at h
end Go.Proofs.Ytdhlolcpcgpcnaa.Sh
namespace Go.Proofs.Ytdhlolcpcgpcnaa.Sh
open Go Go.Ab Go.RowKit
set_option linter.unusedSimpArgs false
set_option linter.unusedVariables false
set_option maxRecDepth 10000
theorem beqVs_c {v w : V} {vs ws : List V} {b c : Bool} (hb : beqV v w = some b) (hc : beqVs vs ws = some c) : beqVs (v :: vs) (w :: ws) = some (b && c) := by
  simp only [beqVs, hb]
  cases b <;> simp [hc]
theorem beqVs_n : beqVs [] [] = some true := rfl
theorem bq_i {k : IntKind} {a b : Int} : beqV (.int k a) (.int k b) = some (a == b) := by simp [beqV]
theorem bq_b {a b : Bool} : beqV (.bool a) (.bool b) = some (a == b) := rfl
theorem bq_s {a b : List UInt8} : beqV (.str a) (.str b) = some (a == b) := rfl
theorem bq_a {a b : List V} {c : Bool} (h : beqVs a b = some c) : beqV (.agg a) (.agg b) = some c := h
theorem beq_rec (r s : Rc) (h : r.im.length = s.im.length) : beqV r.v s.v = some (decide (r = s)) := by
  have e : beqV r.v s.v = some ((r.k == s.k) && (((r.undo == s.undo) && ((r.no == s.no) && true)) && ((r.im == s.im) && ((r.ts == s.ts) && (((r.pp == s.pp) && ((r.ps == s.ps) && true)) && ((r.dl == s.dl) && ((r.sl == s.sl) &&
      (((r.live == s.live) && ((r.op == s.op) && ((r.ots == s.ots) && (((r.onp == s.onp) && ((r.ons == s.ons) && true)) && ((r.od == s.od) && true))))) && true)))))))) :=
    bq_a (beqVs_c bq_i (beqVs_c (bq_a (beqVs_c bq_b (beqVs_c bq_i beqVs_n))) (beqVs_c (bq_a (beq_im _ _ h)) (beqVs_c bq_i (beqVs_c (bq_a (beqVs_c bq_i (beqVs_c bq_i beqVs_n))) (beqVs_c bq_s (beqVs_c bq_i
      (beqVs_c (bq_a (beqVs_c bq_b (beqVs_c bq_i (beqVs_c bq_i (beqVs_c (bq_a (beqVs_c bq_i (beqVs_c bq_i beqVs_n))) (beqVs_c bq_s beqVs_n)))))) beqVs_n))))))))
  rw [e]
  congr 1
  obtain ⟨r1, r2, r3, r4, r5, r6, r7, r8, r9, ra, rb, rc, rd, re, rf⟩ := r
  obtain ⟨s1, s2, s3, s4, s5, s6, s7, s8, s9, sa, sb, sc, sd, se, sf⟩ := s
  simp only [Rc.mk.injEq]
  rw [Bool.eq_iff_iff]
  simp only [Bool.and_eq_true, beq_iff_eq, decide_eq_true_eq, and_true]
  constructor
  · rintro ⟨h1, ⟨h2, h3⟩, h4, h5, ⟨h6, h7⟩, h8, h9, ha, hb, hc, ⟨hd, he⟩, hf⟩
    exact ⟨h1, h2, h3, h4, h5, h6, h7, h8, h9, ha, hb, hc, hd, he, hf⟩
  · rintro ⟨h1, h2, h3, h4, h5, h6, h7, h8, h9, ha, hb, hc, hd, he, hf⟩
    exact ⟨h1, ⟨h2, h3⟩, h4, h5, ⟨h6, h7⟩, h8, h9, ha, hb, hc, ⟨hd, he⟩, hf⟩
theorem shR (r : Rc) (hi : r.im.length = 224) : hasShape Pg r.v 51 = true := shRec hi
theorem pl51 : plainT Pg 20 51 = true := by kernel_rfl
theorem eq51 (r s : Rc) (hr : r.im.length = 224) (hs : s.im.length = 224) (c : Bool) : aBin Pg .eql 51 r.v s.v c = some (.bool (decide (r = s))) := by
  have h1 : aBin Pg .eql 51 r.v s.v c = if eqOk Pg 51 r.v s.v c = true then (aEq Pg 51 r.v s.v).map .bool else none := rfl
  have h2 : eqOk Pg 51 r.v s.v c = true := by kernel_rfl
  rw [h1, h2, if_pos rfl]
  unfold aEq
  rw [pl51, if_pos rfl, shR r hr, shR s hs, beq_rec r s (by rw [hr, hs])]
  rfl
end Go.Proofs.Ytdhlolcpcgpcnaa.Sh
namespace Go.Proofs.Ytdhlolcpcgpcnaa.Sh
open Go Go.Ab Go.RowKit
set_option maxRecDepth 10000
def rawE (v : Int) (i : Int) : UInt8 := UInt8.ofNat (IntKind.u8.wrap (shrI .u64 v (IntKind.i64.wrap (8 * i)))).toNat
def rawF (v : Int) : UInt8 := UInt8.ofNat (IntKind.u8.wrap (v.tmod 256)).toNat
def nextF (v : Int) : Int := IntKind.u64.wrap (v.tdiv 256)
theorem ew22_2 (q : AEnd → Prop) (v : Int) : vc Pg N22 B22 .leaf (vcRet Pg R22 (fun e _ => q e)) (initEnv 0 [.int .u64 v, .int .i64 2]) AH0 = q (.ret (.str [rawE v 0, rawE v 1])) := by kernel_rfl
theorem ew22_4 (q : AEnd → Prop) (v : Int) : vc Pg N22 B22 .leaf (vcRet Pg R22 (fun e _ => q e)) (initEnv 0 [.int .u64 v, .int .i64 4]) AH0 = q (.ret (.str [rawE v 0, rawE v 1, rawE v 2, rawE v 3])) := by kernel_rfl
theorem ew23_2 (q : AEnd → Prop) (v : Int) : vc Pg N23 B23 .leaf (vcRet Pg R23 (fun e _ => q e)) (initEnv 0 [.int .u64 v, .int .i64 2]) AH0 = q (.ret (.str [rawF v, rawF (nextF v)])) := by kernel_rfl
theorem ew23_4 (q : AEnd → Prop) (v : Int) : vc Pg N23 B23 .leaf (vcRet Pg R23 (fun e _ => q e)) (initEnv 0 [.int .u64 v, .int .i64 4]) AH0 = q (.ret (.str [rawF v, rawF (nextF v), rawF (nextF (nextF v)), rawF (nextF (nextF (nextF v)))])) := by kernel_rfl
theorem ew38 (q : AEnd → Prop) (v : Int) : vc Pg N38 B38 .leaf (vcRet Pg R38 (fun e _ => q e)) (initEnv 0 [.int .i64 v]) AH0 = q (.ret (.str [UInt8.ofNat (IntKind.u8.wrap v).toNat])) := by kernel_rfl
end Go.Proofs.Ytdhlolcpcgpcnaa.Sh
