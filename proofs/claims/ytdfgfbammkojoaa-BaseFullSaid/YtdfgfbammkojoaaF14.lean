import Derived.Test.YtdfgfbammkojoaaF13
import Derived.Test.YtdfgfbammkojoaaF07
import Derived.Test.YtdfgfbammkojoaaF08
set_option linter.unusedVariables false
set_option linter.unusedSimpArgs false
namespace Go.Proofs.Ytdfgfbammkojoaa.Sh
open Go Go.Ab Go.RowKit
open Go.Proofs.Ytdfgfbammkojoaa.Ru (Pg okP)
set_option maxRecDepth 100000
noncomputable def B15:Code:=(Try.f15.body).getD .skip
def R15:List ResultVar:=[.cell 4 56]
abbrev N15:Nat:=38
def K15:KT:=(.seq .leaf (.seq .leaf (.join (.seq .leaf (.one (.loop (.seq .leaf (.join (.two .leaf .leaf) (.join (.one (.seq .leaf (.seq .leaf (.seq (.eff [7]) (.seq .leaf (.one (.loop (.seq .leaf (.join (.two .leaf .leaf) (.join (.one (.seq .leaf .leaf [0,3,4,5,7,8,9,22])) .leaf [0,3,4,5,7,9,22]) [0,3,4,5,7,9,22]) [0,3,4,5,7,9,22,23]) [0,3,4,5,7,9,22])) [0,3,4,5,7,9,22]) [0,3,4,5,7,9]) [0,3,4,5,6,7,9]) [0,3,4,5,6,9])) .leaf [0,3,4,5,9]) [0,3,4,5,9]) [0,3,4,5,9,10]) [0,3,4,5,9])) [0,3,4,5,9]) (.seq .leaf .leaf [4]) [4,5]) [0,3,4,5]) [0,3,4])
def Jz2o (Q:AEnd→AH→Prop) (n n1:Nat) (x0 x3 x4 x5 x7 x9 x22:V) (h:AH):Prop:=vcAt Pg N15 B15 K15 [1,1,0,1,0,0,1,1,0,0,1,1,1,1,0,0,1,1,1] [n,n1] (vcRet Pg R15 Q) [(0,x0),(3,x3),(4,x4),(5,x5),(7,x7),(9,x9),(22,x22)] h
def Jz2n (Q:AEnd→AH→Prop) (n n1:Nat) (x0 x3 x4 x5 x7 x9 x22:V) (h:AH):Prop:=vcAt Pg N15 B15 K15 [1,1,0,1,0,0,1,1,0,0,1,1,1,1,0,0,1,1] [n,n1] (vcRet Pg R15 Q) [(0,x0),(3,x3),(4,x4),(5,x5),(7,x7),(9,x9),(22,x22)] h
def Jz2p (Q:AEnd→AH→Prop) (n:Nat) (x0 x3 x4 x5 x9:V) (h:AH):Prop:=vcAt Pg N15 B15 K15 [1,1,0,1,0,0,1,1,1] [n] (vcRet Pg R15 Q) [(0,x0),(3,x3),(4,x4),(5,x5),(9,x9)] h
def Lz78 (Q:AEnd→AH→Prop) (n:Nat) (n1:Nat) (x0 x3 x4 x5 x7 x9 x22:V) (h:AH):Prop:=loopAt Pg N15 B15 K15 [1,1,0,1,0,0,1,1,0,0,1,1,1,1,0] [n] n1 (vcRet Pg R15 Q) [(0,x0),(3,x3),(4,x4),(5,x5),(7,x7),(9,x9),(22,x22)] h
def Jz2m (Q:AEnd→AH→Prop) (n:Nat) (x0 x3 x4 x5 x9:V) (h:AH):Prop:=vcAt Pg N15 B15 K15 [1,1,0,1,0,0,1,1] [n] (vcRet Pg R15 Q) [(0,x0),(3,x3),(4,x4),(5,x5),(9,x9)] h
def Jz2q (Q:AEnd→AH→Prop) (x4 x5:V) (h:AH):Prop:=vcAt Pg N15 B15 K15 [1,1,1] [] (vcRet Pg R15 Q) [(4,x4),(5,x5)] h
def Lz77 (Q:AEnd→AH→Prop) (n:Nat) (x0 x3 x4 x5 x9:V) (h:AH):Prop:=loopAt Pg N15 B15 K15 [1,1,0,1,0] [] n (vcRet Pg R15 Q) [(0,x0),(3,x3),(4,x4),(5,x5),(9,x9)] h
theorem Jz2o_eq (Q:AEnd→AH→Prop) (n n1:Nat) (x0 x3 x4 x5 x7 x9 x22:V) (h:AH):Jz2o Q n n1 x0 x3 x4 x5 x7 x9 x22 h=(
 bindV (still (aBin Pg .add 3 x22 (V.int .i64 1) true) h) fun v33 h34 =>
 Meet (Lz78 Q n n1 x0 x3 x4 x5 x7 x9 v33 h34)):=by kernel_rfl
theorem Jz2n_eq (Q:AEnd→AH→Prop) (n n1:Nat) (x0 x3 x4 x5 x7 x9 x22:V) (h:AH):Jz2n Q n n1 x0 x3 x4 x5 x7 x9 x22 h=(
 bindV (still (aBin Pg .add 3 x7 (V.int .i64 56) true) h) fun v19 h20 =>
 bindV (still (aBin Pg .add 3 v19 x22 false) h20) fun v21 h22 =>
 bindV (still (aBin Pg .mul 3 (V.int .i64 8) x22 true) h22) fun v23 h24 =>
 bindV (still (aBin Pg .shr 42 x0 v23 false) h24) fun v25 h26 =>
 bindV (still (aConv Pg h26 42 5 v25) h26) fun v27 h28 =>
 bindV (still (aIndexAddr Pg 56 x5 v21) h28) fun v29 h30 =>
 bindV (aStoreV Pg h30 5 v29 v27) fun _ h32 =>
 Meet (Jz2o Q n n1 x0 x3 x4 x5 x7 x9 x22 h32)):=by kernel_rfl
theorem Jz2p_eq (Q:AEnd→AH→Prop) (n:Nat) (x0 x3 x4 x5 x9:V) (h:AH):Jz2p Q n x0 x3 x4 x5 x9 h=(
 bindV (still (aBin Pg .add 3 x9 (V.int .i64 1) true) h) fun v35 h36 =>
 Meet (Lz77 Q n x0 x3 x4 x5 v35 h36)):=by kernel_rfl
theorem Lz78_eq (Q:AEnd→AH→Prop) (n:Nat) (n1:Nat) (x0 x3 x4 x5 x7 x9 x22:V) (h:AH):Lz78 Q n (n1 + 1) x0 x3 x4 x5 x7 x9 x22 h=(
 bindV (still (aBin Pg .lss 3 x22 (V.int .i64 8) true) h) fun v17 h18 =>
 vcIf v17 (
 Meet (Jz2n Q n n1 x0 x3 x4 x5 x7 x9 x22 h18)) (
 Meet (Jz2p Q n x0 x3 x4 x5 x9 h18))):=by kernel_rfl
theorem Jz2m_eq (Q:AEnd→AH→Prop) (n:Nat) (x0 x3 x4 x5 x9:V) (h:AH):Jz2m Q n x0 x3 x4 x5 x9 h=(
 bindV (still (aBin Pg .mul 3 x9 (V.int .i64 64) true) h) fun v9 h10 =>
 bindO (fstV (still (aBin Pg .add 3 v9 (V.int .i64 56) true) h10)) fun v11 =>
 bindO (fstV (still (aSlice Pg h10 56 x5 (some v9) (some v11)) h10)) fun v12 =>
 (
 bindO (fstV (still (aBin Pg .mul 3 x9 (V.int .i64 56) true) h10)) fun v13 =>
 bindO (fstV (still (aSlice Pg h10 31 x3 (some v13) none) h10)) fun v14 =>
 (
 bindV (aBuiltin Pg h10 .copy [114,114] [v12,v14]) fun v15 h16=>(
 ∃ n1,Meet (Lz78 Q n n1 x0 x3 x4 x5 v9 x9 (V.int .i64 0) h16))))):=by kernel_rfl
theorem Jz2q_eq (Q:AEnd→AH→Prop) (x4 x5:V) (h:AH):Jz2q Q x4 x5 h=(
 bindV (aLoadV Pg h 56 x5) fun v37 h38 =>
 bindV (aStoreV Pg h38 56 x4 v37) fun _ h40 =>
 bindR (aRes Pg [(4,x4)] h40 R15) fun v=>Q (.ret v) h40):=by kernel_rfl
theorem Lz77_eq (Q:AEnd→AH→Prop) (n:Nat) (x0 x3 x4 x5 x9:V) (h:AH):Lz77 Q (n + 1) x0 x3 x4 x5 x9 h=(
 bindV (still (aBin Pg .lss 3 x9 (V.int .i64 4) true) h) fun v7 h8 =>
 vcIf v7 (
 Meet (Jz2m Q n x0 x3 x4 x5 x9 h8)) (
 Meet (Jz2q Q x4 x5 h8))):=by kernel_rfl
theorem S15 (Q:AEnd→AH→Prop) (a0 a1:V) (h:AH):vc Pg N15 B15 K15 (vcRet Pg R15 Q) (initEnv 0 [a0,a1]) h=(
 bindV (aNew Pg h 31 a1) fun v1 h2 =>
 bindV (aAlloc Pg h2 56) fun v3 h4 =>
 bindV (aAlloc Pg h4 56) fun v5 h6 =>
 ∃ n,Meet (Lz77 Q n a0 v1 v3 v5 (V.int .i64 0) h6)):=by kernel_rfl
theorem C15 (Q:AEnd→AH→Prop) (a0 a1:V) (h:AH) (c :
 bindV (aNew Pg h 31 a1) fun v1 h2 =>
 bindV (aAlloc Pg h2 56) fun v3 h4 =>
 bindV (aAlloc Pg h4 56) fun v5 h6 =>
 ∃ n,Meet (Lz77 Q n a0 v1 v3 v5 (V.int .i64 0) h6)):ACalls Pg 15 [a0,a1] h Q :=
 acalls_of_vc okP Try.func15 (show Try.f15.body=some B15 from by kernel_rfl) K15 (by rw [← S15 Q a0 a1 h] at c;exact c)
noncomputable def B38:Code:=(Try.f38.body).getD .skip
def R38:List ResultVar:=[.tmp 2,.cell 3 31,.tmp 4]
abbrev N38:Nat:=49
def K38:KT:=(.seq .leaf (.seq .leaf (.seq .leaf (.join (.seq .leaf (.one (.loop (.seq .leaf (.join (.two .leaf .leaf) (.join (.one (.seq .leaf (.seq .leaf (.seq .leaf (.join (.seq .leaf (.one (.loop (.join (.seq .leaf (.two .leaf .leaf) [1,3,5,6,7,8,9,10,11,17]) (.join (.one .leaf) .leaf [1,3,5,6,7,8,9,10,11]) [1,3,5,6,7,8,9,10,11]) [1,3,5,6,7,8,9,10,11])) [1,3,5,6,7,8,9,10,11]) (.join (.seq .leaf (.two .leaf .leaf) [1,3,5,6,7,8,9,11,31]) (.join (.seq .leaf (.two (.seq .leaf .leaf [2,3,4]) .leaf) [1,3,5,6,7,8,11,35]) (.eff [8]) [1,3,5,6,7,8,11]) [1,3,5,6,7,8,9,11]) [1,3,5,6,7,8,9,11]) [1,3,5,6,7,8,9,11]) [1,3,5,6,7,8,11]) [1,3,5,6,7,11])) .leaf [1,3,5,6,11]) [1,3,5,6,11]) [1,3,5,6,11,12]) [1,3,5,6,11])) [1,3,5,6,11]) (.seq (.eff [3]) .leaf [2,3,4]) [3,5,6]) [1,3,5,6]) [1,3,5]) [1,3])
def Jz42 (Q:AEnd→AH→Prop) (n n1:Nat) (x1 x3 x5 x6 x7 x8 x9 x10 x11:V) (h:AH):Prop:=vcAt Pg N38 B38 K38 [1,1,1,0,1,0,0,1,1,0,0,1,1,1,0,1,0,0,1,1] [n,n1] (vcRet Pg R38 Q) [(1,x1),(3,x3),(5,x5),(6,x6),(7,x7),(8,x8),(9,x9),(10,x10),(11,x11)] h
def Jz41 (Q:AEnd→AH→Prop) (n n1:Nat) (x1 x3 x5 x6 x7 x8 x9 x10 x11:V) (h:AH):Prop:=vcAt Pg N38 B38 K38 [1,1,1,0,1,0,0,1,1,0,0,1,1,1,0,1,0,0,1] [n,n1] (vcRet Pg R38 Q) [(1,x1),(3,x3),(5,x5),(6,x6),(7,x7),(8,x8),(9,x9),(10,x10),(11,x11)] h
def Jz46 (Q:AEnd→AH→Prop) (n:Nat) (x1 x3 x5 x6 x11:V) (h:AH):Prop:=vcAt Pg N38 B38 K38 [1,1,1,0,1,0,0,1,1,1] [n] (vcRet Pg R38 Q) [(1,x1),(3,x3),(5,x5),(6,x6),(11,x11)] h
def Jz45 (Q:AEnd→AH→Prop) (n:Nat) (x1 x3 x5 x6 x7 x8 x11:V) (h:AH):Prop:=vcAt Pg N38 B38 K38 [1,1,1,0,1,0,0,1,1,0,0,1,1,1,1,1,1] [n] (vcRet Pg R38 Q) [(1,x1),(3,x3),(5,x5),(6,x6),(7,x7),(8,x8),(11,x11)] h
def Jz44 (Q:AEnd→AH→Prop) (n:Nat) (x1 x3 x5 x6 x7 x8 x9 x11:V) (h:AH):Prop:=vcAt Pg N38 B38 K38 [1,1,1,0,1,0,0,1,1,0,0,1,1,1,1,1] [n] (vcRet Pg R38 Q) [(1,x1),(3,x3),(5,x5),(6,x6),(7,x7),(8,x8),(9,x9),(11,x11)] h
def Jz43 (Q:AEnd→AH→Prop) (n:Nat) (x1 x3 x5 x6 x7 x8 x9 x11:V) (h:AH):Prop:=vcAt Pg N38 B38 K38 [1,1,1,0,1,0,0,1,1,0,0,1,1,1,1] [n] (vcRet Pg R38 Q) [(1,x1),(3,x3),(5,x5),(6,x6),(7,x7),(8,x8),(9,x9),(11,x11)] h
def Lz7d (Q:AEnd→AH→Prop) (n:Nat) (n1:Nat) (x1 x3 x5 x6 x7 x8 x9 x10 x11:V) (h:AH):Prop:=loopAt Pg N38 B38 K38 [1,1,1,0,1,0,0,1,1,0,0,1,1,1,0,1,0] [n] n1 (vcRet Pg R38 Q) [(1,x1),(3,x3),(5,x5),(6,x6),(7,x7),(8,x8),(9,x9),(10,x10),(11,x11)] h
def Jz40 (Q:AEnd→AH→Prop) (n:Nat) (x1 x3 x5 x6 x11:V) (h:AH):Prop:=vcAt Pg N38 B38 K38 [1,1,1,0,1,0,0,1,1] [n] (vcRet Pg R38 Q) [(1,x1),(3,x3),(5,x5),(6,x6),(11,x11)] h
def Jz47 (Q:AEnd→AH→Prop) (x3 x5 x6:V) (h:AH):Prop:=vcAt Pg N38 B38 K38 [1,1,1,1] [] (vcRet Pg R38 Q) [(3,x3),(5,x5),(6,x6)] h
def Lz7c (Q:AEnd→AH→Prop) (n:Nat) (x1 x3 x5 x6 x11:V) (h:AH):Prop:=loopAt Pg N38 B38 K38 [1,1,1,0,1,0] [] n (vcRet Pg R38 Q) [(1,x1),(3,x3),(5,x5),(6,x6),(11,x11)] h
theorem Jz42_eq (Q:AEnd→AH→Prop) (n n1:Nat) (x1 x3 x5 x6 x7 x8 x9 x10 x11:V) (h:AH):Jz42 Q n n1 x1 x3 x5 x6 x7 x8 x9 x10 x11 h=(
 bindV (still (aBin Pg .sub 3 x10 (V.int .i64 1) true) h) fun v27 h28 =>
 Meet (Lz7d Q n n1 x1 x3 x5 x6 x7 x8 x9 v27 x11 h28)):=by kernel_rfl
theorem Jz41_eq (Q:AEnd→AH→Prop) (n n1:Nat) (x1 x3 x5 x6 x7 x8 x9 x10 x11:V) (h:AH):Jz41 Q n n1 x1 x3 x5 x6 x7 x8 x9 x10 x11 h=(
 bindV (still (aBin Pg .shl 42 x9 (V.int .u64 8) true) h) fun v13 h14 =>
 bindV (still (aBin Pg .add 3 x8 (V.int .i64 56) true) h14) fun v15 h16 =>
 bindV (still (aBin Pg .add 3 v15 x10 false) h16) fun v17 h18 =>
 bindV (still (aIndexAddr Pg 56 x1 v17) h18) fun v19 h20 =>
 bindV (aLoadV Pg h20 5 v19) fun v21 h22 =>
 bindV (still (aConv Pg h22 5 42 v21) h22) fun v23 h24 =>
 bindV (still (aBin Pg .or 42 v13 v23 false) h24) fun v25 h26 =>
 Meet (Jz42 Q n n1 x1 x3 x5 x6 x7 x8 v25 x10 x11 h26)):=by kernel_rfl
theorem Jz46_eq (Q:AEnd→AH→Prop) (n:Nat) (x1 x3 x5 x6 x11:V) (h:AH):Jz46 Q n x1 x3 x5 x6 x11 h=(
 bindV (still (aBin Pg .add 3 x11 (V.int .i64 1) true) h) fun v44 h45 =>
 Meet (Lz7c Q n x1 x3 x5 x6 v44 h45)):=by kernel_rfl
theorem Jz45_eq (Q:AEnd→AH→Prop) (n:Nat) (x1 x3 x5 x6 x7 x8 x11:V) (h:AH):Jz45 Q n x1 x3 x5 x6 x7 x8 x11 h=(
 bindO (fstV (still (aBin Pg .mul 3 x7 (V.int .i64 56) true) h)) fun v37 =>
 bindO (fstV (still (aBin Pg .add 3 x7 (V.int .i64 1) true) h)) fun v38 =>
 bindO (fstV (still (aBin Pg .mul 3 v38 (V.int .i64 56) true) h)) fun v39 =>
 bindO (fstV (still (aSlice Pg h 31 x5 (some v37) (some v39)) h)) fun v40 =>
 (
 bindO (fstV (still (aSlice Pg h 56 x1 (some x8) none) h)) fun v41 =>
 (
 bindV (aBuiltin Pg h .copy [114,114] [v40,v41]) fun v42 h43=>(
 Meet (Jz46 Q n x1 x3 x5 x6 x11 h43))))):=by kernel_rfl
theorem Jz44_eq (Q:AEnd→AH→Prop) (n:Nat) (x1 x3 x5 x6 x7 x8 x9 x11:V) (h:AH):Jz44 Q n x1 x3 x5 x6 x7 x8 x9 x11 h=(
 bindV (still (aBin Pg .neq 42 x9 x6 false) h) fun v31 h32 =>
 vcIf v31 (
 bindV (still (aBuild Pg 31 []) h32) fun v33 h34 =>
 bindV (aStoreV Pg h34 31 x3 v33) fun _ h36 =>
 bindR (aRes Pg [(2,(V.int .u64 0)),(3,x3),(4,(V.bool false))] h36 R38) fun v=>Q (.ret v) h36) (
 Meet (Jz45 Q n x1 x3 x5 x6 x7 x8 x11 h32))):=by kernel_rfl
theorem Jz43_eq (Q:AEnd→AH→Prop) (n:Nat) (x1 x3 x5 x6 x7 x8 x9 x11:V) (h:AH):Jz43 Q n x1 x3 x5 x6 x7 x8 x9 x11 h=(
 bindV (still (aBin Pg .eql 3 x7 (V.int .i64 0) true) h) fun v29 h30 =>
 vcIf v29 (
 Meet (Jz44 Q n x1 x3 x5 x9 x7 x8 x9 x11 h30)) (
 Meet (Jz44 Q n x1 x3 x5 x6 x7 x8 x9 x11 h30))):=by kernel_rfl
theorem Lz7d_eq (Q:AEnd→AH→Prop) (n:Nat) (n1:Nat) (x1 x3 x5 x6 x7 x8 x9 x10 x11:V) (h:AH):Lz7d Q n (n1 + 1) x1 x3 x5 x6 x7 x8 x9 x10 x11 h=(
 bindV (still (aBin Pg .geq 3 x10 (V.int .i64 0) true) h) fun v11 h12 =>
 vcIf v11 (
 Meet (Jz41 Q n n1 x1 x3 x5 x6 x7 x8 x9 x10 x11 h12)) (
 Meet (Jz43 Q n x1 x3 x5 x6 x7 x8 x9 x11 h12))):=by kernel_rfl
theorem Jz40_eq (Q:AEnd→AH→Prop) (n:Nat) (x1 x3 x5 x6 x11:V) (h:AH):Jz40 Q n x1 x3 x5 x6 x11 h=(
 bindV (still (aBin Pg .mul 3 x11 (V.int .i64 64) true) h) fun v9 h10 =>
 ∃ n1,Meet (Lz7d Q n n1 x1 x3 x5 x6 x11 v9 (V.int .u64 0) (V.int .i64 7) x11 h10)):=by kernel_rfl
theorem Jz47_eq (Q:AEnd→AH→Prop) (x3 x5 x6:V) (h:AH):Jz47 Q x3 x5 x6 h=(
 bindO (fstV (aLoadV Pg h 31 x5)) fun v46 =>
 (
 bindV (aStoreV Pg h 31 x3 v46) fun _ h48=>(
 bindR (aRes Pg [(2,x6),(3,x3),(4,(V.bool true))] h48 R38) fun v=>Q (.ret v) h48))):=by kernel_rfl
theorem Lz7c_eq (Q:AEnd→AH→Prop) (n:Nat) (x1 x3 x5 x6 x11:V) (h:AH):Lz7c Q (n + 1) x1 x3 x5 x6 x11 h=(
 bindV (still (aBin Pg .lss 3 x11 (V.int .i64 4) true) h) fun v7 h8 =>
 vcIf v7 (
 Meet (Jz40 Q n x1 x3 x5 x6 x11 h8)) (
 Meet (Jz47 Q x3 x5 x6 h8))):=by kernel_rfl
theorem S38 (Q:AEnd→AH→Prop) (a0:V) (h:AH):vc Pg N38 B38 K38 (vcRet Pg R38 Q) (initEnv 0 [a0]) h=(
 bindV (aNew Pg h 56 a0) fun v1 h2 =>
 bindV (aAlloc Pg h2 31) fun v3 h4 =>
 bindV (aAlloc Pg h4 31) fun v5 h6 =>
 ∃ n,Meet (Lz7c Q n v1 v3 v5 (V.int .u64 0) (V.int .i64 0) h6)):=by kernel_rfl
theorem C38 (Q:AEnd→AH→Prop) (a0:V) (h:AH) (c :
 bindV (aNew Pg h 56 a0) fun v1 h2 =>
 bindV (aAlloc Pg h2 31) fun v3 h4 =>
 bindV (aAlloc Pg h4 31) fun v5 h6 =>
 ∃ n,Meet (Lz7c Q n v1 v3 v5 (V.int .u64 0) (V.int .i64 0) h6)):ACalls Pg 38 [a0] h Q :=
 acalls_of_vc okP Try.func38 (show Try.f38.body=some B38 from by kernel_rfl) K38 (by rw [← S38 Q a0 h] at c;exact c)
noncomputable def B43:Code:=(Try.f43.body).getD .skip
def R43:List ResultVar:=[.cell 4 122]
abbrev N43:Nat:=18
def K43:KT:=(.seq .leaf (.seq .leaf (.join (.join (.reg [[1,2,4,5,8,10]]) (.two (.eff [4]) .leaf) [1,2,4,5,11]) (.seq .leaf .leaf [4]) [4,5]) [1,2,4,5]) [1,2,4])
def Jz4w (Q:AEnd→AH→Prop) (x4 x5:V) (h:AH):Prop:=vcAt Pg N43 B43 K43 [1,1,1] [] (vcRet Pg R43 Q) [(4,x4),(5,x5)] h
def Jz4v (Q:AEnd→AH→Prop) (x1 x2 x4 x5 x11:V) (h:AH):Prop:=vcAt Pg N43 B43 K43 [1,1,0,1] [] (vcRet Pg R43 Q) [(1,x1),(2,x2),(4,x4),(5,x5),(11,x11)] h
def Gzx (Q:AEnd→AH→Prop) (x1 x2 x4 x5 x8 x10:V) (h:AH):Prop:=segAt Pg N43 B43 K43 [1,1,0,0] 2 1 [] (vcRet Pg R43 Q) [(1,x1),(2,x2),(4,x4),(5,x5),(8,x8),(10,x10)] h
theorem Jz4w_eq (Q:AEnd→AH→Prop) (x4 x5:V) (h:AH):Jz4w Q x4 x5 h=(
 bindV (aLoadV Pg h 122 x5) fun v16 h17 =>
 bindV (aStoreV Pg h17 122 x4 v16) fun _ h19 =>
 bindR (aRes Pg [(4,x4)] h19 R43) fun v=>Q (.ret v) h19):=by kernel_rfl
theorem Jz4v_eq (Q:AEnd→AH→Prop) (x1 x2 x4 x5 x11:V) (h:AH):Jz4v Q x1 x2 x4 x5 x11 h=(
 vcIf x11 (
 bindO (fstV (still (aSlice Pg h 122 x5 none none) h)) fun v11 =>
 (
 bindO (fstV (still (aBin Pg .mul 3 x1 (V.int .i64 64) true) h)) fun v12 =>
 bindO (fstV (still (aSlice Pg h 56 x2 (some v12) none) h)) fun v13 =>
 (
 bindV (aBuiltin Pg h .copy [114,114] [v11,v13]) fun v14 h15=>(
 Meet (Jz4w Q x4 x5 h15))))) (
 Meet (Jz4w Q x4 x5 h))):=by kernel_rfl
theorem Gzx_eq (Q:AEnd→AH→Prop) (x1 x2 x4 x5 x8 x10:V) (h:AH):Gzx Q x1 x2 x4 x5 x8 x10 h=(
 bindV (aPick x8 x10 (V.bool false) h) fun v9 h10 =>
 Meet (Jz4v Q x1 x2 x4 x5 v9 h10)):=by kernel_rfl
theorem S43 (Q:AEnd→AH→Prop) (a0 a1:V) (h:AH):vc Pg N43 B43 K43 (vcRet Pg R43 Q) (initEnv 0 [a0,a1]) h=(
 bindV (aNew Pg h 56 a0) fun v1 h2 =>
 bindV (aAlloc Pg h2 122) fun v3 h4 =>
 bindV (aAlloc Pg h4 122) fun v5 h6 =>
 bindV (still (aBin Pg .geq 3 a1 (V.int .i64 0) true) h6) fun v7 h8 =>
 vcG v7 true (
 bindV (still (aBin Pg .lss 3 a1 (V.int .i64 4) true) h8) fun v20 h21 =>
 Meet (Gzx Q a1 v1 v3 v5 v7 v20 h21)) (Meet (Gzx Q a1 v1 v3 v5 v7 hole h8))):=by kernel_rfl
theorem C43 (Q:AEnd→AH→Prop) (a0 a1:V) (h:AH) (c :
 bindV (aNew Pg h 56 a0) fun v1 h2 =>
 bindV (aAlloc Pg h2 122) fun v3 h4 =>
 bindV (aAlloc Pg h4 122) fun v5 h6 =>
 bindV (still (aBin Pg .geq 3 a1 (V.int .i64 0) true) h6) fun v7 h8 =>
 vcG v7 true (
 bindV (still (aBin Pg .lss 3 a1 (V.int .i64 4) true) h8) fun v20 h21 =>
 Meet (Gzx Q a1 v1 v3 v5 v7 v20 h21)) (Meet (Gzx Q a1 v1 v3 v5 v7 hole h8))):ACalls Pg 43 [a0,a1] h Q :=
 acalls_of_vc okP Try.func43 (show Try.f43.body=some B43 from by kernel_rfl) K43 (by rw [← S43 Q a0 a1 h] at c;exact c)
noncomputable def B82:Code:=(Try.f82.body).getD .skip
def R82:List ResultVar:=[.cell 6 56]
abbrev N82:Nat:=19
def K82:KT:=(.seq .leaf (.join (.join (.reg [[1,3,5,6,9,11]]) (.two (.eff [4]) .leaf) [1,3,5,6,12]) (.seq .leaf .leaf [6]) [3,6]) [1,3,5,6])
def Jz6v (Q:AEnd→AH→Prop) (x3 x6:V) (h:AH):Prop:=vcAt Pg N82 B82 K82 [1,1] [] (vcRet Pg R82 Q) [(3,x3),(6,x6)] h
def Jz6u (Q:AEnd→AH→Prop) (x1 x3 x5 x6 x12:V) (h:AH):Prop:=vcAt Pg N82 B82 K82 [1,0,1] [] (vcRet Pg R82 Q) [(1,x1),(3,x3),(5,x5),(6,x6),(12,x12)] h
def Gz21 (Q:AEnd→AH→Prop) (x1 x3 x5 x6 x9 x11:V) (h:AH):Prop:=segAt Pg N82 B82 K82 [1,0,0] 2 1 [] (vcRet Pg R82 Q) [(1,x1),(3,x3),(5,x5),(6,x6),(9,x9),(11,x11)] h
theorem Jz6v_eq (Q:AEnd→AH→Prop) (x3 x6:V) (h:AH):Jz6v Q x3 x6 h=(
 bindV (aLoadV Pg h 56 x3) fun v16 h17 =>
 bindV (aStoreV Pg h17 56 x6 v16) fun _ h19 =>
 bindR (aRes Pg [(6,x6)] h19 R82) fun v=>Q (.ret v) h19):=by kernel_rfl
theorem Jz6u_eq (Q:AEnd→AH→Prop) (x1 x3 x5 x6 x12:V) (h:AH):Jz6u Q x1 x3 x5 x6 x12 h=(
 vcIf x12 (
 bindO (fstV (still (aBin Pg .mul 3 x1 (V.int .i64 64) true) h)) fun v11 =>
 bindO (fstV (still (aSlice Pg h 56 x3 (some v11) none) h)) fun v12 =>
 (
 bindO (fstV (still (aSlice Pg h 122 x5 none none) h)) fun v13 =>
 (
 bindV (aBuiltin Pg h .copy [114,114] [v12,v13]) fun v14 h15=>(
 Meet (Jz6v Q x3 x6 h15))))) (
 Meet (Jz6v Q x3 x6 h))):=by kernel_rfl
theorem Gz21_eq (Q:AEnd→AH→Prop) (x1 x3 x5 x6 x9 x11:V) (h:AH):Gz21 Q x1 x3 x5 x6 x9 x11 h=(
 bindV (aPick x9 x11 (V.bool false) h) fun v9 h10 =>
 Meet (Jz6u Q x1 x3 x5 x6 v9 h10)):=by kernel_rfl
theorem S82 (Q:AEnd→AH→Prop) (a0 a1 a2:V) (h:AH):vc Pg N82 B82 K82 (vcRet Pg R82 Q) (initEnv 0 [a0,a1,a2]) h=(
 bindV (aNew Pg h 56 a0) fun v1 h2 =>
 bindV (aNew Pg h2 122 a2) fun v3 h4 =>
 bindV (aAlloc Pg h4 56) fun v5 h6 =>
 bindV (still (aBin Pg .geq 3 a1 (V.int .i64 0) true) h6) fun v7 h8 =>
 vcG v7 true (
 bindV (still (aBin Pg .lss 3 a1 (V.int .i64 4) true) h8) fun v20 h21 =>
 Meet (Gz21 Q a1 v1 v3 v5 v7 v20 h21)) (Meet (Gz21 Q a1 v1 v3 v5 v7 hole h8))):=by kernel_rfl
theorem C82 (Q:AEnd→AH→Prop) (a0 a1 a2:V) (h:AH) (c :
 bindV (aNew Pg h 56 a0) fun v1 h2 =>
 bindV (aNew Pg h2 122 a2) fun v3 h4 =>
 bindV (aAlloc Pg h4 56) fun v5 h6 =>
 bindV (still (aBin Pg .geq 3 a1 (V.int .i64 0) true) h6) fun v7 h8 =>
 vcG v7 true (
 bindV (still (aBin Pg .lss 3 a1 (V.int .i64 4) true) h8) fun v20 h21 =>
 Meet (Gz21 Q a1 v1 v3 v5 v7 v20 h21)) (Meet (Gz21 Q a1 v1 v3 v5 v7 hole h8))):ACalls Pg 82 [a0,a1,a2] h Q :=
 acalls_of_vc okP Try.func82 (show Try.f82.body=some B82 from by kernel_rfl) K82 (by rw [← S82 Q a0 a1 a2 h] at c;exact c)
end Go.Proofs.Ytdfgfbammkojoaa.Sh
namespace Go.Proofs.Ytdfgfbammkojoaa.Sh
open Go Go.Ab Go.RowKit
open Go.Proofs.Ytdfgfbammkojoaa.Ru (Pg okP)
set_option maxRecDepth 10000
set_option linter.unusedSectionVars false
def zer (n:Nat):List UInt8:=List.replicate n 0
theorem zer_len (n:Nat):(zer n).length=n:=by simp [zer]
theorem shB {l:List UInt8}:∀ {n:Nat},l.length=n→shapesAll Pg (bytesV l) 5=true:=by
 induction l with
 | nil=>intro n h;rfl
 | cons b l ih =>
   intro n h
   have e:bytesV (b :: l)=.int .u8 b.toNat :: bytesV l:=rfl
   rw [e]
   simp only [shapesAll,Bool.and_eq_true]
   exact ⟨by kernel_rfl,ih rfl⟩
theorem shBlk {l:List UInt8} (h:l.length=256):hasShape Pg (.agg (bytesV l)) 56=true:=by
 have:hasShape Pg (.agg (bytesV l)) 56=(decide ((bytesV l).length=256) && shapesAll Pg (bytesV l) 5):=by kernel_rfl
 rw [this,shB rfl,bytesV_len,decide_eq_true h];rfl
theorem shSec {l:List UInt8} (h:l.length=64):hasShape Pg (.agg (bytesV l)) 122=true:=by
 have:hasShape Pg (.agg (bytesV l)) 122=(decide ((bytesV l).length=64) && shapesAll Pg (bytesV l) 5):=by kernel_rfl
 rw [this,shB rfl,bytesV_len,decide_eq_true h];rfl
theorem shPay {l:List UInt8} (h:l.length=224):hasShape Pg (.agg (bytesV l)) 31=true:=by
 have:hasShape Pg (.agg (bytesV l)) 31=(decide ((bytesV l).length=224) && shapesAll Pg (bytesV l) 5):=by kernel_rfl
 rw [this,shB rfl,bytesV_len,decide_eq_true h];rfl
theorem zBlk:zeroV Pg 56=some (.agg (bytesV (zer 256))):=by kernel_rfl
theorem zSec:zeroV Pg 122=some (.agg (bytesV (zer 64))):=by kernel_rfl
theorem zPay:zeroV Pg 31=some (.agg (bytesV (zer 224))):=by kernel_rfl
def copyB (l:List UInt8) (s n:Nat) (ws:List UInt8):List UInt8:=l.take s++ws.take (min ws.length n)++l.drop (s + min ws.length n)
theorem copyB_len {l ws:List UInt8} {s n:Nat} (h:s + n≤l.length):(copyB l s n ws).length=l.length:=by
 unfold copyB
 simp;omega
section
variable {h:AH} {m t0:Nat} {l ws:List UInt8} {own:Bool}
theorem cpB_at {x:V} {s n:Nat} (hm:h.m m=some (.cells true (.one t0) (.agg (bytesV l)))) (hc:raOk Pg (.one t0) [] 5=true) (hx:aElems Pg h 5 x=some (bytesV ws)) (hn:s + n≤l.length) :
   ∃ h',aBuiltin Pg h .copy [114,114] [.slc (some (⟨m,.one t0,[]⟩,s)) n,x]=some (.int .i64 ((min ws.length n:Nat):Int),h')∧Upd h h' m (.cells true (.one t0) (.agg (bytesV (copyB l s n ws)))):=by
 have e:(bytesV l).take s++(bytesV ws).take (min (bytesV ws).length n)++(bytesV l).drop (s + min (bytesV ws).length n)=bytesV (copyB l s n ws):=by
   simp [copyB,bytesV]
 obtain ⟨h',e1,u⟩:=copy_at (P:=Pg) (t:=114) (xt:=114) (e:=5) (by kernel_rfl) (by kernel_rfl) hc hm (p:=[]) (l:=bytesV l) rfl hx (by rw [bytesV_len];exact hn) (v':=.agg (bytesV (copyB l s n ws))) (by rw [e];rfl)
 rw [bytesV_len] at e1
 exact ⟨h',e1,u⟩
theorem elB {a k:Nat} (hm:h.m m=some (.cells own (.one t0) (.agg (bytesV l)))) (hc:raOk Pg (.one t0) [] 5=true) (hk:a + k≤l.length):aElems Pg h 5 (.slc (some (⟨m,.one t0,[]⟩,a)) k)=some (bytesV ((l.drop a).take k)):=by
 have:=elems_arr (P:=Pg) (e:=5) hm hc (p:=[]) (l:=bytesV l) rfl (a:=a) (k:=k) (by rw [bytesV_len];exact hk)
 rw [this,bytesV_drop,bytesV_take]
theorem slB {lo hi:Option V} {a b n:Nat} (hm:h.m m=some (.cells own (.one t0) (.agg (bytesV l)))) (hc:saOk Pg t0 (.one t0) [] n 5=true) (hl:bnd lo 0=some a) (hk:bnd hi n=some b) (h1:a≤b) (h2:b≤n) :
   aSlice Pg h t0 (.ptr (some ⟨m,.one t0,[]⟩)) lo hi=some (.slc (some (⟨m,.one t0,[]⟩,a)) (b - a)):=sl_arr n 5 hm hc (p:=[]) (l:=bytesV l) rfl hl hk h1 h2
theorem bgetA {i:Nat} (hi:i < l.length):getV (.agg (bytesV l)) ([]++[((i:Nat):Int).toNat])=some (.int .u8 ((l.getD i 0).toNat:Nat)):=by
 rw [show ((i:Nat):Int).toNat=i by omega]
 exact getV_row (by simp [bytesV,List.getElem?_eq_getElem hi])
theorem bsetA {i:Nat} (hi:i < l.length) (b:UInt8):setV (.agg (bytesV l)) ([]++[((i:Nat):Int).toNat]) (.int .u8 b.toNat)=some (.agg (bytesV (l.set i b))):=by
 rw [show ((i:Nat):Int).toNat=i by omega]
 simp [setV,bytesV,List.getElem?_eq_getElem hi,List.map_set]
end
def secOf (b:List UInt8) (i:Nat):List UInt8:=(b.drop (64 * i)).take 64
def layS (b:List UInt8) (i:Nat) (s:List UInt8):List UInt8:=b.take (64 * i)++s++b.drop (64 * i + 64)
theorem secOf_len {b:List UInt8} {i:Nat} (h:b.length=256) (hi:i < 4):(secOf b i).length=64:=by unfold secOf;simp;omega
theorem layS_len {b s:List UInt8} {i:Nat} (h:b.length=256) (hs:s.length=64) (hi:i < 4):(layS b i s).length=256:=by unfold layS;simp;omega
theorem i64m {i:Nat} (hi:i < 100):((i:Nat):Int) * 64=((64 * i:Nat):Int):=by omega
theorem cutP {b:List UInt8} (hb:b.length=256) {i:Nat} (hi:i < 4) (h:AH):ACalls Pg 43 [.agg (bytesV b),.int .i64 i] h (pureE (.agg (bytesV (secOf b i))) h):=by
 refine pure_lift (by simp only [flatBs,flatB,flat_bytes,Bool.and_self]) (by simp only [flatB,flat_bytes]) ?_ h
 refine C43 _ _ _ _ ?_
 refine bindE (new_at (shBlk hb)) fun h1 u1=>?_
 have n1:=u1.next
 refine bindE (al_at zSec (shSec (zer_len 64))) fun h2 u2=>?_
 have n2:=u2.next
 refine bindE (al_at zSec (shSec (zer_len 64))) fun h3 u3=>?_
 have n3:=u3.next
 have fb:=(u3.other _ (by omega)).trans ((u2.other _ (by omega)).trans u1.at_)
 have fr:=(u3.other _ (by omega)).trans u2.at_
 refine bindS_mk b_geq ?_
 rw [decide_eq_true (by omega)]
 refine g_tt ?_
 refine bindS_mk b_lss ?_
 rw [decide_eq_true (by omega)]
 refine Meet.of (cast_p (Gzx_eq _ _ _ _ _ _ _ _) ?_)
 refine bindV_mk p_t ?_
 refine Meet.of (cast_p (Jz4v_eq _ _ _ _ _ _ _) ?_)
 refine i_t ?_
 refine bindSO_mk (slB (n:=64) u3.at_ (by kernel_rfl) (a:=0) (b:=64) rfl rfl (by omega) (by omega)) ?_
 refine bindSO_mk (w_mul (wrap_i64 (by omega) (by omega))) ?_
 rw [i64m (by omega)]
 refine bindSO_mk (slB (n:=256) fb (by kernel_rfl) (a:=64 * i) (b:=256) (by rw [bnd_i (by omega)];first | done | (congr 1 <;> omega)) rfl (by omega) (by omega)) ?_
 refine bindE (cpB_at (ws:=(b.drop (64 * i)).take (256 - 64 * i)) u3.at_ (by kernel_rfl) (elB fb (by kernel_rfl) (by omega)) (by rw [zer_len];omega)) fun h4 u4=>?_
 have n4:=u4.next
 have e1:copyB (zer 64) 0 (64 - 0) ((b.drop (64 * i)).take (256 - 64 * i))=secOf b i:=by
   unfold copyB secOf
   have l1:((b.drop (64 * i)).take (256 - 64 * i)).length=256 - 64 * i:=by simp;omega
   rw [l1,show min (256 - 64 * i) (64 - 0)=64 by omega,List.take_take,show min 64 (256 - 64 * i)=64 by omega]
   simp [zer]
 have f4:=u4.at_
 rw [e1] at f4
 refine Meet.of (cast_p (Jz4w_eq _ _ _ _) ?_)
 refine bindV_mk (ld_mk (p:=[]) f4 (by kernel_rfl) rfl) ?_
 have fr4:=(u4.other _ (by omega)).trans fr
 refine bindE (st_at (p:=[]) fr4 (by kernel_rfl) rfl (shSec (secOf_len hb hi)) rfl) fun h5 u5=>?_
 have q1:=ld_mk (P:=Pg) (t:=122) (p:=[]) u5.at_ (by kernel_rfl) (w:=.agg (bytesV (secOf b i))) rfl
 simp only [aLoadV] at q1
 have q2:=(still_some q1).1
 refine bindR_mk (show aRes Pg _ _ R43=some [.agg (bytesV (secOf b i))] by simp only [R43,aRes,Env.get,if_true,q2]) ?_
 rfl
theorem layP {b s:List UInt8} (hb:b.length=256) (hs:s.length=64) {i:Nat} (hi:i < 4) (h:AH):ACalls Pg 82 [.agg (bytesV b),.int .i64 i,.agg (bytesV s)] h (pureE (.agg (bytesV (layS b i s))) h):=by
 refine pure_lift (by simp only [flatBs,flatB,flat_bytes,Bool.and_self]) (by simp only [flatB,flat_bytes]) ?_ h
 refine C82 _ _ _ _ _ ?_
 refine bindE (new_at (shBlk hb)) fun h1 u1=>?_
 have n1:=u1.next
 refine bindE (new_at (shSec hs)) fun h2 u2=>?_
 have n2:=u2.next
 refine bindE (al_at zBlk (shBlk (zer_len 256))) fun h3 u3=>?_
 have n3:=u3.next
 have fb:=(u3.other _ (by omega)).trans ((u2.other _ (by omega)).trans u1.at_)
 have fs:=(u3.other _ (by omega)).trans u2.at_
 refine bindS_mk b_geq ?_
 rw [decide_eq_true (by omega)]
 refine g_tt ?_
 refine bindS_mk b_lss ?_
 rw [decide_eq_true (by omega)]
 refine Meet.of (cast_p (Gz21_eq _ _ _ _ _ _ _ _) ?_)
 refine bindV_mk p_t ?_
 refine Meet.of (cast_p (Jz6u_eq _ _ _ _ _ _ _) ?_)
 refine i_t ?_
 refine bindSO_mk (w_mul (wrap_i64 (by omega) (by omega))) ?_
 rw [i64m (by omega)]
 refine bindSO_mk (slB (n:=256) fb (by kernel_rfl) (a:=64 * i) (b:=256) (by rw [bnd_i (by omega)];first | done | (congr 1 <;> omega)) rfl (by omega) (by omega)) ?_
 refine bindSO_mk (slB (n:=64) fs (by kernel_rfl) (a:=0) (b:=64) rfl rfl (by omega) (by omega)) ?_
 refine bindE (cpB_at (ws:=(s.drop 0).take (64 - 0)) fb (by kernel_rfl) (elB fs (by kernel_rfl) (by omega)) (by omega)) fun h4 u4=>?_
 have n4:=u4.next
 have e1:copyB b (64 * i) (256 - 64 * i) ((s.drop 0).take (64 - 0))=layS b i s:=by
   unfold copyB layS
   have e0:(s.drop 0).take (64 - 0)=s:=by rw [List.drop_zero,List.take_of_length_le (by omega)]
   rw [e0,show min s.length (256 - 64 * i)=64 by omega,List.take_of_length_le (show s.length≤64 by omega)]
 have f4:=u4.at_
 rw [e1] at f4
 refine Meet.of (cast_p (Jz6v_eq _ _ _ _) ?_)
 refine bindV_mk (ld_mk (p:=[]) f4 (by kernel_rfl) rfl) ?_
 have fr4:=(u4.other _ (by omega)).trans u3.at_
 refine bindE (st_at (p:=[]) fr4 (by kernel_rfl) rfl (shBlk (layS_len hb hs hi)) rfl) fun h5 u5=>?_
 have q1:=ld_mk (P:=Pg) (t:=56) (p:=[]) u5.at_ (by kernel_rfl) (w:=.agg (bytesV (layS b i s))) rfl
 simp only [aLoadV] at q1
 have q2:=(still_some q1).1
 refine bindR_mk (show aRes Pg _ _ R82=some [.agg (bytesV (layS b i s))] by simp only [R82,aRes,Env.get,if_true,q2]) ?_
 rfl
end Go.Proofs.Ytdfgfbammkojoaa.Sh
namespace Go.Proofs.Ytdfgfbammkojoaa.Sh
open Go Go.Ab Go.RowKit
open Go.Proofs.Ytdfgfbammkojoaa.Ru (Pg okP)
set_option maxRecDepth 10000
set_option linter.unusedSectionVars false
def leN:List UInt8→Nat
 | []=>0
 | b :: l=>b.toNat + 256 * leN l
theorem leN_lt:∀ l:List UInt8,leN l < 256 ^ l.length
 | []=>by decide
 | b :: l=>by
   have h1:=leN_lt l
   have h2:b.toNat < 256:=UInt8.toNat_lt b
   rw [leN,List.length_cons,Nat.pow_succ]
   omega
def tail8 (b:List UInt8) (i:Nat):List UInt8:=(b.drop (64 * i + 56)).take 8
def stA (b:List UInt8) (i:Nat):Nat:=leN (tail8 b i)
def chA (b:List UInt8) (i:Nat):List UInt8:=(b.drop (64 * i)).take 56
def plA (b:List UInt8) (i:Nat):List UInt8:=(List.range i).flatMap (chA b)++zer (224 - 56 * i)
def okA (b:List UInt8):Prop:=stA b 1=stA b 0∧stA b 2=stA b 0∧stA b 3=stA b 0
instance (b:List UInt8):Decidable (okA b):=by unfold okA;infer_instance
def openV (b:List UInt8):V:=if okA b then .tup [.int .u64 (stA b 0),.agg (bytesV (plA b 4)),.bool true] else .tup [.int .u64 0,.agg (bytesV (zer 224)),.bool false]
theorem tail8_len {b:List UInt8} (hb:b.length=256) {i:Nat} (hi:i < 4):(tail8 b i).length=8:=by unfold tail8;simp;omega
theorem chA_len {b:List UInt8} (hb:b.length=256) {i:Nat} (hi:i < 4):(chA b i).length=56:=by unfold chA;simp;omega
theorem chs_len {b:List UInt8} (hb:b.length=256):∀ {i:Nat},i≤4→((List.range i).flatMap (chA b)).length=56 * i
 | 0,_=>rfl
 | i + 1,hi=>by
   rw [List.range_succ,List.flatMap_append,List.length_append,chs_len hb (by omega)]
   simp [chA_len hb (show i < 4 by omega)];omega
theorem plA_len {b:List UInt8} (hb:b.length=256) {i:Nat} (hi:i≤4):(plA b i).length=224:=by
 unfold plA
 rw [List.length_append,chs_len hb hi,zer_len];omega
theorem leN_drop {l:List UInt8} {j:Nat} (h:j < l.length):leN (l.drop j)=(l.getD j 0).toNat + 256 * leN (l.drop (j + 1)):=by
 rw [List.drop_eq_getElem_cons h,leN,List.getD_eq_getElem?_getD,List.getElem?_eq_getElem h];rfl
theorem tail8_get {b:List UInt8} {i j:Nat} (hj:j < 8):(tail8 b i).getD j 0=b.getD (64 * i + 56 + j) 0:=by
 unfold tail8
 simp only [List.getD_eq_getElem?_getD]
 rw [List.getElem?_take_of_lt hj,List.getElem?_drop]
section
variable {h:AH} {b:List UInt8} {n1 n3 n5 m i:Nat} {Q:AEnd→AH→Prop} {x3 x5 x6:V}
abbrev blP (n:Nat):V:=.ptr (some ⟨n,.one 56,[]⟩)
abbrev paP (n:Nat):V:=.ptr (some ⟨n,.one 31,[]⟩)
theorem inner208 (hb:b.length=256) (hi:i < 4) (f1:h.m n1=some (.cells true (.one 56) (.agg (bytesV b)))) (cont:Jz43 Q m (blP n1) x3 x5 x6 (.int .i64 i) (.int .i64 ((64 * i:Nat):Int)) (.int .u64 (stA b i)) (.int .i64 i) h) :
   ∀ (j m1:Nat),j≤8→j < m1→Lz7d Q m m1 (blP n1) x3 x5 x6 (.int .i64 i) (.int .i64 ((64 * i:Nat):Int)) (.int .u64 (leN ((tail8 b i).drop j))) (.int .i64 ((j:Int) - 1)) (.int .i64 i) h
 | j,0,hj,hm=>by omega
 | 0,m1 + 1,hj,hm=>by
   rw [Lz7d_eq]
   refine bindS_mk b_geq ?_
   rw [decide_eq_false (by omega)]
   refine i_f ?_
   exact Meet.of cont
 | j + 1,m1 + 1,hj,hm=>by
   have hl:=tail8_len hb hi
   have hlt:leN ((tail8 b i).drop (j + 1)) < 256 ^ 7:=by
     refine Nat.lt_of_lt_of_le (leN_lt _) (Nat.pow_le_pow_right (by decide) ?_)
     simp [hl]
   have hc8:(b.getD (64 * i + 56 + j) 0).toNat < 256:=UInt8.toNat_lt _
   rw [Lz7d_eq]
   refine bindS_mk b_geq ?_
   rw [decide_eq_true (by omega)]
   refine i_t ?_
   refine Meet.of (cast_p (Jz41_eq _ _ _ _ _ _ _ _ _ _ _ _ _) ?_)
   refine bindS_mk (b_shl (by omega)) ?_
   rw [show shlI .u64 ((leN ((tail8 b i).drop (j + 1)):Nat):Int) 8=((leN ((tail8 b i).drop (j + 1)) * 2 ^ 8:Nat):Int) from shl_n _ 8 (by decide) (by omega)]
   refine bindS_mk (w_add (wrap_i64 (by omega) (by omega))) ?_
   refine bindS_mk (w_add (wrap_i64 (by omega) (by omega))) ?_
   rw [show ((64 * i:Nat):Int) + 56 + (((j + 1:Nat):Int) - 1)=((64 * i + 56 + j:Nat):Int) by omega]
   refine bindS_mk (ia_arr 256 5 (by kernel_rfl) (by omega) (by omega)) ?_
   refine bindV_mk (ld_mk f1 (by kernel_rfl) (bgetA (by omega))) ?_
   refine bindS_mk (cv_wr (d:=42) (k:=.u64) (by kernel_rfl) (wr_u64 (by omega) (by omega))) ?_
   refine bindS_mk b_or ?_
   rw [or_join 8 _ _ (by omega) (by omega)]
   refine Meet.of (cast_p (Jz42_eq _ _ _ _ _ _ _ _ _ _ _ _ _) ?_)
   refine bindS_mk (w_sub (wrap_i64 (by omega) (by omega))) ?_
   have e1:leN ((tail8 b i).drop (j + 1)) * 2 ^ 8 + (b.getD (64 * i + 56 + j) 0).toNat=leN ((tail8 b i).drop j):=by
     rw [leN_drop (j:=j) (by omega),tail8_get (by omega)];omega
   rw [e1,show ((j + 1:Nat):Int) - 1 - 1=(j:Int) - 1 by omega]
   exact Meet.of (inner208 hb hi f1 cont j m1 (by omega) (by omega))
def goodTo (b:List UInt8) (i:Nat):Prop:=∀ j,j < i→stA b j=stA b 0
theorem okA_to {b:List UInt8}:goodTo b 4↔okA b:=by
 unfold goodTo okA
 constructor
 · intro h;exact ⟨h 1 (by omega),h 2 (by omega),h 3 (by omega)⟩
 · rintro ⟨h1,h2,h3⟩ j hj
   match j,hj with
   | 0,_=>rfl
   | 1,_=>exact h1
   | 2,_=>exact h2
   | 3,_=>exact h3
def OpenEnd (b:List UInt8):AEnd→AH→Prop:=fun e _=>e=.ret (openV b)
theorem plA_step {b:List UInt8} (hb:b.length=256) {i:Nat} (hi:i < 4):copyB (plA b i) (56 * i) (56 * (i + 1) - 56 * i) ((b.drop (64 * i)).take (256 - 64 * i))=plA b (i + 1):=by
 unfold copyB
 have l1:((b.drop (64 * i)).take (256 - 64 * i)).length=256 - 64 * i:=by simp;omega
 have l2:=chs_len hb (i:=i) (by omega)
 rw [l1,show min (256 - 64 * i) (56 * (i + 1) - 56 * i)=56 by omega,List.take_take,show min 56 (256 - 64 * i)=56 by omega]
 unfold plA
 rw [List.take_append_of_le_length (by omega),List.take_of_length_le (by omega),List.drop_append,List.drop_eq_nil_of_le (show ((List.range i).flatMap (chA b)).length≤56 * i + 56 by omega),List.nil_append,l2]
 have e1:(zer (224 - 56 * i)).drop (56 * i + 56 - 56 * i)=zer (224 - 56 * (i + 1)):=by
   unfold zer
   rw [List.drop_replicate]
   congr 1;omega
 rw [e1,List.range_succ,List.flatMap_append]
 simp [chA]
theorem round208 (hb:b.length=256) (hi:i < 4) (o:n1 < h.next∧n3 < h.next∧n5 < h.next∧n1≠n5∧n3≠n5∧n1≠n3) (f1:h.m n1=some (.cells true (.one 56) (.agg (bytesV b)))) (f3:h.m n3=some (.cells true (.one 31) (.agg (bytesV (zer 224))))) (f5:h.m n5=some (.cells true (.one 31) (.agg (bytesV (plA b i)))))
   (hg:goodTo b i) (cont:∀ h',h.next≤h'.next→h'.m n1=some (.cells true (.one 56) (.agg (bytesV b)))→h'.m n3=some (.cells true (.one 31) (.agg (bytesV (zer 224))))→h'.m n5=some (.cells true (.one 31) (.agg (bytesV (plA b (i + 1)))))→goodTo b (i + 1) →
     Lz7c (OpenEnd b) m (blP n1) (paP n3) (paP n5) (.int .u64 (stA b 0)) (.int .i64 ((i + 1:Nat):Int)) h') :
   Jz40 (OpenEnd b) m (blP n1) (paP n3) (paP n5) (.int .u64 ((if i=0 then 0 else stA b 0:Nat):Int)) (.int .i64 i) h:=by
 obtain ⟨o1,o2,o3,o4,o5,o6⟩:=o
 rw [Jz40_eq]
 refine bindS_mk (w_mul (wrap_i64 (by omega) (by omega))) ?_
 rw [i64m (by omega)]
 have l8:=tail8_len hb hi
 have lp:=plA_len hb (i:=i) (by omega)
 have fin:∀ f:Nat,f=stA b 0→Jz44 (OpenEnd b) m (blP n1) (paP n3) (paP n5) (.int .u64 (f:Nat)) (.int .i64 i) (.int .i64 ((64 * i:Nat):Int)) (.int .u64 (stA b i)) (.int .i64 i) h:=by
   intro f hf
   subst hf
   rw [Jz44_eq]
   refine bindS_mk b_neq ?_
   refine i_split (fun q=>?_) (fun q=>?_)
   · replace q:=ne_of_bne q
     have hno:¬ okA b:=fun w=>q (by rw [(okA_to.2 w) i hi])
     refine bindS_mk (show aBuild Pg 31 []=some (.agg (bytesV (zer 224))) by kernel_rfl) ?_
     refine bindE (st_at (p:=[]) f3 (by kernel_rfl) rfl (shPay (zer_len 224)) rfl) fun h1 u1=>?_
     have q1:=ld_mk (P:=Pg) (t:=31) (p:=[]) u1.at_ (by kernel_rfl) (w:=.agg (bytesV (zer 224))) rfl
     simp only [aLoadV] at q1
     have q2:=(still_some q1).1
     refine bindR_mk (show aRes Pg _ _ R38=some [.int .u64 0,.agg (bytesV (zer 224)),.bool false] by simp [R38,aRes,Env.get,q2]) ?_
     show _=_
     rw [openV,if_neg hno];rfl
   · replace q:=eq_of_bne_false q
     have hg2:goodTo b (i + 1):=fun j hj=>by
       by_cases e:j=i
       · subst e;omega
       · exact hg j (by omega)
     refine Meet.of (cast_p (Jz45_eq _ _ _ _ _ _ _ _ _ _) ?_)
     refine bindSO_mk (w_mul (wrap_i64 (by omega) (by omega))) ?_
     refine bindSO_mk (w_add (wrap_i64 (by omega) (by omega))) ?_
     refine bindSO_mk (w_mul (wrap_i64 (by omega) (by omega))) ?_
     refine bindSO_mk (slB (n:=224) f5 (by kernel_rfl) (a:=56 * i) (b:=56 * (i + 1)) (by rw [bnd_i (by omega)];congr 1;omega) (by rw [bnd_i (by omega)];congr 1;omega) (by omega) (by omega)) ?_
     refine bindSO_mk (slB (n:=256) f1 (by kernel_rfl) (a:=64 * i) (b:=256) (by rw [bnd_i (by omega)];first | done | (congr 1 <;> omega)) rfl (by omega) (by omega)) ?_
     refine bindE (cpB_at (ws:=(b.drop (64 * i)).take (256 - 64 * i)) f5 (by kernel_rfl) (elB f1 (by kernel_rfl) (by omega)) (by omega)) fun h1 u1=>?_
     have n1':=u1.next
     have f5':=u1.at_
     rw [plA_step hb hi] at f5'
     refine Meet.of (cast_p (Jz46_eq _ _ _ _ _ _ _ _) ?_)
     refine bindS_mk (w_add (wrap_i64 (by omega) (by omega))) ?_
     exact Meet.of (cont h1 (by omega) ((u1.other _ (by omega)).trans f1) ((u1.other _ (by omega)).trans f3) f5' hg2)
 have key:=inner208 (Q:=OpenEnd b) (x3:=paP n3) (x5:=paP n5) (x6:=.int .u64 ((if i=0 then 0 else stA b 0:Nat):Int)) (m:=m) hb hi f1 ?_ 8 9 (by omega) (by omega)
 · rw [List.drop_of_length_le (by omega)] at key
   exact ⟨9,Meet.of key⟩
 · rw [Jz43_eq]
   refine bindS_mk b_eql ?_
   by_cases h0:i=0
   · subst h0
     refine i_t ?_
     exact Meet.of (fin _ rfl)
   · rw [beq_eq_false_iff_ne.2 (by omega)]
     refine i_f ?_
     rw [if_neg h0]
     exact Meet.of (fin _ rfl)
theorem openL (hb:b.length=256):∀ (j i m:Nat) (h:AH),i + j=4→j < m→n1 < h.next∧n3 < h.next∧n5 < h.next∧n1≠n5∧n3≠n5∧n1≠n3→h.m n1=some (.cells true (.one 56) (.agg (bytesV b)))→h.m n3=some (.cells true (.one 31) (.agg (bytesV (zer 224))))→h.m n5=some (.cells true (.one 31) (.agg (bytesV (plA b i))))→goodTo b i →
   Lz7c (OpenEnd b) m (blP n1) (paP n3) (paP n5) (.int .u64 ((if i=0 then 0 else stA b 0:Nat):Int)) (.int .i64 i) h
 | j,i,0,h,hij,hm,_,_,_,_,_=>by omega
 | 0,i,m + 1,h,hij,hm,o,f1,f3,f5,hg=>by
   obtain rfl:i=4:=by omega
   rw [Lz7c_eq]
   refine bindS_mk b_lss ?_
   rw [decide_eq_false (by omega)]
   refine i_f ?_
   refine Meet.of (cast_p (Jz47_eq _ _ _ _ _) ?_)
   refine bindVO_mk (ld_mk (p:=[]) f5 (by kernel_rfl) rfl) ?_
   refine bindE (st_at (p:=[]) f3 (by kernel_rfl) rfl (shPay (plA_len hb (Nat.le_refl 4))) rfl) fun h1 u1=>?_
   have q1:=ld_mk (P:=Pg) (t:=31) (p:=[]) u1.at_ (by kernel_rfl) (w:=.agg (bytesV (plA b 4))) rfl
   simp only [aLoadV] at q1
   have q2:=(still_some q1).1
   refine bindR_mk (show aRes Pg _ _ R38=some [.int .u64 (stA b 0),.agg (bytesV (plA b 4)),.bool true] by simp [R38,aRes,Env.get,q2]) ?_
   show _=_
   rw [openV,if_pos (okA_to.1 hg)];rfl
 | j + 1,i,m + 1,h,hij,hm,o,f1,f3,f5,hg=>by
   rw [Lz7c_eq]
   refine bindS_mk b_lss ?_
   rw [decide_eq_true (by omega)]
   refine i_t ?_
   refine Meet.of (round208 hb (by omega) o f1 f3 f5 hg fun h' hn g1 g3 g5 hg'=>?_)
   have:=openL hb j (i + 1) m h' (by omega) (by omega) (by omega) g1 g3 g5 hg'
   rw [if_neg (by omega)] at this
   exact this
end
theorem openP {b:List UInt8} (hb:b.length=256) (h:AH):ACalls Pg 38 [.agg (bytesV b)] h (pureE (openV b) h):=by
 refine pure_lift (by simp only [flatBs,flatB,flat_bytes,Bool.and_self]) (by unfold openV;split <;> simp only [flatB,flatBs,flat_bytes,Bool.and_self]) ?_ h
 refine C38 _ _ _ ?_
 refine bindE (new_at (shBlk hb)) fun h1 u1=>?_
 have n1:=u1.next
 refine bindE (al_at zPay (shPay (zer_len 224))) fun h2 u2=>?_
 have n2:=u2.next
 refine bindE (al_at zPay (shPay (zer_len 224))) fun h3 u3=>?_
 have n3:=u3.next
 exact ⟨5,Meet.of (openL hb 4 0 5 h3 (by omega) (by omega) ⟨by omega,by omega,by omega,by omega,by omega,by omega⟩ ((u3.other _ (by omega)).trans ((u2.other _ (by omega)).trans u1.at_)) ((u3.other _ (by omega)).trans u2.at_) u3.at_ (fun j hj=>by omega))⟩
end Go.Proofs.Ytdfgfbammkojoaa.Sh
namespace Go.Proofs.Ytdfgfbammkojoaa.Sh
open Go Go.Ab Go.RowKit
open Go.Proofs.Ytdfgfbammkojoaa.Ru (Pg okP)
set_option maxRecDepth 10000
set_option linter.unusedSectionVars false
def leB (n k:Nat):UInt8:=UInt8.ofNat (n / 2 ^ (8 * k))
def le8 (n:Nat):List UInt8:=(List.range 8).map (leB n)
def chP (p:List UInt8) (i:Nat):List UInt8:=(p.drop (56 * i)).take 56
def secB (st:Nat) (p:List UInt8) (i:Nat):List UInt8:=chP p i++le8 st
def doneB (st:Nat) (p:List UInt8) (i:Nat):List UInt8:=(List.range i).flatMap (secB st p)
def sealB (st:Nat) (p:List UInt8):List UInt8:=doneB st p 4
theorem le8_len (n:Nat):(le8 n).length=8:=by simp [le8]
theorem chP_len {p:List UInt8} (hp:p.length=224) {i:Nat} (hi:i < 4):(chP p i).length=56:=by unfold chP;simp;omega
theorem secB_len {st:Nat} {p:List UInt8} (hp:p.length=224) {i:Nat} (hi:i < 4):(secB st p i).length=64:=by unfold secB;rw [List.length_append,chP_len hp hi,le8_len]
theorem doneB_len {st:Nat} {p:List UInt8} (hp:p.length=224):∀ {i:Nat},i≤4→(doneB st p i).length=64 * i
 | 0,_=>rfl
 | i + 1,hi=>by
   have ih:=doneB_len (st:=st) hp (i:=i) (by omega)
   unfold doneB at *
   rw [List.range_succ,List.flatMap_append,List.length_append,ih]
   simp [secB_len hp (show i < 4 by omega)];omega
theorem sealB_len {st:Nat} {p:List UInt8} (hp:p.length=224):(sealB st p).length=256:=doneB_len hp (Nat.le_refl 4)
theorem set_zer (A:List UInt8) (n:Nat) (b:UInt8):(A++zer (n + 1)).set A.length b=(A++[b])++zer n:=by
 rw [List.set_append_right _ _ (Nat.le_refl _),Nat.sub_self]
 simp [zer,List.replicate_succ]
theorem copy_zer (A ws:List UInt8) (n k:Nat) (hk:k≤ws.length) (hn:k≤n):copyB (A++zer n) A.length k ws=(A++ws.take k)++zer (n - k):=by
 unfold copyB
 rw [show min ws.length k=k by omega,List.take_append_of_le_length (Nat.le_refl _),List.take_length,List.drop_append,List.drop_eq_nil_of_le (by omega),List.nil_append]
 congr 1
 unfold zer
 rw [List.drop_replicate]
 congr 1;omega
section
variable {h:AH} {st:Nat} {p:List UInt8} {n3 n4 n5 m i:Nat} {Q:AEnd→AH→Prop} {x3 x4:V}
theorem inner53 (hst:st < 18446744073709551616) (hi:i < 4) (A:List UInt8) (hA:A.length=64 * i + 56) (P:AH→Prop) :
   ∀ (j k m1:Nat) (h:AH),k + j=8→j < m1→h.m n5=some (.cells true (.one 56) (.agg (bytesV ((A++(le8 st).take k)++zer (256 - (64 * i + 56 + k)))))) →
     (∀ h',h'.next=h.next→(∀ q,q≠n5→h'.m q=h.m q)→h'.m n5=some (.cells true (.one 56) (.agg (bytesV ((A++le8 st)++zer (256 - 64 * (i + 1))))))→Jz2p Q m (.int .u64 st) x3 x4 (blP n5) (.int .i64 i) h') →
     Lz78 Q m m1 (.int .u64 st) x3 x4 (blP n5) (.int .i64 ((64 * i:Nat):Int)) (.int .i64 i) (.int .i64 k) h
 | j,k,0,h,hk,hm,_,_=>by omega
 | 0,k,m1 + 1,h,hk,hm,f,cont=>by
   obtain rfl:k=8:=by omega
   rw [Lz78_eq]
   refine bindS_mk b_lss ?_
   rw [decide_eq_false (by omega)]
   refine i_f ?_
   rw [List.take_of_length_le (show (le8 st).length≤8 by rw [le8_len];omega),show 256 - (64 * i + 56 + 8)=256 - 64 * (i + 1) by omega] at f
   exact Meet.of (cont h rfl (fun _ _=>rfl) f)
 | j + 1,k,m1 + 1,h,hk,hm,f,cont=>by
   have hl:(A++(le8 st).take k).length=64 * i + 56 + k:=by rw [List.length_append,hA,List.length_take,le8_len];omega
   rw [Lz78_eq]
   refine bindS_mk b_lss ?_
   rw [decide_eq_true (by omega)]
   refine i_t ?_
   refine Meet.of (cast_p (Jz2n_eq _ _ _ _ _ _ _ _ _ _ _) ?_)
   refine bindS_mk (w_add (wrap_i64 (by omega) (by omega))) ?_
   refine bindS_mk (w_add (wrap_i64 (by omega) (by omega))) ?_
   rw [show ((64 * i:Nat):Int) + 56 + ((k:Nat):Int)=((64 * i + 56 + k:Nat):Int) by omega]
   refine bindS_mk (w_mul (wrap_i64 (by omega) (by omega))) ?_
   rw [show (8:Int) * ((k:Nat):Int)=((8 * k:Nat):Int) by omega]
   refine bindS_mk (b_shr (by omega)) ?_
   rw [shr_n st (8 * k) (by omega)]
   refine bindS_mk (cv_int (d:=5) .u8 (by kernel_rfl)) ?_
   have e8:IntKind.u8.wrap ((st / 2 ^ (8 * k):Nat):Int)=((leB st k).toNat:Int):=by
     show ((st / 2 ^ (8 * k):Nat):Int) % 256=_
     unfold leB
     simp
   rw [e8]
   refine bindS_mk (ia_arr 256 5 (by kernel_rfl) (by omega) (by omega)) ?_
   have hidx:64 * i + 56 + k < ((A++(le8 st).take k)++zer (256 - (64 * i + 56 + k))).length:=by rw [List.length_append,hl,zer_len];omega
   refine bindE (st_at f (by kernel_rfl) (bgetA hidx) (by kernel_rfl) (bsetA hidx (leB st k))) fun h1 u1=>?_
   have n1:=u1.next
   have f1:=u1.at_
   have e1:((A++(le8 st).take k)++zer (256 - (64 * i + 56 + k))).set (64 * i + 56 + k) (leB st k)=(A++(le8 st).take (k + 1))++zer (256 - (64 * i + 56 + (k + 1))):=by
     have hg:(le8 st)[k]?=some (leB st k):=by
       unfold le8
       rw [List.getElem?_map,List.getElem?_range (by omega)];rfl
     rw [show 256 - (64 * i + 56 + k)=(256 - (64 * i + 56 + (k + 1))) + 1 by omega,← hl,set_zer,List.take_add_one,hg]
     simp
   rw [e1] at f1
   refine Meet.of (cast_p (Jz2o_eq _ _ _ _ _ _ _ _ _ _ _) ?_)
   refine bindS_mk (w_add (wrap_i64 (by omega) (by omega))) ?_
   refine Meet.of (inner53 hst hi A hA P j (k + 1) m1 h1 (by omega) (by omega) f1 fun h' hn ho hf=>cont h' (by omega) (fun q hq=>(ho q hq).trans (u1.other q hq)) hf)
theorem outer53 (hst:st < 18446744073709551616) (hp:p.length=224):∀ (j i m:Nat) (h:AH),i + j=4→j < m→n3 < h.next∧n4 < h.next∧n5 < h.next∧n3≠n5∧n4≠n5→h.m n3=some (.cells true (.one 31) (.agg (bytesV p)))→(∃ w,h.m n4=some (.cells true (.one 56) w)) →
   h.m n5=some (.cells true (.one 56) (.agg (bytesV (doneB st p i++zer (256 - 64 * i)))))→Lz77 (fun e _=>e=.ret (.agg (bytesV (sealB st p)))) m (.int .u64 st) (paP n3) (blP n4) (blP n5) (.int .i64 i) h
 | j,i,0,h,hij,hm,_,_,_,_=>by omega
 | 0,i,m + 1,h,hij,hm,⟨o1,o2,o3,o4,o5⟩,f3,⟨w,f4⟩,f5=>by
   obtain rfl:i=4:=by omega
   rw [Lz77_eq]
   refine bindS_mk b_lss ?_
   rw [decide_eq_false (by omega)]
   refine i_f ?_
   have e0:doneB st p 4++zer (256 - 64 * 4)=sealB st p:=by show doneB st p 4++[]=_;rw [List.append_nil];rfl
   rw [e0] at f5
   refine Meet.of (cast_p (Jz2q_eq _ _ _ _) ?_)
   refine bindV_mk (ld_mk (p:=[]) f5 (by kernel_rfl) rfl) ?_
   refine bindE (st_at (p:=[]) f4 (by kernel_rfl) rfl (shBlk (sealB_len hp)) rfl) fun h1 u1=>?_
   have q1:=ld_mk (P:=Pg) (t:=56) (p:=[]) u1.at_ (by kernel_rfl) (w:=.agg (bytesV (sealB st p))) rfl
   simp only [aLoadV] at q1
   have q2:=(still_some q1).1
   refine bindR_mk (show aRes Pg _ _ R15=some [.agg (bytesV (sealB st p))] by simp [R15,aRes,Env.get,q2]) ?_
   rfl
 | j + 1,i,m + 1,h,hij,hm,⟨o1,o2,o3,o4,o5⟩,f3,⟨w,f4⟩,f5=>by
   have ld:=doneB_len (st:=st) hp (i:=i) (by omega)
   rw [Lz77_eq]
   refine bindS_mk b_lss ?_
   rw [decide_eq_true (by omega)]
   refine i_t ?_
   refine Meet.of (cast_p (Jz2m_eq _ _ _ _ _ _ _ _) ?_)
   refine bindS_mk (w_mul (wrap_i64 (by omega) (by omega))) ?_
   rw [i64m (by omega)]
   refine bindSO_mk (w_add (wrap_i64 (by omega) (by omega))) ?_
   refine bindSO_mk (slB (n:=256) f5 (by kernel_rfl) (a:=64 * i) (b:=64 * i + 56) (by rw [bnd_i (by omega)];first | done | (congr 1 <;> omega)) (by rw [bnd_i (by omega)];first | done | (congr 1 <;> omega)) (by omega) (by omega)) ?_
   refine bindSO_mk (w_mul (wrap_i64 (by omega) (by omega))) ?_
   rw [show ((i:Nat):Int) * 56=((56 * i:Nat):Int) by omega]
   refine bindSO_mk (slB (n:=224) f3 (by kernel_rfl) (a:=56 * i) (b:=224) (by rw [bnd_i (by omega)];first | done | (congr 1 <;> omega)) rfl (by omega) (by omega)) ?_
   refine bindE (cpB_at (ws:=(p.drop (56 * i)).take (224 - 56 * i)) f5 (by kernel_rfl) (elB f3 (by kernel_rfl) (by omega)) (by rw [List.length_append,ld,zer_len];omega)) fun h1 u1=>?_
   have n1:=u1.next
   have g5:=u1.at_
   have e1:copyB (doneB st p i++zer (256 - 64 * i)) (64 * i) (64 * i + 56 - 64 * i) ((p.drop (56 * i)).take (224 - 56 * i))=(doneB st p i++chP p i)++zer (256 - (64 * i + 56 + 0)):=by
     have:=copy_zer (doneB st p i) ((p.drop (56 * i)).take (224 - 56 * i)) (256 - 64 * i) 56 (by simp;omega) (by omega)
     rw [ld] at this
     rw [show 64 * i + 56 - 64 * i=56 by omega,this,List.take_take,show min 56 (224 - 56 * i)=56 by omega,show 256 - 64 * i - 56=256 - (64 * i + 56 + 0) by omega];rfl
   rw [e1] at g5
   have key:=inner53 (Q:=fun e _=>e=.ret (.agg (bytesV (sealB st p)))) (x3:=paP n3) (x4:=blP n4) (n5:=n5) (m:=m) (i:=i) hst (by omega) (doneB st p i++chP p i) (by rw [List.length_append,ld,chP_len hp (by omega)]) (fun _=>True) 8 0 9 h1 (by omega) (by omega) (by rw [List.take_zero,List.append_nil];exact g5) ?_
   · exact ⟨9,Meet.of key⟩
   · intro h2 hn ho hf
     rw [Jz2p_eq]
     refine bindS_mk (w_add (wrap_i64 (by omega) (by omega))) ?_
     have e2:(doneB st p i++chP p i)++le8 st=doneB st p (i + 1):=by
       unfold doneB
       rw [List.range_succ,List.flatMap_append]
       simp [secB]
     rw [e2] at hf
     refine Meet.of (outer53 hst hp j (i + 1) m h2 (by omega) (by omega) ⟨by omega,by omega,by omega,o4,o5⟩ ((ho _ o4).trans ((u1.other _ o4).trans f3)) ⟨w,(ho _ o5).trans ((u1.other _ o5).trans f4)⟩ hf)
end
theorem sealP {p:List UInt8} (hp:p.length=224) {st:Nat} (hst:st < 18446744073709551616) (h:AH):ACalls Pg 15 [.int .u64 st,.agg (bytesV p)] h (pureE (.agg (bytesV (sealB st p))) h):=by
 refine pure_lift (by simp only [flatBs,flatB,flat_bytes,Bool.and_self]) (by simp only [flatB,flat_bytes]) ?_ h
 refine C15 _ _ _ _ ?_
 refine bindE (new_at (shPay hp)) fun h1 u1=>?_
 have n1:=u1.next
 refine bindE (al_at zBlk (shBlk (zer_len 256))) fun h2 u2=>?_
 have n2:=u2.next
 refine bindE (al_at zBlk (shBlk (zer_len 256))) fun h3 u3=>?_
 have n3:=u3.next
 exact ⟨5,Meet.of (outer53 hst hp 4 0 5 h3 (by omega) (by omega) ⟨by omega,by omega,by omega,by omega,by omega⟩ ((u3.other _ (by omega)).trans ((u2.other _ (by omega)).trans u1.at_)) ⟨_,(u3.other _ (by omega)).trans u2.at_⟩ u3.at_)⟩
end Go.Proofs.Ytdfgfbammkojoaa.Sh
namespace Go.Proofs.Ytdfgfbammkojoaa.Sh
open Go Go.Ab Go.RowKit
open Go.Proofs.Ytdfgfbammkojoaa.Ru (Pg okP)
set_option maxRecDepth 100000
noncomputable def B87:Code:=(Try.f87.body).getD .skip
def R87:List ResultVar:=[.tmp 4]
abbrev N87:Nat:=28
def K87:KT:=(.seq .leaf (.seq .leaf (.join (.seq .leaf (.one (.loop (.join (.seq .leaf (.two .leaf .leaf) [1,5,6,12]) (.join (.one (.seq .leaf (.seq .leaf (.one (.loop (.seq .leaf (.join (.two .leaf .leaf) (.join (.one .leaf) .leaf [1,5,6,21]) [1,5,6,21]) [1,5,6,21,22]) [1,5,6,21])) [1,5,6,21]) [1,5,6])) .leaf [1,5,6]) [1,5,6]) [1,5,6])) [1,5,6]) (.seq .leaf .leaf [4]) [5]) [1,5]) [0,1])
def Jz71 (Q:AEnd→AH→Prop) (n n1:Nat) (x1 x5 x6 x21:V) (h:AH):Prop:=vcAt Pg N87 B87 K87 [1,1,0,1,0,0,1,0,0,1,1,0,0,1,1,1] [n,n1] (vcRet Pg R87 Q) [(1,x1),(5,x5),(6,x6),(21,x21)] h
def Jz70 (Q:AEnd→AH→Prop) (n n1:Nat) (x1 x5 x6 x21:V) (h:AH):Prop:=vcAt Pg N87 B87 K87 [1,1,0,1,0,0,1,0,0,1,1,0,0,1,1] [n,n1] (vcRet Pg R87 Q) [(1,x1),(5,x5),(6,x6),(21,x21)] h
def Jz72 (Q:AEnd→AH→Prop) (n:Nat) (x1 x5 x6:V) (h:AH):Prop:=vcAt Pg N87 B87 K87 [1,1,0,1,0,0,1,1] [n] (vcRet Pg R87 Q) [(1,x1),(5,x5),(6,x6)] h
def Lz7q (Q:AEnd→AH→Prop) (n:Nat) (n1:Nat) (x1 x5 x6 x21:V) (h:AH):Prop:=loopAt Pg N87 B87 K87 [1,1,0,1,0,0,1,0,0,1,1,0] [n] n1 (vcRet Pg R87 Q) [(1,x1),(5,x5),(6,x6),(21,x21)] h
def Jz6z (Q:AEnd→AH→Prop) (n:Nat) (x1 x5 x6:V) (h:AH):Prop:=vcAt Pg N87 B87 K87 [1,1,0,1,0,0,1] [n] (vcRet Pg R87 Q) [(1,x1),(5,x5),(6,x6)] h
def Jz73 (Q:AEnd→AH→Prop) (x5:V) (h:AH):Prop:=vcAt Pg N87 B87 K87 [1,1,1] [] (vcRet Pg R87 Q) [(5,x5)] h
def Lz7p (Q:AEnd→AH→Prop) (n:Nat) (x1 x5 x6:V) (h:AH):Prop:=loopAt Pg N87 B87 K87 [1,1,0,1,0] [] n (vcRet Pg R87 Q) [(1,x1),(5,x5),(6,x6)] h
theorem Jz71_eq (Q:AEnd→AH→Prop) (n n1:Nat) (x1 x5 x6 x21:V) (h:AH):Jz71 Q n n1 x1 x5 x6 x21 h=(
 bindV (still (aBin Pg .add 3 x21 (V.int .i64 1) true) h) fun v17 h18 =>
 Meet (Lz7q Q n n1 x1 x5 x6 v17 h18)):=by kernel_rfl
theorem Jz70_eq (Q:AEnd→AH→Prop) (n n1:Nat) (x1 x5 x6 x21:V) (h:AH):Jz70 Q n n1 x1 x5 x6 x21 h=(
 ACalls Pg 88 [x5] h (aEnd (fun v15 h16 =>
 Meet (Jz71 Q n n1 x1 v15 x6 x21 h16)) fun v h=>Q (.panic v) h)):=by kernel_rfl
theorem Jz72_eq (Q:AEnd→AH→Prop) (n:Nat) (x1 x5 x6:V) (h:AH):Jz72 Q n x1 x5 x6 h=(
 bindV (still (aBin Pg .add 3 x6 (V.int .i64 1) true) h) fun v19 h20 =>
 Meet (Lz7p Q n x1 x5 v19 h20)):=by kernel_rfl
theorem Lz7q_eq (Q:AEnd→AH→Prop) (n:Nat) (n1:Nat) (x1 x5 x6 x21:V) (h:AH):Lz7q Q n (n1 + 1) x1 x5 x6 x21 h=(
 bindV (still (aBin Pg .lss 3 x21 (V.int .i64 8) true) h) fun v13 h14 =>
 vcIf v13 (
 Meet (Jz70 Q n n1 x1 x5 x6 x21 h14)) (
 Meet (Jz72 Q n x1 x5 x6 h14))):=by kernel_rfl
theorem Jz6z_eq (Q:AEnd→AH→Prop) (n:Nat) (x1 x5 x6:V) (h:AH):Jz6z Q n x1 x5 x6 h=(
 bindV (still (aIndex Pg 9 x1 x6) h) fun v7 h8 =>
 bindV (still (aConv Pg h8 5 32 v7) h8) fun v9 h10 =>
 bindV (still (aBin Pg .xor 32 x5 v9 false) h10) fun v11 h12 =>
 ∃ n1,Meet (Lz7q Q n n1 x1 v11 x6 (V.int .i64 0) h12)):=by kernel_rfl
theorem Jz73_eq (Q:AEnd→AH→Prop) (x5:V) (h:AH):Jz73 Q x5 h=(
 bindV (still (aUn .xor x5) h) fun v21 h22 =>
 Q (.ret v21) h22):=by kernel_rfl
theorem Lz7p_eq (Q:AEnd→AH→Prop) (n:Nat) (x1 x5 x6:V) (h:AH):Lz7p Q (n + 1) x1 x5 x6 h=(
 bindV (aBuiltin Pg h .len [9] [x1]) fun v3 h4 =>
 bindV (still (aBin Pg .lss 3 x6 v3 false) h4) fun v5 h6 =>
 vcIf v5 (
 Meet (Jz6z Q n x1 x5 x6 h6)) (
 Meet (Jz73 Q x5 h6))):=by kernel_rfl
theorem S87 (Q:AEnd→AH→Prop) (a0 a1:V) (h:AH):vc Pg N87 B87 K87 (vcRet Pg R87 Q) (initEnv 0 [a0,a1]) h=(
 bindV (still (aUn .xor a0) h) fun v1 h2 =>
 ∃ n,Meet (Lz7p Q n a1 v1 (V.int .i64 0) h2)):=by kernel_rfl
theorem C87 (Q:AEnd→AH→Prop) (a0 a1:V) (h:AH) (c :
 bindV (still (aUn .xor a0) h) fun v1 h2 =>
 ∃ n,Meet (Lz7p Q n a1 v1 (V.int .i64 0) h2)):ACalls Pg 87 [a0,a1] h Q :=
 acalls_of_vc okP Try.func87 (show Try.f87.body=some B87 from by kernel_rfl) K87 (by rw [← S87 Q a0 a1 h] at c;exact c)
noncomputable def B88:Code:=(Try.f88.body).getD .skip
def R88:List ResultVar:=[.tmp 2]
abbrev N88:Nat:=10
def K88:KT:=(.seq .leaf (.seq .leaf .leaf [2]) [0])
theorem S88 (Q:AEnd→AH→Prop) (a0:V) (h:AH):vc Pg N88 B88 K88 (vcRet Pg R88 Q) (initEnv 0 [a0]) h=(
 bindV (still (aBin Pg .shr 32 a0 (V.int .u64 1) true) h) fun v1 h2 =>
 bindV (still (aBin Pg .and 32 a0 (V.int .u32 1) true) h2) fun v3 h4 =>
 bindV (still (aUn .neg v3) h4) fun v5 h6 =>
 bindV (still (aBin Pg .and 32 (V.int .u32 3988292384) v5 true) h6) fun v7 h8 =>
 bindV (still (aBin Pg .xor 32 v1 v7 false) h8) fun v9 h10 =>
 Q (.ret v9) h10):=by kernel_rfl
theorem C88 (Q:AEnd→AH→Prop) (a0:V) (h:AH) (c :
 bindV (still (aBin Pg .shr 32 a0 (V.int .u64 1) true) h) fun v1 h2 =>
 bindV (still (aBin Pg .and 32 a0 (V.int .u32 1) true) h2) fun v3 h4 =>
 bindV (still (aUn .neg v3) h4) fun v5 h6 =>
 bindV (still (aBin Pg .and 32 (V.int .u32 3988292384) v5 true) h6) fun v7 h8 =>
 bindV (still (aBin Pg .xor 32 v1 v7 false) h8) fun v9 h10 =>
 Q (.ret v9) h10):ACalls Pg 88 [a0] h Q :=
 acalls_of_vc okP Try.func88 (show Try.f88.body=some B88 from by kernel_rfl) K88 (by rw [← S88 Q a0 h] at c;exact c)
end Go.Proofs.Ytdfgfbammkojoaa.Sh
namespace Go.Proofs.Ytdfgfbammkojoaa.Sh
open Go Go.Ab Go.RowKit
open Go.Proofs.Ytdfgfbammkojoaa.Ru (Pg okP crcStep crc8 crcGo)
set_option maxRecDepth 10000
theorem bv32 (v:Nat) (h:v < 4294967296):(BitVec.ofInt 32 (v:Int)).toNat=v:=by
 rw [BitVec.toNat_ofInt]
 have:((v:Int) % ((2 ^ 32:Nat):Int)).toNat=v % 2 ^ 32:=by omega
 rw [this];exact Nat.mod_eq_of_lt (by simpa using h)
theorem xor32 (a b:Nat) (ha:a < 4294967296) (hb:b < 4294967296):bitI .xor .u32 (a:Int) (b:Int)=((Nat.xor a b:Nat):Int)∧Nat.xor a b < 4294967296:=by
 have h3:(a ^^^ b) < 2 ^ 32:=Nat.xor_lt_two_pow (by simpa using ha) (by simpa using hb)
 have h4:(a ^^^ b) < 4294967296:=by simpa using h3
 refine ⟨?_,h4⟩
 simp only [bitI]
 have:((BitVec.ofInt IntKind.u32.bits (a:Int) ^^^ BitVec.ofInt IntKind.u32.bits (b:Int)).toNat)=a ^^^ b:=by
   show (BitVec.ofInt 32 (a:Int) ^^^ BitVec.ofInt 32 (b:Int)).toNat=a ^^^ b
   rw [BitVec.toNat_xor,bv32 a ha,bv32 b hb]
 rw [this,wrap_u32]
 show _=((a ^^^ b:Nat):Int)
 exact Int.emod_eq_of_lt (by omega) (by omega)
theorem and1 (a:Nat) (ha:a < 4294967296):bitI .and .u32 (a:Int) 1=((a % 2:Nat):Int):=by
 simp only [bitI]
 have:((BitVec.ofInt IntKind.u32.bits (a:Int) &&& BitVec.ofInt IntKind.u32.bits 1).toNat)=a % 2:=by
   show (BitVec.ofInt 32 (a:Int) &&& BitVec.ofInt 32 ((1:Nat):Int)).toNat=a % 2
   rw [BitVec.toNat_and,bv32 a ha,bv32 1 (by decide),Nat.and_one_is_mod]
 rw [this,wrap_u32]
 exact Int.emod_eq_of_lt (by omega) (by omega)
theorem step_eq (x:Nat):crcStep x=Nat.xor (x / 2) (3988292384 * (x % 2)):=by
 unfold crcStep
 have h1:Nat.shiftRight x 1=x / 2:=rfl
 have h2:Nat.land x 1=x % 2:=Nat.and_one_is_mod x
 rw [h1,h2]
 rfl
theorem step_lt (x:Nat) (hx:x < 4294967296):crcStep x < 4294967296:=by
 rw [step_eq]
 have h:3988292384 * (x % 2) < 4294967296:=by omega
 exact (xor32 (x / 2) _ (by omega) h).2
theorem stepP (x:Nat) (hx:x < 4294967296) (h:AH):ACalls Pg 88 [.int .u32 (x:Int)] h (pureE (.int .u32 ((crcStep x:Nat):Int)) h):=by
 refine C88 _ _ _ ?_
 refine bindS_mk (b_shr (by decide)) ?_
 have e1:shrI .u32 (x:Int) 1=((x / 2:Nat):Int):=by
   show (x:Int) / 2 ^ 1=_
   omega
 rw [e1]
 refine bindS_mk b_and ?_
 rw [and1 x hx]
 refine bindS_mk (show aUn .neg (.int .u32 ((x % 2:Nat):Int))=some (.int .u32 (IntKind.u32.wrap (0 - ((x % 2:Nat):Int)))) from rfl) ?_
 refine bindS_mk b_and ?_
 have e2:bitI .and .u32 3988292384 (IntKind.u32.wrap (0 - ((x % 2:Nat):Int)))=((3988292384 * (x % 2):Nat):Int):=by
   rcases Nat.mod_two_eq_zero_or_one x with h | h
   · rw [h];decide +kernel
   · rw [h];decide +kernel
 rw [e2]
 refine bindS_mk b_xor ?_
 rw [(xor32 (x / 2) (3988292384 * (x % 2)) (by omega) (by omega)).1,step_eq]
 exact ⟨rfl,rfl⟩
theorem crc8_lt:∀ (n x:Nat),x < 4294967296→crc8 n x < 4294967296
 | 0,x,h=>h
 | n + 1,x,h=>crc8_lt n _ (step_lt x h)
theorem inner (q:AEnd→Prop) (s:V) (i:V) (n1:Nat) (h:AH) (next:Nat→Nat→Prop)
   (c:∀ x,x < 4294967296→next x 0→Jz72 (fun e _=>q e) n1 s (.int .u32 (x:Int)) i h)
   (hn:∀ x m,next x (m + 1)→next (crcStep x) m):∀ (m n x:Nat),m≤8→m < n→x < 4294967296→next x m→Lz7q (fun e _=>q e) n1 n s (.int .u32 (x:Int)) i (.int .i64 ((8 - m:Nat):Int)) h
 | m,0,x,_,hmn,_,_=>absurd hmn (by omega)
 | 0,n + 1,x,_,_,hx,hk=>by
   rw [Lz7q_eq]
   refine bindS_mk (b_lss_f (by omega)) ?_
   refine i_f ?_
   exact Meet.of (c x hx hk)
 | m + 1,n + 1,x,hm,hmn,hx,hk=>by
   rw [Lz7q_eq]
   refine bindS_mk (b_lss_t (by omega)) ?_
   refine i_t ?_
   refine Meet.of (cast_p (Jz70_eq _ _ _ _ _ _ _ _) ?_)
   refine call_mk (stepP x hx h) ?_
   refine Meet.of (cast_p (Jz71_eq _ _ _ _ _ _ _ _) ?_)
   refine bindS_mk (c_inc (by omega)) ?_
   have e:8 - (m + 1) + 1=8 - m:=by omega
   rw [e]
   exact Meet.of (inner q s i n1 h next c hn m n (crcStep x) (by omega) (by omega) (step_lt x hx) (hn x m hk))
end Go.Proofs.Ytdfgfbammkojoaa.Sh
namespace Go.Proofs.Ytdfgfbammkojoaa.Sh
open Go Go.Ab Go.RowKit
open Go.Proofs.Ytdfgfbammkojoaa.Ru (Pg okP crcStep crc8 crcGo crcMore)
set_option maxRecDepth 10000
theorem str9:strT Pg 9=true:=by kernel_rfl
theorem crcGo_cons (b:UInt8) (t:List UInt8) (r:Nat):crcGo (b :: t) r=crcGo t (crc8 8 (Nat.xor r b.toNat)):=by
 simp only [crcGo]
 rw [fNat_eq]
theorem outer (q:AEnd→Prop) (h:AH) (s:List UInt8) (hs:s.length < 1000000):∀ (t:List UInt8) (i n r:Nat),s.drop i=t→i + t.length=s.length→t.length < n→r < 4294967296 →
   q (.ret (.int .u32 ((Nat.xor (crcGo t r) 4294967295:Nat):Int)))→Lz7p (fun e _=>q e) n (.str s) (.int .u32 (r:Int)) (.int .i64 (i:Int)) h
 | t,i,0,r,_,_,hn,_,_=>absurd hn (by omega)
 | [],i,n + 1,r,hd,hl,_,hr,c=>by
   rw [Lz7p_eq]
   simp only [List.length_nil] at hl
   refine bindV_mk (len_str (by kernel_rfl)) ?_
   refine bindS_mk (b_lss_f (by omega)) ?_
   refine i_f ?_
   refine Meet.of (cast_p (Jz73_eq _ _ _) ?_)
   refine bindS_mk (show aUn .xor (.int .u32 (r:Int))=some (.int .u32 (bitI .xor .u32 ((4294967295:Nat):Int) (r:Int))) from rfl) ?_
   rw [(xor32 4294967295 r (by decide) hr).1]
   have e:Nat.xor 4294967295 r=Nat.xor (crcGo [] r) 4294967295:=by
     simp only [crcGo]
     exact Nat.xor_comm _ _
   rw [e]
   exact c
 | b :: t,i,n + 1,r,hd,hl,hn,hr,c=>by
   rw [Lz7p_eq]
   simp only [List.length_cons] at hl hn
   have hi:i < s.length:=by omega
   have hb:s.getD i 0=b:=by
     have:=congrArg (fun l=>l[0]?) hd
     simp only [List.getElem?_drop,Nat.add_zero,List.getElem?_cons_zero] at this
     rw [List.getD_eq_getElem?_getD,this];rfl
   have hbt:=b.toNat_lt
   refine bindV_mk (len_str (by kernel_rfl)) ?_
   refine bindS_mk (b_lss_t (by omega)) ?_
   refine i_t ?_
   refine Meet.of (cast_p (Jz6z_eq _ _ _ _ _ _) ?_)
   refine bindS_mk (ix_str str9 hi) ?_
   rw [hb]
   refine bindS_mk (cv_int (d:=32) .u32 (by kernel_rfl)) ?_
   have e1:IntKind.u32.wrap (b.toNat:Int)=(b.toNat:Int):=by rw [wrap_u32];omega
   rw [e1]
   refine bindS_mk b_xor ?_
   have hx:=xor32 r b.toNat hr (by omega)
   rw [hx.1]
   refine ⟨9,Meet.of ?_⟩
   have hlt:=crc8_lt 8 _ hx.2
   refine inner q (.str s) (.int .i64 (i:Int)) n h (fun x m=>crc8 m x=crc8 8 (Nat.xor r b.toNat)) (fun x hx' hk=>?_) (fun x m hk=>hk) 8 9 (Nat.xor r b.toNat) (by omega) (by omega) hx.2 rfl
   have hk:x=crc8 8 (Nat.xor r b.toNat):=hk
   rw [Jz72_eq]
   refine bindS_mk (c_inc (by omega)) ?_
   refine Meet.of ?_
   rw [hk]
   refine outer q h s hs t (i + 1) n _ ?_ (by omega) (by omega) hlt ?_
   · rw [← List.drop_drop,hd];rfl
   · rw [crcGo_cons] at c;exact c
theorem moreP (r:Nat) (hr:r < 4294967296) (s:List UInt8) (hs:s.length < 1000000) (h:AH):ACalls Pg 87 [.int .u32 (r:Int),.str s] h (pureE (.int .u32 ((crcMore r s:Nat):Int)) h):=by
 refine pure_lift rfl rfl (C87 _ _ _ _ ?_) h
 refine bindS_mk (show aUn .xor (.int .u32 (r:Int))=some (.int .u32 (bitI .xor .u32 ((4294967295:Nat):Int) (r:Int))) from rfl) ?_
 have hx:=xor32 4294967295 r (by decide) hr
 rw [hx.1]
 refine ⟨s.length + 1,Meet.of ?_⟩
 refine outer (fun e=>e=.ret (.int .u32 ((crcMore r s:Nat):Int))) AH0 s hs s 0 (s.length + 1) _ rfl (by omega) (by omega) hx.2 ?_
 have e:Nat.xor 4294967295 r=Nat.xor r 4294967295:=Nat.xor_comm _ _
 rw [e]
 rfl
end Go.Proofs.Ytdfgfbammkojoaa.Sh
namespace Go.Proofs.Ytdfgfbammkojoaa.Sh
open Go Go.Ab Go.RowKit
open Go.Proofs.Ytdfgfbammkojoaa.Ru (Pg okP crcMore crcGo)
set_option maxRecDepth 10000
set_option linter.unusedSectionVars false
def rawP (v:Int) (i:Int):UInt8:=UInt8.ofNat (IntKind.u8.wrap (shrI .u64 v (IntKind.i64.wrap (8 * i)))).toNat
theorem evP2 (q:AEnd→Prop) (v:Int):vc Pg N54 B54 .leaf (vcRet Pg R54 (fun e _=>q e)) (initEnv 0 [.int .u64 v,.int .i64 2]) AH0=q (.ret (.str [rawP v 0,rawP v 1])):=by kernel_rfl
theorem evP4 (q:AEnd→Prop) (v:Int):vc Pg N54 B54 .leaf (vcRet Pg R54 (fun e _=>q e)) (initEnv 0 [.int .u64 v,.int .i64 4]) AH0=q (.ret (.str [rawP v 0,rawP v 1,rawP v 2,rawP v 3])):=by kernel_rfl
theorem evP8 (q:AEnd→Prop) (v:Int):vc Pg N54 B54 .leaf (vcRet Pg R54 (fun e _=>q e)) (initEnv 0 [.int .u64 v,.int .i64 8]) AH0=q (.ret (.str [rawP v 0,rawP v 1,rawP v 2,rawP v 3,rawP v 4,rawP v 5,rawP v 6,rawP v 7])):=by kernel_rfl
def putL (v n:Nat):List UInt8:=(List.range n).map (leB v)
theorem putL_len (v n:Nat):(putL v n).length=n:=by simp [putL]
theorem rawP_n (v i:Nat) (hi:i≤8):rawP (v:Int) (i:Int)=leB v i:=by
 unfold rawP leB
 have e:IntKind.i64.wrap (8 * (i:Int))=((8 * i:Nat):Int):=by rw [wrap_i64 (by omega) (by omega)];rfl
 have e3:(IntKind.u8.wrap ((v / 2 ^ (8 * i):Nat):Int)).toNat=v / 2 ^ (8 * i) % 256:=by
   generalize v / 2 ^ (8 * i)=x
   show ((x:Int) % 256).toNat=_
   omega
 rw [e,shr_n v (8 * i) (by omega),e3]
 apply UInt8.toNat_inj.1
 simp
theorem putP2 (v:Nat) (h:AH):ACalls Pg 54 [.int .u64 v,.int .i64 2] h (pureE (.str (putL v 2)) h):=by
 refine pure_lift rfl rfl ?_ h
 refine acalls_vc okP Try.func54 (show Try.f54.body=some B54 from by kernel_rfl) .leaf N54 R54 rfl (by kernel_rfl) ?_
 rw [evP2 (fun e=>e=.ret (.str (putL v 2))) v]
 rw [show rawP (v:Int) 0=leB v 0 from rawP_n v 0 (by decide),show rawP (v:Int) 1=leB v 1 from rawP_n v 1 (by decide)];rfl
theorem putP4 (v:Nat) (h:AH):ACalls Pg 54 [.int .u64 v,.int .i64 4] h (pureE (.str (putL v 4)) h):=by
 refine pure_lift rfl rfl ?_ h
 refine acalls_vc okP Try.func54 (show Try.f54.body=some B54 from by kernel_rfl) .leaf N54 R54 rfl (by kernel_rfl) ?_
 rw [evP4 (fun e=>e=.ret (.str (putL v 4))) v]
 rw [show rawP (v:Int) 0=leB v 0 from rawP_n v 0 (by decide),show rawP (v:Int) 1=leB v 1 from rawP_n v 1 (by decide),show rawP (v:Int) 2=leB v 2 from rawP_n v 2 (by decide),show rawP (v:Int) 3=leB v 3 from rawP_n v 3 (by decide)];rfl
theorem putP8 (v:Nat) (h:AH):ACalls Pg 54 [.int .u64 v,.int .i64 8] h (pureE (.str (putL v 8)) h):=by
 refine pure_lift rfl rfl ?_ h
 refine acalls_vc okP Try.func54 (show Try.f54.body=some B54 from by kernel_rfl) .leaf N54 R54 rfl (by kernel_rfl) ?_
 rw [evP8 (fun e=>e=.ret (.str (putL v 8))) v]
 rw [show rawP (v:Int) 0=leB v 0 from rawP_n v 0 (by decide),show rawP (v:Int) 1=leB v 1 from rawP_n v 1 (by decide),show rawP (v:Int) 2=leB v 2 from rawP_n v 2 (by decide),show rawP (v:Int) 3=leB v 3 from rawP_n v 3 (by decide),show rawP (v:Int) 4=leB v 4 from rawP_n v 4 (by decide),show rawP (v:Int) 5=leB v 5 from rawP_n v 5 (by decide),show rawP (v:Int) 6=leB v 6 from rawP_n v 6 (by decide),show rawP (v:Int) 7=leB v 7 from rawP_n v 7 (by decide)];rfl
def getW (s:List UInt8) (a n:Nat):Nat:=leN ((s.drop a).take n)
def getV2 (s:List UInt8) (a n:Nat):V:=if a + n≤s.length then .tup [.int .u64 (getW s a n),.bool true] else .tup [.int .u64 0,.bool false]
theorem getW_lt {s:List UInt8} {a n:Nat} (hn:n≤8):getW s a n < 18446744073709551616:=by
 refine Nat.lt_of_lt_of_le (leN_lt _) (Nat.le_trans (Nat.pow_le_pow_right (n:=256) (by decide) (show ((s.drop a).take n).length≤8 by simp;omega)) (by decide))
section
variable {s:List UInt8} {a n:Nat} {h:AH}
theorem getL (hn:n≤8) (hs:a + n≤s.length) (hl:s.length≤1000000000000):∀ (j m:Nat),j≤n→j < m→Lz7g (fun e _=>e=.ret (.tup [.int .u64 (getW s a n),.bool true])) m (.str s) (.int .i64 a) (.int .u64 (leN (((s.drop a).take n).drop j))) (.int .i64 ((j:Int) - 1)) h
 | j,0,hj,hm=>by omega
 | 0,m + 1,hj,hm=>by
   rw [Lz7g_eq]
   refine bindS_mk b_geq ?_
   rw [decide_eq_false (by omega)]
   refine i_f ?_
   refine Meet.of (cast_p (Jz4r_eq _ _ _) ?_)
   rfl
 | j + 1,m + 1,hj,hm=>by
   have hlen:((s.drop a).take n).length=n:=by simp;omega
   have hlt:leN (((s.drop a).take n).drop (j + 1)) < 256 ^ 7:=by
     refine Nat.lt_of_lt_of_le (leN_lt _) (Nat.pow_le_pow_right (by decide) ?_)
     rw [List.length_drop,hlen];omega
   obtain ⟨c,hc⟩:∃ c,s[a + j]?=some c:=⟨s[a + j]'(by omega),List.getElem?_eq_getElem (by omega)⟩
   have hc8:c.toNat < 256:=UInt8.toNat_lt _
   rw [Lz7g_eq]
   refine bindS_mk b_geq ?_
   rw [decide_eq_true (by omega)]
   refine i_t ?_
   refine Meet.of (cast_p (Jz4p_eq _ _ _ _ _ _ _) ?_)
   refine bindS_mk (b_shl (by omega)) ?_
   rw [show shlI .u64 ((leN (((s.drop a).take n).drop (j + 1)):Nat):Int) 8=((leN (((s.drop a).take n).drop (j + 1)) * 2 ^ 8:Nat):Int) from shl_n _ 8 (by decide) (by omega)]
   refine bindS_mk (w_add (wrap_i64 (by omega) (by omega))) ?_
   rw [show ((a:Nat):Int) + (((j + 1:Nat):Int) - 1)=((a + j:Nat):Int) by omega]
   refine bindS_mk (ixS (b:=c) (by kernel_rfl) (by omega) (by rw [show ((a + j:Nat):Int).toNat=a + j by omega];exact hc)) ?_
   refine bindS_mk (cv_wr (d:=42) (k:=.u64) (by kernel_rfl) (wr_u64 (by omega) (by omega))) ?_
   refine bindS_mk b_or ?_
   rw [or_join 8 _ _ (by omega) (by omega)]
   refine Meet.of (cast_p (Jz4q_eq _ _ _ _ _ _ _) ?_)
   refine bindS_mk (w_sub (wrap_i64 (by omega) (by omega))) ?_
   have e1:leN (((s.drop a).take n).drop (j + 1)) * 2 ^ 8 + c.toNat=leN (((s.drop a).take n).drop j):=by
     rw [leN_drop (j:=j) (by omega)]
     have:((s.drop a).take n).getD j 0=c:=by
       rw [List.getD_eq_getElem?_getD,List.getElem?_take_of_lt (by omega),List.getElem?_drop,hc];rfl
     rw [this];omega
   rw [e1,show ((j + 1:Nat):Int) - 1 - 1=(j:Int) - 1 by omega]
   exact Meet.of (getL hn hs hl j m (by omega) (by omega))
end
theorem getP (s:List UInt8) (a n:Nat) (hn:n≤8) (ha:a≤1000000000000) (hl:s.length≤1000000000000) (h:AH):ACalls Pg 41 [.str s,.int .i64 a,.int .i64 n] h (pureE (getV2 s a n) h):=by
 refine pure_lift rfl (by unfold getV2;split <;> rfl) ?_ h
 have bad:¬ a + n≤s.length→∀ c h,c=true→Jz4n (fun e _=>e=.ret (getV2 s a n)) (.str s) (.int .i64 a) (.int .i64 n) (.bool c) h:=by
   intro hh c h hc
   subst hc
   rw [Jz4n_eq]
   refine i_t ?_
   rw [getV2,if_neg hh]
 refine C41 _ _ _ _ _ ?_
 refine bindS_mk b_lss ?_
 rw [decide_eq_false (by omega)]
 refine g_ff ?_
 refine bindS_mk b_gtr ?_
 rw [decide_eq_false (by omega)]
 refine Meet.of (cast_p (Gzs_eq _ _ _ _ _ _ _) ?_)
 refine bindV_mk p_f (g_ff ?_)
 refine bindS_mk b_lss ?_
 rw [decide_eq_false (by omega)]
 refine Meet.of (cast_p (Gzt_eq _ _ _ _ _ _ _) ?_)
 refine bindV_mk p_f (g_ff ?_)
 refine bindV_mk (len_str (by kernel_rfl)) ?_
 refine bindS_mk b_gtr ?_
 by_cases h1:s.length < a
 · rw [decide_eq_true (by omega)]
   refine Meet.of (cast_p (Gzu_eq _ _ _ _ _ _ _) ?_)
   refine bindV_mk p_f ?_
   refine g_tf ?_
   refine Meet.of (cast_p (Gzv_eq _ _ _ _ _ _ _) ?_)
   refine bindV_mk p_t ?_
   exact Meet.of (bad (by omega) _ _ rfl)
 · rw [decide_eq_false (by omega)]
   refine Meet.of (cast_p (Gzu_eq _ _ _ _ _ _ _) ?_)
   refine bindV_mk p_f (g_ff ?_)
   refine bindV_mk (len_str (by kernel_rfl)) ?_
   refine bindS_mk (w_sub (wrap_i64 (by omega) (by omega))) ?_
   refine bindS_mk b_gtr ?_
   refine Meet.of (cast_p (Gzv_eq _ _ _ _ _ _ _) ?_)
   refine bindV_mk p_f ?_
   by_cases h2:a + n≤s.length
   · rw [decide_eq_false (by omega)]
     refine Meet.of (cast_p (Jz4n_eq _ _ _ _ _ _) ?_)
     refine i_f ?_
     refine Meet.of (cast_p (Jz4o_eq _ _ _ _ _) ?_)
     refine bindS_mk (w_sub (wrap_i64 (by omega) (by omega))) ?_
     have key:=getL (h:=AH0) hn h2 hl n (n + 1) (Nat.le_refl _) (by omega)
     rw [List.drop_of_length_le (show ((s.drop a).take n).length≤n by rw [List.length_take];omega)] at key
     rw [getV2,if_pos h2]
     exact ⟨n + 1,Meet.of key⟩
   · exact Meet.of (bad h2 _ _ (decide_eq_true (by omega)))
theorem getP_ok {s:List UInt8} {a n:Nat} (hn:n≤8) (hs:a + n≤s.length) (hl:s.length≤1000000000000) (h:AH):ACalls Pg 41 [.str s,.int .i64 a,.int .i64 n] h (pureE (.tup [.int .u64 (getW s a n),.bool true]) h):=by
 have:=getP s a n hn (by omega) hl h
 rw [getV2,if_pos hs] at this
 exact this
noncomputable def crcS (s:List UInt8):Nat:=crcMore 0 s
theorem sumP (s:List UInt8) (hs:s.length < 1000000) (h:AH):ACalls Pg 78 [.str s] h (pureE (.int .u32 (crcS s:Nat)) h):=by
 refine C78 _ _ _ ?_
 refine callS (moreP 0 (by decide) s hs h) ?_
 exact ⟨rfl,rfl⟩
end Go.Proofs.Ytdfgfbammkojoaa.Sh
namespace Go.Proofs.Ytdfgfbammkojoaa.Sh
open Go Go.Ab Go.RowKit
open Go.Proofs.Ytdfgfbammkojoaa.Ru (Pg okP crcMore crcGo)
set_option maxRecDepth 10000
set_option linter.unusedSectionVars false
def putAt (p:List UInt8) (a:Nat) (s:List UInt8):List UInt8:=copyB p a (224 - a) s
theorem putAt_len {p s:List UInt8} {a:Nat} (hp:p.length=224) (ha:a≤224):(putAt p a s).length=224:=by
 unfold putAt
 rw [copyB_len (by omega),hp]
theorem strEl (h:AH) (s:List UInt8):aElems Pg h 5 (.str s)=some (bytesV s):=by
 have hu:ul Pg 5=some (.int .u8):=by kernel_rfl
 simp only [aElems,hu]
section
variable {h:AH} {m t0:Nat} {l ws:List UInt8} {own:Bool}
theorem cpS_at {s n:Nat} (hm:h.m m=some (.cells true (.one t0) (.agg (bytesV l)))) (hc:raOk Pg (.one t0) [] 5=true) (hn:s + n≤l.length) :
   ∃ h',aBuiltin Pg h .copy [114,9] [.slc (some (⟨m,.one t0,[]⟩,s)) n,.str ws]=some (.int .i64 ((min ws.length n:Nat):Int),h')∧Upd h h' m (.cells true (.one t0) (.agg (bytesV (copyB l s n ws)))):=by
 have e:(bytesV l).take s++(bytesV ws).take (min (bytesV ws).length n)++(bytesV l).drop (s + min (bytesV ws).length n)=bytesV (copyB l s n ws):=by
   simp [copyB,bytesV]
 obtain ⟨h',e1,u⟩:=copy_at (P:=Pg) (t:=114) (xt:=9) (e:=5) (by kernel_rfl) (by kernel_rfl) hc hm (p:=[]) (l:=bytesV l) rfl (strEl h ws) (by rw [bytesV_len];exact hn) (v':=.agg (bytesV (copyB l s n ws))) (by rw [e];rfl)
 rw [bytesV_len] at e1
 exact ⟨h',e1,u⟩
theorem allStr (hm:h.m m=some (.cells own (.one t0) (.agg (bytesV l)))) (hc:raOk Pg (.one t0) [] 5=true):aConv Pg h 114 9 (.slc (some (⟨m,.one t0,[]⟩,0)) l.length)=some (.str l):=by
 have e:=elB (a:=0) (k:=l.length) hm hc (by omega)
 rw [List.drop_zero,List.take_length] at e
 exact cvBS (e:=5) (by kernel_rfl) e (.inr ⟨_,_,rfl⟩)
end
noncomputable def sumF (p:List UInt8):Nat:=crcS (copyB p 3 (7 - 3) (zer 4))
theorem crcS_lt (s:List UInt8):crcS s < 4294967296:=by
 have:∀ (t:List UInt8) (r:Nat),r < 4294967296→crcGo t r < 4294967296:=by
   intro t
   induction t with
   | nil=>intro r hr;exact hr
   | cons b t ih =>
     intro r hr
     rw [crcGo_cons]
     refine ih _ (crc8_lt 8 _ ?_)
     have hb:b.toNat < 2 ^ 32:=Nat.lt_of_lt_of_le (UInt8.toNat_lt b) (by decide)
     exact Nat.xor_lt_two_pow (n:=32) hr hb
 unfold crcS crcMore
 exact Nat.xor_lt_two_pow (n:=32) (this s _ (Nat.xor_lt_two_pow (n:=32) (by decide) (by decide))) (by decide)
theorem sumFP {p:List UInt8} (hp:p.length=224) (h:AH):ACalls Pg 81 [.agg (bytesV p)] h (pureE (.int .u32 (sumF p:Nat)) h):=by
 refine pure_lift (by simp only [flatBs,flatB,flat_bytes,Bool.and_self]) rfl ?_ h
 refine C81 _ _ _ ?_
 refine bindE (new_at (shPay hp)) fun h1 u1=>?_
 refine bindS_mk (slB (n:=224) u1.at_ (by kernel_rfl) (a:=3) (b:=7) rfl rfl (by omega) (by omega)) ?_
 refine bindE (cpS_at (ws:=[0,0,0,0]) u1.at_ (by kernel_rfl) (by omega)) fun h2 u2=>?_
 refine bindS_mk (slB (n:=224) u2.at_ (by kernel_rfl) (a:=0) (b:=224) rfl rfl (by omega) (by omega)) ?_
 have hl:(copyB p 3 (7 - 3) [0,0,0,0]).length=224:=by rw [copyB_len (by omega),hp]
 have key:=allStr u2.at_ (by kernel_rfl)
 rw [hl] at key
 refine bindS_mk key ?_
 refine callS (sumP _ (by omega) h2) ?_
 rfl
theorem lsnP {p:List UInt8} (hp:p.length=224) (h:AH):ACalls Pg 11 [.agg (bytesV p)] h (pureE (.int .u64 (getW p 7 8:Nat)) h):=by
 refine pure_lift (by simp only [flatBs,flatB,flat_bytes,Bool.and_self]) rfl ?_ h
 refine C11 _ _ _ ?_
 refine bindE (new_at (shPay hp)) fun h1 u1=>?_
 refine bindS_mk (slB (n:=224) u1.at_ (by kernel_rfl) (a:=0) (b:=224) rfl rfl (by omega) (by omega)) ?_
 have key:=allStr u1.at_ (by kernel_rfl)
 rw [hp] at key
 refine bindS_mk key ?_
 refine callS (getP_ok (a:=7) (n:=8) (by omega) (by omega) (by omega) h1) ?_
 refine bindS_mk (show aExtract _ _=some _ from rfl) ?_
 refine bindS_mk (show aExtract _ _=some _ from rfl) ?_
 rfl
noncomputable def sealF (kind:UInt8) (no lsn:Nat) (p:List UInt8):List UInt8 :=
 let q:=putAt (putAt (p.set 0 kind) 1 (putL no 2)) 7 (putL lsn 8)
 putAt q 3 (putL (sumF q) 4)
theorem sealF_len {kind:UInt8} {no lsn:Nat} {p:List UInt8} (hp:p.length=224):(sealF kind no lsn p).length=224:=by
 unfold sealF
 exact putAt_len (putAt_len (putAt_len (by simpa using hp) (by omega)) (by omega)) (by omega)
theorem psealP {kind:UInt8} {no lsn:Nat} {p:List UInt8} (hp:p.length=224) (hno:no < 65536) (hl:lsn < 18446744073709551616) (h:AH):ACalls Pg 69 [.int .u8 kind.toNat,.int .u16 no,.int .u64 lsn,.agg (bytesV p)] h (pureE (.agg (bytesV (sealF kind no lsn p))) h):=by
 refine pure_lift (by simp only [flatBs,flatB,flat_bytes,Bool.and_self]) (by simp only [flatB,flat_bytes]) ?_ h
 refine C69 _ _ _ _ _ _ ?_
 refine bindE (new_at (shPay hp)) fun h1 u1=>?_
 have n1:=u1.next
 refine bindE (al_at zPay (shPay (zer_len 224))) fun h2 u2=>?_
 have n2:=u2.next
 have f1:=(u2.other _ (by omega)).trans u1.at_
 refine bindS_mk (show aIndexAddr Pg 31 (.ptr (some ⟨AH0.next,.one 31,[]⟩)) (.int .i64 0)=some _ from ia_arr 224 5 (by kernel_rfl) (by omega) (by omega)) ?_
 refine bindE (st_at f1 (by kernel_rfl) (bgetA (i:=0) (by omega)) (by kernel_rfl) (bsetA (i:=0) (by omega) kind)) fun h3 u3=>?_
 have n3:=u3.next
 have l3:(p.set 0 kind).length=224:=by simpa using hp
 refine bindSO_mk (slB (n:=224) u3.at_ (by kernel_rfl) (a:=1) (b:=224) rfl rfl (by omega) (by omega)) ?_
 refine bindSO_mk (cv_wr (d:=42) (k:=.u64) (by kernel_rfl) (wr_u64 (by omega) (by omega))) ?_
 refine ⟨_,putP2 no h3,?_⟩
 refine bindE (cpS_at (ws:=putL no 2) u3.at_ (by kernel_rfl) (by omega)) fun h4 u4=>?_
 have n4:=u4.next
 have f4:h4.m AH0.next=some (.cells true (.one 31) (.agg (bytesV (putAt (p.set 0 kind) 1 (putL no 2))))):=u4.at_
 have l4:(putAt (p.set 0 kind) 1 (putL no 2)).length=224:=putAt_len l3 (by omega)
 refine bindSO_mk (slB (n:=224) f4 (by kernel_rfl) (a:=7) (b:=224) rfl rfl (by omega) (by omega)) ?_
 refine ⟨_,putP8 lsn h4,?_⟩
 refine bindE (cpS_at (ws:=putL lsn 8) f4 (by kernel_rfl) (by omega)) fun h5 u5=>?_
 have n5:=u5.next
 have f5:h5.m AH0.next=some (.cells true (.one 31) (.agg (bytesV (putAt (putAt (p.set 0 kind) 1 (putL no 2)) 7 (putL lsn 8))))):=u5.at_
 have l5:(putAt (putAt (p.set 0 kind) 1 (putL no 2)) 7 (putL lsn 8)).length=224:=putAt_len l4 (by omega)
 refine bindSO_mk (slB (n:=224) f5 (by kernel_rfl) (a:=3) (b:=224) rfl rfl (by omega) (by omega)) ?_
 refine bindVO_mk (ld_mk (p:=[]) f5 (by kernel_rfl) rfl) ?_
 refine ⟨_,sumFP l5 h5,?_⟩
 have hs:sumF (putAt (putAt (p.set 0 kind) 1 (putL no 2)) 7 (putL lsn 8)) < 4294967296:=crcS_lt _
 refine bindSO_mk (cv_wr (d:=42) (k:=.u64) (by kernel_rfl) (wr_u64 (by omega) (by omega))) ?_
 refine ⟨_,putP4 _ h5,?_⟩
 refine bindE (cpS_at (ws:=putL (sumF (putAt (putAt (p.set 0 kind) 1 (putL no 2)) 7 (putL lsn 8))) 4) f5 (by kernel_rfl) (by omega)) fun h6 u6=>?_
 have n6:=u6.next
 have f6:h6.m AH0.next=some (.cells true (.one 31) (.agg (bytesV (sealF kind no lsn p)))):=u6.at_
 refine bindV_mk (ld_mk (p:=[]) f6 (by kernel_rfl) rfl) ?_
 have fr:h6.m h1.next=some (.cells true (.one 31) (.agg (bytesV (zer 224)))):=(u6.other _ (by omega)).trans ((u5.other _ (by omega)).trans ((u4.other _ (by omega)).trans ((u3.other _ (by omega)).trans u2.at_)))
 refine bindE (st_at (p:=[]) fr (by kernel_rfl) rfl (shPay (sealF_len hp)) rfl) fun h7 u7=>?_
 have q1:=ld_mk (P:=Pg) (t:=31) (p:=[]) u7.at_ (by kernel_rfl) (w:=.agg (bytesV (sealF kind no lsn p))) rfl
 simp only [aLoadV] at q1
 have q2:=(still_some q1).1
 refine bindR_mk (show aRes Pg _ _ R69=some [.agg (bytesV (sealF kind no lsn p))] by simp [R69,aRes,Env.get,q2]) ?_
 rfl
end Go.Proofs.Ytdfgfbammkojoaa.Sh
namespace Go.Proofs.Ytdfgfbammkojoaa.Sh
open Go Go.Ab Go.RowKit
open Go.Proofs.Ytdfgfbammkojoaa.Ru (Pg okP)
set_option maxRecDepth 10000
set_option linter.unusedSectionVars false
def opensF (kind:UInt8) (no:Nat) (p:List UInt8):Prop:=p.getD 0 0=kind∧getW p 1 2=no∧getW p 3 4=sumF p
noncomputable instance (kind:UInt8) (no:Nat) (p:List UInt8):Decidable (opensF kind no p):=by unfold opensF;infer_instance
theorem opensP {kind:UInt8} {no:Nat} {p:List UInt8} (hp:p.length=224) (hno:no < 65536) (h:AH):ACalls Pg 64 [.int .u8 kind.toNat,.int .u16 no,.agg (bytesV p)] h (pureE (.bool (decide (opensF kind no p))) h):=by
 refine pure_lift (by simp only [flatBs,flatB,flat_bytes,Bool.and_self]) rfl ?_ h
 refine C64 _ _ _ _ _ ?_
 refine bindE (new_at (shPay hp)) fun h1 u1=>?_
 have f1:=u1.at_
 have sl:=slB (n:=224) (lo:=none) (hi:=none) f1 (by kernel_rfl) (a:=0) (b:=224) rfl rfl (by omega) (by omega)
 have cv:=allStr f1 (by kernel_rfl)
 rw [hp] at cv
 have hsum:=crcS_lt (copyB p 3 (7 - 3) (zer 4))
 refine bindS_mk sl ?_
 refine bindS_mk cv ?_
 refine callS (getP_ok (a:=1) (n:=2) (by omega) (by omega) (by omega) h1) ?_
 refine bindS_mk (show aExtract _ _=some _ from rfl) ?_
 refine bindS_mk (show aExtract _ _=some _ from rfl) ?_
 refine bindS_mk sl ?_
 refine bindS_mk cv ?_
 refine callS (getP_ok (a:=3) (n:=4) (by omega) (by omega) (by omega) h1) ?_
 refine bindS_mk (show aExtract _ _=some _ from rfl) ?_
 refine bindS_mk (show aExtract _ _=some _ from rfl) ?_
 refine bindS_mk (show aIndexAddr Pg 31 (.ptr (some ⟨AH0.next,.one 31,[]⟩)) (.int .i64 0)=some _ from ia_arr 224 5 (by kernel_rfl) (by omega) (by omega)) ?_
 refine bindV_mk (ld_mk f1 (by kernel_rfl) (bgetA (i:=0) (by omega))) ?_
 refine bindS_mk b_eql ?_
 have e8:(((p.getD 0 0).toNat:Int) == (kind.toNat:Int))=decide (p.getD 0 0=kind):=by
   by_cases q:p.getD 0 0=kind
   · rw [q];simp
   · rw [decide_eq_false q,beq_eq_false_iff_ne]
     intro e;exact q (UInt8.toNat_inj.1 (by omega))
 rw [e8]
 by_cases k1:p.getD 0 0=kind
 · rw [decide_eq_true k1]
   refine g_tt ?_
   refine bindS_mk (cv_wr (d:=42) (k:=.u64) (by kernel_rfl) (wr_u64 (by omega) (by omega))) ?_
   refine bindS_mk b_eql ?_
   refine Meet.of (cast_p (Gz1g_eq _ _ _ _ _ _) ?_)
   refine bindV_mk p_t ?_
   by_cases k2:getW p 1 2=no
   · rw [show (((getW p 1 2:Nat):Int) == ((no:Nat):Int))=true from beq_iff_eq.2 (by omega)]
     refine g_tt ?_
     refine bindV_mk (ld_mk (p:=[]) f1 (by kernel_rfl) rfl) ?_
     refine callS (sumFP hp h1) ?_
     refine bindS_mk (cv_wr (d:=42) (k:=.u64) (by kernel_rfl) (wr_u64 (by omega) (by unfold sumF;omega))) ?_
     refine bindS_mk b_eql ?_
     refine Meet.of (cast_p (Gz1h_eq _ _ _ _) ?_)
     refine bindV_mk p_t ?_
     refine Meet.of (cast_p (Jz67_eq _ _ _) ?_)
     congr 2
     by_cases k3:getW p 3 4=sumF p
     · rw [show (((getW p 3 4:Nat):Int) == ((sumF p:Nat):Int))=true from beq_iff_eq.2 (by omega),decide_eq_true ⟨k1,k2,k3⟩]
     · rw [show (((getW p 3 4:Nat):Int) == ((sumF p:Nat):Int))=false from beq_eq_false_iff_ne.2 (by omega),decide_eq_false (fun q=>k3 q.2.2)]
   · rw [show (((getW p 1 2:Nat):Int) == ((no:Nat):Int))=false from beq_eq_false_iff_ne.2 (by omega)]
     refine g_ft ?_
     refine Meet.of (cast_p (Gz1h_eq _ _ _ _) ?_)
     refine bindV_mk p_f ?_
     refine Meet.of (cast_p (Jz67_eq _ _ _) ?_)
     rw [decide_eq_false (fun q=>k2 q.2.1)]
 · rw [decide_eq_false k1]
   refine g_ft ?_
   refine Meet.of (cast_p (Gz1g_eq _ _ _ _ _ _) ?_)
   refine bindV_mk p_f (g_ft ?_)
   refine Meet.of (cast_p (Gz1h_eq _ _ _ _) ?_)
   refine bindV_mk p_f ?_
   refine Meet.of (cast_p (Jz67_eq _ _ _) ?_)
   rw [decide_eq_false (fun q=>k1 q.1)]
structure Dt where
 lsn:Nat
 ts:Nat
 pp:Nat
 ps:UInt8
 body:List UInt8
structure Dt.ok (d:Dt):Prop where
 lsn:d.lsn < 18446744073709551616
 ts:d.ts < 4294967296
 pp:d.pp < 65536
 body:d.body.length=64
def Dt.v (d:Dt):V:=.agg [.int .u64 d.lsn,.int .u32 d.ts,.agg [.int .u16 d.pp,.int .u8 d.ps.toNat],.agg (bytesV d.body)]
def Dt.z:Dt:=⟨0,0,0,0,zer 64⟩
theorem shBody {l:List UInt8} (h:l.length=64):hasShape Pg (.agg (bytesV l)) 81=true:=by
 have:hasShape Pg (.agg (bytesV l)) 81=(decide ((bytesV l).length=64) && shapesAll Pg (bytesV l) 5):=by kernel_rfl
 rw [this,shB rfl,bytesV_len,decide_eq_true h];rfl
theorem shDt {d:Dt} (h:d.ok):hasShape Pg d.v 83=true:=by
 have e:hasShape Pg d.v 83=(hasShape Pg (.agg (bytesV d.body)) 81 && true):=by kernel_rfl
 rw [e,shBody h.body];rfl
theorem zDt:zeroV Pg 83=some Dt.z.v:=by kernel_rfl
theorem bDt:aBuild Pg 83 []=some Dt.z.v:=by kernel_rfl
theorem zOk:Dt.z.ok:=⟨by decide,by decide,by decide,zer_len 64⟩
theorem flatDt (d:Dt):flatB d.v=true:=by
 show flatBs [_,_,_,_]=true
 simp only [flatBs,flatB,flat_bytes,Bool.and_self]
noncomputable def putD (no:Nat) (d:Dt):List UInt8:=sealF 1 no d.lsn (putAt ((putAt (putAt (zer 224) 15 (putL d.ts 4)) 19 (putL d.pp 2)).set 21 d.ps) 22 d.body)
theorem putD_len (no:Nat) {d:Dt}:(putD no d).length=224:=by
 unfold putD
 refine sealF_len (putAt_len ?_ (by omega))
 rw [List.length_set]
 exact putAt_len (putAt_len (zer_len 224) (by omega)) (by omega)
theorem putDP {no:Nat} {d:Dt} (hno:no < 65536) (ok:d.ok) (h:AH):ACalls Pg 45 [.int .u16 no,d.v] h (pureE (.agg (bytesV (putD no d))) h):=by
 obtain ⟨k1,k2,k3,k4⟩:=ok
 refine pure_lift (by simp only [flatBs,flatDt,flatB,Bool.and_self]) (by simp only [flatB,flat_bytes]) ?_ h
 refine C45 _ _ _ _ ?_
 refine bindE (new_at (shDt ⟨k1,k2,k3,k4⟩)) fun h1 u1=>?_
 have n1:=u1.next
 refine bindE (al_at zPay (shPay (zer_len 224))) fun h2 u2=>?_
 have n2:=u2.next
 refine bindE (al_at zPay (shPay (zer_len 224))) fun h3 u3=>?_
 have n3:=u3.next
 have fd:=(u3.other _ (by omega)).trans ((u2.other _ (by omega)).trans u1.at_)
 have fr:=(u3.other _ (by omega)).trans u2.at_
 refine bindSO_mk (slB (n:=224) u3.at_ (by kernel_rfl) (a:=15) (b:=224) rfl rfl (by omega) (by omega)) ?_
 refine bindSO_mk (fa_mk (by kernel_rfl)) ?_
 refine bindVO_mk (ld_mk fd (by kernel_rfl) (w:=.int .u32 d.ts) rfl) ?_
 refine bindSO_mk (cv_wr (d:=42) (k:=.u64) (by kernel_rfl) (wr_u64 (by omega) (by omega))) ?_
 refine ⟨_,putP4 d.ts h3,?_⟩
 refine bindE (cpS_at (ws:=putL d.ts 4) u3.at_ (by kernel_rfl) (by rw [zer_len];omega)) fun h4 u4=>?_
 have n4:=u4.next
 have f4:h4.m h2.next=some (.cells true (.one 31) (.agg (bytesV (putAt (zer 224) 15 (putL d.ts 4))))):=u4.at_
 have l4:(putAt (zer 224) 15 (putL d.ts 4)).length=224:=putAt_len (zer_len 224) (by omega)
 have fd4:=(u4.other _ (by omega)).trans fd
 refine bindSO_mk (slB (n:=224) f4 (by kernel_rfl) (a:=19) (b:=224) rfl rfl (by omega) (by omega)) ?_
 refine bindSO_mk (fa_mk (by kernel_rfl)) ?_
 refine bindSO_mk (fa_mk (by kernel_rfl)) ?_
 refine bindVO_mk (ld_mk fd4 (by kernel_rfl) (w:=.int .u16 d.pp) rfl) ?_
 refine bindSO_mk (cv_wr (d:=42) (k:=.u64) (by kernel_rfl) (wr_u64 (by omega) (by omega))) ?_
 refine ⟨_,putP2 d.pp h4,?_⟩
 refine bindE (cpS_at (ws:=putL d.pp 2) f4 (by kernel_rfl) (by omega)) fun h5 u5=>?_
 have n5:=u5.next
 have f5:h5.m h2.next=some (.cells true (.one 31) (.agg (bytesV (putAt (putAt (zer 224) 15 (putL d.ts 4)) 19 (putL d.pp 2))))):=u5.at_
 have l5:(putAt (putAt (zer 224) 15 (putL d.ts 4)) 19 (putL d.pp 2)).length=224:=putAt_len l4 (by omega)
 have fd5:=(u5.other _ (by omega)).trans fd4
 refine bindS_mk (fa_mk (by kernel_rfl)) ?_
 refine bindS_mk (fa_mk (by kernel_rfl)) ?_
 refine bindV_mk (ld_mk fd5 (by kernel_rfl) (w:=.int .u8 d.ps.toNat) rfl) ?_
 refine bindS_mk (show aIndexAddr Pg 31 (.ptr (some ⟨h2.next,.one 31,[]⟩)) (.int .i64 21)=some _ from ia_arr 224 5 (by kernel_rfl) (by omega) (by omega)) ?_
 refine bindE (st_at f5 (by kernel_rfl) (bgetA (i:=21) (by omega)) (by kernel_rfl) (bsetA (i:=21) (by omega) d.ps)) fun h6 u6=>?_
 have n6:=u6.next
 have l6:((putAt (putAt (zer 224) 15 (putL d.ts 4)) 19 (putL d.pp 2)).set 21 d.ps).length=224:=by rw [List.length_set];exact l5
 have fd6:=(u6.other _ (by omega)).trans fd5
 refine bindSO_mk (slB (n:=224) u6.at_ (by kernel_rfl) (a:=22) (b:=224) rfl rfl (by omega) (by omega)) ?_
 refine bindSO_mk (fa_mk (by kernel_rfl)) ?_
 refine bindSO_mk (sl_arr (P:=Pg) 64 5 fd6 (by kernel_rfl) (l:=bytesV d.body) rfl (a:=0) (b:=64) rfl rfl (by omega) (by omega)) ?_
 have eb:aElems Pg h6 5 (.slc (some (⟨AH0.next,.one 83,[]++[3]⟩,0)) (64 - 0))=some (bytesV d.body):=by
   have:=elems_arr (P:=Pg) (e:=5) fd6 (by kernel_rfl) (p:=[]++[3]) (l:=bytesV d.body) rfl (a:=0) (k:=64 - 0) (by rw [bytesV_len];omega)
   rw [this,List.drop_zero,List.take_of_length_le (by rw [bytesV_len];omega)]
 refine bindE (cpB_at (ws:=d.body) u6.at_ (by kernel_rfl) eb (by omega)) fun h7 u7=>?_
 have n7:=u7.next
 have f7:h7.m h2.next=some (.cells true (.one 31) (.agg (bytesV (putAt ((putAt (putAt (zer 224) 15 (putL d.ts 4)) 19 (putL d.pp 2)).set 21 d.ps) 22 d.body)))):=u7.at_
 have l7:=putAt_len (s:=d.body) (a:=22) l6 (by omega)
 have fd7:=(u7.other _ (by omega)).trans fd6
 refine bindS_mk (fa_mk (by kernel_rfl)) ?_
 refine bindV_mk (ld_mk fd7 (by kernel_rfl) (w:=.int .u64 d.lsn) rfl) ?_
 refine bindV_mk (ld_mk (p:=[]) f7 (by kernel_rfl) rfl) ?_
 refine callS (psealP (kind:=1) l7 hno k1 h7) ?_
 have fr7:h7.m h1.next=some (.cells true (.one 31) (.agg (bytesV (zer 224)))):=(u7.other _ (by omega)).trans ((u6.other _ (by omega)).trans ((u5.other _ (by omega)).trans ((u4.other _ (by omega)).trans fr)))
 refine bindE (st_at (p:=[]) fr7 (by kernel_rfl) rfl (shPay (putD_len no (d:=d))) rfl) fun h8 u8=>?_
 have q1:=ld_mk (P:=Pg) (t:=31) (p:=[]) u8.at_ (by kernel_rfl) (w:=.agg (bytesV (putD no d))) rfl
 simp only [aLoadV] at q1
 have q2:=(still_some q1).1
 refine bindR_mk (show aRes Pg _ _ R45=some [.agg (bytesV (putD no d))] by simp [R45,aRes,Env.get,q2]) ?_
 rfl
end Go.Proofs.Ytdfgfbammkojoaa.Sh
namespace Go.Proofs.Ytdfgfbammkojoaa.Sh
open Go Go.Ab Go.RowKit
open Go.Proofs.Ytdfgfbammkojoaa.Ru (Pg okP)
set_option maxRecDepth 10000
set_option linter.unusedSectionVars false
theorem getW_ltn (s:List UInt8) (a n:Nat):getW s a n < 256 ^ n :=
 Nat.lt_of_lt_of_le (leN_lt _) (Nat.pow_le_pow_right (by decide) (by simp;omega))
def isaOk (P:Program) (t:TypeId) (t0 e:Nat):Bool:=(match ul P t with | some (.slice e')=>e' == e | _=>false) && (match Go.Ab.rowAt P (.one t0) [] with | some (_,e')=>e' == e | none=>false) && (ul P e).isSome
theorem ia_slcA {t e t0:Nat} {m s len:Nat} {k:IntKind} {i:Int} (hc:isaOk Pg t t0 e=true) (h0:0≤i) (h1:i < (len:Int)) :
   aIndexAddr Pg t (.slc (some (⟨m,.one t0,[]⟩,s)) len) (.int k i)=some (.ptr (some ⟨m,.one t0,[s + i.toNat]⟩)):=by
 simp only [isaOk,Bool.and_eq_true] at hc
 obtain ⟨⟨h2,h3⟩,h4⟩:=hc
 split at h2
 · rename_i e' hu
   simp only [beq_iff_eq] at h2;subst h2
   split at h3
   · rename_i o e2 hr
     simp only [beq_iff_eq] at h3;subst h3
     simp only [aIndexAddr,hu,hr]
     rw [if_pos (by simp [h4,h0,h1])]
     rfl
   · cases h3
 · cases h2
def noughts (l:List UInt8):Prop:=∀ i,i < l.length→l.getD i 0=0
instance (l:List UInt8):Decidable (noughts l):=by unfold noughts;infer_instance
def gotD (p:List UInt8):Dt:=⟨getW p 7 8,getW p 15 4,getW p 19 2,p.getD 21 0,(p.drop 22).take 64⟩
def dataOk (no:Nat) (p:List UInt8):Prop:=opensF 1 no p∧noughts (p.drop 86)
noncomputable instance (no:Nat) (p:List UInt8):Decidable (dataOk no p):=by unfold dataOk;infer_instance
noncomputable def getDV (no:Nat) (p:List UInt8):V:=if dataOk no p then .tup [(gotD p).v,.int .i64 0] else .tup [Dt.z.v,.int .i64 2]
theorem gotD_ok {p:List UInt8} (hp:p.length=224):(gotD p).ok:=⟨getW_lt (by decide),getW_ltn p 15 4,getW_ltn p 19 2,by show ((p.drop 22).take 64).length=64;simp;omega⟩
section
variable {no:Nat} {p:List UInt8} {h:AH} {n1 n2 m:Nat}
abbrev dtP (n:Nat):V:=.ptr (some ⟨n,.one 83,[]⟩)
theorem bad135 (hno:¬ dataOk no p) (f2:∃ w,h.m n2=some (.cells true (.one 83) w)):bindV (still (aBuild Pg 83 []) h) (fun v11 h12=>bindV (aStoreV Pg h12 83 (dtP n2) v11) fun _ h14=>bindR (aRes Pg [(4,dtP n2),(5,.int .i64 2)] h14 R29) fun v=>(fun (e:AEnd) (_:AH)=>e=.ret (getDV no p)) (.ret v) h14):=by
 obtain ⟨w,f2⟩:=f2
 refine bindS_mk bDt ?_
 refine bindE (st_at (p:=[]) f2 (by kernel_rfl) rfl (shDt zOk) rfl) fun h1 u1=>?_
 have q1:=ld_mk (P:=Pg) (t:=83) (p:=[]) u1.at_ (by kernel_rfl) (w:=Dt.z.v) rfl
 simp only [aLoadV] at q1
 have q2:=(still_some q1).1
 refine bindR_mk (show aRes Pg _ _ R29=some [Dt.z.v,.int .i64 2] by simp [R29,aRes,Env.get,q2]) ?_
 rw [getDV,if_neg hno];rfl
theorem good135 (hp:p.length=224) (hok:dataOk no p) (o:n1 < h.next∧n2 < h.next) (f1:h.m n1=some (.cells true (.one 31) (.agg (bytesV p)))) (f2:∃ w,h.m n2=some (.cells true (.one 83) w)):Jz3p (fun e _=>e=.ret (getDV no p)) (paP n1) (dtP n2) h:=by
 obtain ⟨w,f2⟩:=f2
 rw [Jz3p_eq]
 have cv:=allStr f1 (by kernel_rfl)
 rw [hp] at cv
 have b4:=getW_ltn p 15 4
 have b2:=getW_ltn p 19 2
 refine bindS_mk (slB (n:=224) f1 (by kernel_rfl) (a:=0) (b:=224) rfl rfl (by omega) (by omega)) ?_
 refine bindS_mk cv ?_
 refine bindV_mk (ld_mk (p:=[]) f1 (by kernel_rfl) rfl) ?_
 refine callS (lsnP hp h) ?_
 refine bindS_mk (show aBuild Pg 83 [(0,.int .u64 (getW p 7 8:Nat))]=some (Dt.v ⟨getW p 7 8,0,0,0,zer 64⟩) by kernel_rfl) ?_
 refine bindE (al_at zDt (shDt zOk)) fun h1 u1=>?_
 have m1:=u1.next
 refine bindE (st_at (p:=[]) u1.at_ (by kernel_rfl) rfl (shDt (d:=⟨getW p 7 8,0,0,0,zer 64⟩) ⟨getW_lt (by decide),Nat.zero_lt_succ _,Nat.zero_lt_succ _,zer_len 64⟩) (v':=Dt.v ⟨getW p 7 8,0,0,0,zer 64⟩) rfl) fun h2 u2=>?_
 have m2:=u2.next
 refine callS (getP_ok (a:=15) (n:=4) (by omega) (by omega) (by omega) h2) ?_
 refine bindS_mk (show aExtract _ _=some _ from rfl) ?_
 refine bindS_mk (show aExtract _ _=some _ from rfl) ?_
 refine callS (getP_ok (a:=19) (n:=2) (by omega) (by omega) (by omega) h2) ?_
 refine bindS_mk (show aExtract _ _=some _ from rfl) ?_
 refine bindS_mk (show aExtract _ _=some _ from rfl) ?_
 refine bindS_mk (cv_wr (d:=32) (k:=.u32) (by kernel_rfl) (wr_u32 (by omega) (by omega))) ?_
 refine bindS_mk (fa_mk (by kernel_rfl)) ?_
 refine bindE (st_at u2.at_ (by kernel_rfl) (w:=.int .u32 0) rfl (by kernel_rfl) (v':=Dt.v ⟨getW p 7 8,getW p 15 4,0,0,zer 64⟩) rfl) fun h3 u3=>?_
 have m3:=u3.next
 refine bindS_mk (cv_wr (d:=27) (k:=.u16) (by kernel_rfl) (wr_u16 (by omega) (by omega))) ?_
 have f13:h3.m n1=some (.cells true (.one 31) (.agg (bytesV p))):=(u3.other _ (by omega)).trans ((u2.other _ (by omega)).trans ((u1.other _ (by omega)).trans f1))
 have f23:h3.m n2=some (.cells true (.one 83) w):=(u3.other _ (by omega)).trans ((u2.other _ (by omega)).trans ((u1.other _ (by omega)).trans f2))
 refine bindS_mk (show aIndexAddr Pg 31 (.ptr (some ⟨n1,.one 31,[]⟩)) (.int .i64 21)=some _ from ia_arr 224 5 (by kernel_rfl) (by omega) (by omega)) ?_
 refine bindV_mk (ld_mk f13 (by kernel_rfl) (bgetA (i:=21) (by omega))) ?_
 refine bindS_mk (show aBuild Pg 34 [(0,.int .u16 (getW p 19 2:Nat)),(1,.int .u8 ((p.getD 21 0).toNat:Nat))]=some (.agg [.int .u16 (getW p 19 2:Nat),.int .u8 ((p.getD 21 0).toNat:Nat)]) by kernel_rfl) ?_
 refine bindS_mk (fa_mk (by kernel_rfl)) ?_
 refine bindE (st_at u3.at_ (by kernel_rfl) (w:=.agg [.int .u16 0,.int .u8 0]) rfl (by kernel_rfl) (v':=Dt.v ⟨getW p 7 8,getW p 15 4,getW p 19 2,p.getD 21 0,zer 64⟩) rfl) fun h4 u4=>?_
 have m4:=u4.next
 refine bindSO_mk (fa_mk (by kernel_rfl)) ?_
 refine bindSO_mk (sl_arr (P:=Pg) 64 5 u4.at_ (by kernel_rfl) (l:=bytesV (zer 64)) rfl (a:=0) (b:=64) rfl rfl (by omega) (by omega)) ?_
 have f14:=(u4.other _ (by omega)).trans f13
 refine bindSO_mk (slB (n:=224) f14 (by kernel_rfl) (a:=22) (b:=224) rfl rfl (by omega) (by omega)) ?_
 have el:=elB (a:=22) (k:=224 - 22) f14 (by kernel_rfl) (by omega)
 have eb:(bytesV (zer 64)).take 0++(bytesV ((p.drop 22).take (224 - 22))).take (min (bytesV ((p.drop 22).take (224 - 22))).length (64 - 0))++(bytesV (zer 64)).drop (0 + min (bytesV ((p.drop 22).take (224 - 22))).length (64 - 0))=bytesV ((p.drop 22).take 64):=by
   have l1:(bytesV ((p.drop 22).take (224 - 22))).length=202:=by rw [bytesV_len];simp;omega
   have e2:(bytesV ((p.drop 22).take (224 - 22))).take (min 202 (64 - 0))=bytesV ((p.drop 22).take 64):=by rw [bytesV_take,List.take_take,show min (min 202 (64 - 0)) (224 - 22)=64 by decide]
   rw [l1,e2]
   simp [bytesV,zer]
 refine bindE (copy_at (P:=Pg) (t:=114) (xt:=114) (e:=5) (by kernel_rfl) (by kernel_rfl) (by kernel_rfl) u4.at_ (p:=[]++[3]) (l:=bytesV (zer 64)) rfl el (by rw [bytesV_len,zer_len];omega) (v':=(gotD p).v) (by rw [eb];rfl)) fun h5 u5=>?_
 have m5:=u5.next
 refine bindV_mk (ld_mk (p:=[]) u5.at_ (by kernel_rfl) (w:=(gotD p).v) rfl) ?_
 have f25:=(u5.other _ (by omega)).trans ((u4.other _ (by omega)).trans f23)
 refine bindE (st_at (p:=[]) f25 (by kernel_rfl) rfl (shDt (gotD_ok hp)) rfl) fun h6 u6=>?_
 have q1:=ld_mk (P:=Pg) (t:=83) (p:=[]) u6.at_ (by kernel_rfl) (w:=(gotD p).v) rfl
 simp only [aLoadV] at q1
 have q2:=(still_some q1).1
 refine bindR_mk (show aRes Pg _ _ R29=some [(gotD p).v,.int .i64 0] by simp [R29,aRes,Env.get,q2]) ?_
 rw [getDV,if_pos hok];rfl
theorem loop135 (hp:p.length=224) (hop:opensF 1 no p) (o:n1 < h.next∧n2 < h.next) (f1:h.m n1=some (.cells true (.one 31) (.agg (bytesV p)))) (f2:∃ w,h.m n2=some (.cells true (.one 83) w)):∀ (j i m:Nat),i + j=138→j < m→(∀ k,k < i→(p.drop 86).getD k 0=0)→Lz7b (fun e _=>e=.ret (getDV no p)) m (paP n1) (dtP n2) (.slc (some (⟨n1,.one 31,[]⟩,86)) 138) (.int .i64 138) (.int .i64 i) h
 | j,i,0,hij,hm,_=>by omega
 | 0,i,m + 1,hij,hm,hz=>by
   obtain rfl:i=138:=by omega
   rw [Lz7b_eq]
   refine bindS_mk b_lss ?_
   rw [decide_eq_false (by omega)]
   refine i_f ?_
   exact Meet.of (good135 hp ⟨hop,fun k hk=>hz k (by simp at hk;omega)⟩ o f1 f2)
 | j + 1,i,m + 1,hij,hm,hz=>by
   rw [Lz7b_eq]
   refine bindS_mk b_lss ?_
   rw [decide_eq_true (by omega)]
   refine i_t ?_
   refine Meet.of (cast_p (Jz3n_eq _ _ _ _ _ _ _ _) ?_)
   have hg:(p.drop 86).getD i 0=p.getD (86 + i) 0:=by simp only [List.getD_eq_getElem?_getD,List.getElem?_drop]
   refine bindS_mk (ia_slcA (e:=5) (by kernel_rfl) (by omega) (by omega)) ?_
   refine bindV_mk (ld_mk f1 (by kernel_rfl) (w:=.int .u8 ((p.getD (86 + i) 0).toNat:Nat)) (by
     rw [show 86 + ((i:Nat):Int).toNat=86 + i by omega]
     exact getV_row (by simp [bytesV,List.getElem?_eq_getElem (show 86 + i < p.length by omega)]))) ?_
   refine bindS_mk b_neq ?_
   refine i_split (fun q=>?_) (fun q=>?_)
   · replace q:=ne_of_bne q
     refine bad135 (fun w=>q ?_) f2
     have:=w.2 i (by simp;omega)
     rw [hg] at this
     rw [this];rfl
   · replace q:=eq_of_bne_false q
     refine Meet.of (cast_p (Jz3o_eq _ _ _ _ _ _ _ _) ?_)
     refine bindS_mk (w_add (wrap_i64 (by omega) (by omega))) ?_
     refine Meet.of (loop135 hp hop o f1 f2 j (i + 1) m (by omega) (by omega) fun k hk=>?_)
     by_cases e:k=i
     · subst e;rw [hg];exact UInt8.toNat_inj.1 (by show _=0;omega)
     · exact hz k (by omega)
end
theorem getDP {no:Nat} {p:List UInt8} (hp:p.length=224) (hno:no < 65536) (h:AH):ACalls Pg 29 [.int .u16 no,.agg (bytesV p)] h (pureE (getDV no p) h):=by
 refine pure_lift (by simp only [flatBs,flatB,flat_bytes,Bool.and_self]) (by unfold getDV;split <;> simp only [flatB,flatBs,flatDt,Bool.and_self]) ?_ h
 refine C29 _ _ _ _ ?_
 refine bindE (new_at (shPay hp)) fun h1 u1=>?_
 have n1:=u1.next
 refine bindE (al_at zDt (shDt zOk)) fun h2 u2=>?_
 have n2:=u2.next
 have f1:=(u2.other _ (by omega)).trans u1.at_
 refine bindV_mk (ld_mk (p:=[]) f1 (by kernel_rfl) rfl) ?_
 refine callS (opensP (kind:=1) hp hno h2) ?_
 refine bindS_mk u_not ?_
 by_cases hop:opensF 1 no p
 · rw [decide_eq_true hop]
   refine i_f ?_
   refine Meet.of (cast_p (Jz3m_eq _ _ _ _) ?_)
   refine bindS_mk (slB (n:=224) f1 (by kernel_rfl) (a:=86) (b:=224) rfl rfl (by omega) (by omega)) ?_
   refine bindV_mk (len_slc (by kernel_rfl)) ?_
   exact ⟨139,Meet.of (loop135 hp hop ⟨by omega,by omega⟩ f1 ⟨_,u2.at_⟩ 138 0 139 (by omega) (by omega) fun k hk=>by omega)⟩
 · rw [decide_eq_false hop]
   refine i_t ?_
   exact bad135 (fun w=>hop w.1) ⟨_,u2.at_⟩
end Go.Proofs.Ytdfgfbammkojoaa.Sh
namespace Go.Ab
open Go Go.RowKit
variable {P:Program}
theorem aEnd_ret {K X:V→AH→Prop} {v:V} {h:AH} (c:K v h):aEnd K X (.ret v) h:=c
theorem extract0 (a b:V):aExtract (.tup [a,b]) 0=some a:=rfl
theorem extract1 (a b:V):aExtract (.tup [a,b]) 1=some b:=rfl
theorem u_nt:aUn .not (.bool true)=some (.bool false):=rfl
theorem u_nf:aUn .not (.bool false)=some (.bool true):=rfl
theorem nil_p {a:PA} {h:AH}:aNil (.ptr (some a)) h=some (.ptr (some a),h):=rfl
theorem still_of {x:Option V} {v:V} {h:AH} (hx:x=some v):still x h=some (v,h):=by rw [hx];rfl
section
variable {K:V→AH→Prop} {KO:V→Prop} {h:AH} {t s d:TypeId} {k k0:IntKind} {a b n:Int} {c:Bool}
theorem fS_fa {n:Nat} {ty:BTy} {p:List Nat} {f:Nat} (hc:faOk P s ty p f=true) (q:K (.ptr (some ⟨n,ty,p++[f]⟩)) h):bindV (still (aFieldAddr P s (.ptr (some ⟨n,ty,p⟩)) f) h) K:=bindS_mk (fa_mk hc) q
theorem fO_fa {n:Nat} {ty:BTy} {p:List Nat} {f:Nat} (hc:faOk P s ty p f=true) (q:KO (.ptr (some ⟨n,ty,p++[f]⟩))):bindO (fstV (still (aFieldAddr P s (.ptr (some ⟨n,ty,p⟩)) f) h)) KO:=bindSO_mk (fa_mk hc) q
theorem fS_e0 {x y:V} (q:K x h):bindV (still (aExtract (.tup [x,y]) 0) h) K:=bindS_mk (extract0 x y) q
theorem fO_e0 {x y:V} (q:KO x):bindO (fstV (still (aExtract (.tup [x,y]) 0) h)) KO:=bindSO_mk (extract0 x y) q
theorem fS_e1 {x y:V} (q:K y h):bindV (still (aExtract (.tup [x,y]) 1) h) K:=bindS_mk (extract1 x y) q
theorem fO_e1 {x y:V} (q:KO y):bindO (fstV (still (aExtract (.tup [x,y]) 1) h)) KO:=bindSO_mk (extract1 x y) q
theorem fS_eql_t (hb:a=b) (q:K (.bool true) h):bindV (still (aBin P .eql t (.int k a) (.int k b) c) h) K:=bindS_mk (b_eql_t hb) q
theorem fS_eql_f (hb:¬ a=b) (q:K (.bool false) h):bindV (still (aBin P .eql t (.int k a) (.int k b) c) h) K:=bindS_mk (b_eql_f hb) q
theorem fS_neq_t (hb:¬ a=b) (q:K (.bool true) h):bindV (still (aBin P .neq t (.int k a) (.int k b) c) h) K:=bindS_mk (b_neq_t hb) q
theorem fS_neq_f (hb:a=b) (q:K (.bool false) h):bindV (still (aBin P .neq t (.int k a) (.int k b) c) h) K:=bindS_mk (b_neq_f hb) q
theorem fS_lss_t (hb:a < b) (q:K (.bool true) h):bindV (still (aBin P .lss t (.int k a) (.int k b) c) h) K:=bindS_mk (b_lss_t hb) q
theorem fO_lss_t (hb:a < b) (q:KO (.bool true)):bindO (fstV (still (aBin P .lss t (.int k a) (.int k b) c) h)) KO:=bindSO_mk (b_lss_t hb) q
theorem fS_lss_f (hb:¬ a < b) (q:K (.bool false) h):bindV (still (aBin P .lss t (.int k a) (.int k b) c) h) K:=bindS_mk (b_lss_f hb) q
theorem fO_lss_f (hb:¬ a < b) (q:KO (.bool false)):bindO (fstV (still (aBin P .lss t (.int k a) (.int k b) c) h)) KO:=bindSO_mk (b_lss_f hb) q
theorem fS_leq_t (hb:a≤b) (q:K (.bool true) h):bindV (still (aBin P .leq t (.int k a) (.int k b) c) h) K:=bindS_mk (b_leq_t hb) q
theorem fS_leq_f (hb:¬ a≤b) (q:K (.bool false) h):bindV (still (aBin P .leq t (.int k a) (.int k b) c) h) K:=bindS_mk (b_leq_f hb) q
theorem fS_gtr_t (hb:a > b) (q:K (.bool true) h):bindV (still (aBin P .gtr t (.int k a) (.int k b) c) h) K:=bindS_mk (b_gtr_t hb) q
theorem fO_gtr_t (hb:a > b) (q:KO (.bool true)):bindO (fstV (still (aBin P .gtr t (.int k a) (.int k b) c) h)) KO:=bindSO_mk (b_gtr_t hb) q
theorem fS_gtr_f (hb:¬ a > b) (q:K (.bool false) h):bindV (still (aBin P .gtr t (.int k a) (.int k b) c) h) K:=bindS_mk (b_gtr_f hb) q
theorem fO_gtr_f (hb:¬ a > b) (q:KO (.bool false)):bindO (fstV (still (aBin P .gtr t (.int k a) (.int k b) c) h)) KO:=bindSO_mk (b_gtr_f hb) q
theorem fS_geq_t (hb:a ≥ b) (q:K (.bool true) h):bindV (still (aBin P .geq t (.int k a) (.int k b) c) h) K:=bindS_mk (b_geq_t hb) q
theorem fS_geq_f (hb:¬ a ≥ b) (q:K (.bool false) h):bindV (still (aBin P .geq t (.int k a) (.int k b) c) h) K:=bindS_mk (b_geq_f hb) q
theorem fS_nt  (q:K (.bool false) h):bindV (still (aUn .not (.bool true)) h) K:=bindS_mk (u_nt) q
theorem fS_nf  (q:K (.bool true) h):bindV (still (aUn .not (.bool false)) h) K:=bindS_mk (u_nf) q
theorem fS_add_i64 (h1:-9223372036854775808≤a + b) (h2:a + b < 9223372036854775808) (q:K (.int .i64 (a + b)) h):bindV (still (aBin P .add t (.int .i64 a) (.int .i64 b) c) h) K:=bindS_mk (w_add (wrap_i64 h1 h2)) q
theorem fO_add_i64 (h1:-9223372036854775808≤a + b) (h2:a + b < 9223372036854775808) (q:KO (.int .i64 (a + b))):bindO (fstV (still (aBin P .add t (.int .i64 a) (.int .i64 b) c) h)) KO:=bindSO_mk (w_add (wrap_i64 h1 h2)) q
theorem fS_add_u64 (h1:0≤a + b) (h2:a + b < 18446744073709551616) (q:K (.int .u64 (a + b)) h):bindV (still (aBin P .add t (.int .u64 a) (.int .u64 b) c) h) K:=bindS_mk (w_add (wr_u64 h1 h2)) q
theorem fS_add_u32 (h1:0≤a + b) (h2:a + b < 4294967296) (q:K (.int .u32 (a + b)) h):bindV (still (aBin P .add t (.int .u32 a) (.int .u32 b) c) h) K:=bindS_mk (w_add (wr_u32 h1 h2)) q
theorem fS_sub_i64 (h1:-9223372036854775808≤a - b) (h2:a - b < 9223372036854775808) (q:K (.int .i64 (a - b)) h):bindV (still (aBin P .sub t (.int .i64 a) (.int .i64 b) c) h) K:=bindS_mk (w_sub (wrap_i64 h1 h2)) q
theorem fO_sub_i64 (h1:-9223372036854775808≤a - b) (h2:a - b < 9223372036854775808) (q:KO (.int .i64 (a - b))):bindO (fstV (still (aBin P .sub t (.int .i64 a) (.int .i64 b) c) h)) KO:=bindSO_mk (w_sub (wrap_i64 h1 h2)) q
theorem fO_quo (h0:0 < b) (h1:0≤a) (h2:a / b < 9223372036854775808) (q:KO (.int .i64 (a / b))):bindO (fstV (still (aBin P .quo t (.int .i64 a) (.int .i64 b) c) h)) KO:=bindSO_mk (w_quo h0 h1 (wrap_i64 (by have:=Int.ediv_nonneg h1 (Int.le_of_lt h0);omega) h2)) q
theorem fS_cv_i64 (hc:cvOk P s d .i64=true) (h1:-9223372036854775808≤n) (h2:n < 9223372036854775808) (q:K (.int .i64 n) h):bindV (still (aConv P h s d (.int k0 n)) h) K:=bindS_mk (cv_wr hc (wrap_i64 h1 h2)) q
theorem fO_cv_i64 (hc:cvOk P s d .i64=true) (h1:-9223372036854775808≤n) (h2:n < 9223372036854775808) (q:KO (.int .i64 n)):bindO (fstV (still (aConv P h s d (.int k0 n)) h)) KO:=bindSO_mk (cv_wr hc (wrap_i64 h1 h2)) q
theorem fS_cv_u64 (hc:cvOk P s d .u64=true) (h1:0≤n) (h2:n < 18446744073709551616) (q:K (.int .u64 n) h):bindV (still (aConv P h s d (.int k0 n)) h) K:=bindS_mk (cv_wr hc (wr_u64 h1 h2)) q
theorem fO_cv_u64 (hc:cvOk P s d .u64=true) (h1:0≤n) (h2:n < 18446744073709551616) (q:KO (.int .u64 n)):bindO (fstV (still (aConv P h s d (.int k0 n)) h)) KO:=bindSO_mk (cv_wr hc (wr_u64 h1 h2)) q
theorem fS_cv_u16 (hc:cvOk P s d .u16=true) (h1:0≤n) (h2:n < 65536) (q:K (.int .u16 n) h):bindV (still (aConv P h s d (.int k0 n)) h) K:=bindS_mk (cv_wr hc (wr_u16 h1 h2)) q
theorem fS_cv_u8 (hc:cvOk P s d .u8=true) (h1:0≤n) (h2:n < 256) (q:K (.int .u8 n) h):bindV (still (aConv P h s d (.int k0 n)) h) K:=bindS_mk (cv_wr hc (wr_u8 h1 h2)) q
theorem fO_cv_u8 (hc:cvOk P s d .u8=true) (h1:0≤n) (h2:n < 256) (q:KO (.int .u8 n)):bindO (fstV (still (aConv P h s d (.int k0 n)) h)) KO:=bindSO_mk (cv_wr hc (wr_u8 h1 h2)) q
theorem fV_ld {n:Nat} {ty:BTy} {p:List Nat} {b:Bool} {v w:V} (hm:h.m n=some (.cells b ty v)) (hc:ldOk P ty p t=true) (hg:getV v p=some w) (q:K w h):bindV (aLoadV P h t (.ptr (some ⟨n,ty,p⟩))) K:=bindV_mk (ld_mk hm hc hg) q
theorem fW_ld {n:Nat} {ty:BTy} {p:List Nat} {b:Bool} {v w:V} (hm:h.m n=some (.cells b ty v)) (hc:ldOk P ty p t=true) (hg:getV v p=some w) (q:KO w):bindO (fstV (aLoadV P h t (.ptr (some ⟨n,ty,p⟩)))) KO:=bindVO_mk (ld_mk hm hc hg) q
theorem fV_nil {x:PA} (q:K (.ptr (some x)) h):bindV (aNil (.ptr (some x)) h) K:=bindV_mk (nil_p) q
theorem fW_nil {x:PA} (q:KO (.ptr (some x))):bindO (fstV (aNil (.ptr (some x)) h)) KO:=bindVO_mk (nil_p) q
theorem fV_lenS {x:List UInt8} (hc:(match ul P t with | some .string=>true | _=>false)=true) (q:K (.int .i64 x.length) h):bindV (aBuiltin P h .len [t] [.str x]) K:=bindV_mk (len_str hc) q
theorem fW_lenS {x:List UInt8} (hc:(match ul P t with | some .string=>true | _=>false)=true) (q:KO (.int .i64 x.length)):bindO (fstV (aBuiltin P h .len [t] [.str x])) KO:=bindVO_mk (len_str hc) q
theorem fV_lenR {x:Option (PA × Nat)} {n:Nat} (hc:(match ul P t with | some (.slice _)=>true | _=>false)=true) (q:K (.int .i64 n) h):bindV (aBuiltin P h .len [t] [.slc x n]) K:=bindV_mk (len_slc hc) q
theorem fW_lenR {x:Option (PA × Nat)} {n:Nat} (hc:(match ul P t with | some (.slice _)=>true | _=>false)=true) (q:KO (.int .i64 n)):bindO (fstV (aBuiltin P h .len [t] [.slc x n])) KO:=bindVO_mk (len_slc hc) q
theorem fV_pt {x y:V} (q:K x h):bindV (aPick (.bool true) x y h) K:=bindV_mk p_t q
theorem fV_pf {x y:V} (q:K y h):bindV (aPick (.bool false) x y h) K:=bindV_mk p_f q
theorem fA_ld {Q:Prop} {n:Nat} {ty:BTy} {p:List Nat} {b:Bool} {v w:V} (hm:h.m n=some (.cells b ty v)) (hc:ldOk P ty p t=true) (hg:getV v p=some w) (q:Q):aLoadV P h t (.ptr (some ⟨n,ty,p⟩))=some (w,h)∧Q:=⟨ld_mk hm hc hg,q⟩
theorem fA_lenS {Q:Prop} {x:List UInt8} (hc:(match ul P t with | some .string=>true | _=>false)=true) (q:Q):aBuiltin P h .len [t] [.str x]=some (.int .i64 x.length,h)∧Q:=⟨len_str hc,q⟩
theorem fA_cv {Q:Prop} (hc:cvOk P s d .u64=true) (h1:0≤n) (h2:n < 18446744073709551616) (q:Q):still (aConv P h s d (.int k0 n)) h=some (.int .u64 n,h)∧Q:=⟨still_of (cv_wr hc (wr_u64 h1 h2)),q⟩
end
end Go.Ab
namespace Go.Proofs.Ytdfgfbammkojoaa.Sh
open Go Go.Ab Go.RowKit
open Go.Proofs.Ytdfgfbammkojoaa.Ru (Pg okP)
set_option maxRecDepth 10000
set_option linter.unusedSectionVars false
abbrev paB (n3:Nat):V:=.ptr (some ⟨n3,.one 31,[]⟩)
def pidV (u:Bool) (n:Nat):V:=.agg [.bool u,.int .u16 n]
theorem shPid (u:Bool) (n:Nat):hasShape Pg (pidV u n) 29=true:=by kernel_rfl
theorem rightDP {no:Nat} {p:List UInt8} (hp:p.length=224) (hno:no < 65536) (h:AH):ACalls Pg 39 [pidV false no,.agg (bytesV p)] h (pureE (.bool (decide (dataOk no p))) h):=by
 refine pure_lift (by simp only [pidV,flatBs,flatB,flat_bytes,Bool.and_self]) rfl ?_ h
 refine C39 _ _ _ _ ?_
 refine bindE (new_at (shPid false no)) fun h1 u1=>?_
 have n1:=u1.next
 refine bindE (new_at (shPay hp)) fun h2 u2=>?_
 have n2:=u2.next
 have f1:=(u2.other _ (by omega)).trans u1.at_
 refine bindS_mk (fa_mk (by kernel_rfl)) ?_
 refine bindV_mk (ld_mk f1 (by kernel_rfl) (w:=.bool false) rfl) ?_
 refine i_f ?_
 refine Meet.of (cast_p (Jz48_eq _ _ _ _) ?_)
 refine bindS_mk (fa_mk (by kernel_rfl)) ?_
 refine bindV_mk (ld_mk f1 (by kernel_rfl) (w:=.int .u16 no) rfl) ?_
 refine bindV_mk (ld_mk (p:=[]) u2.at_ (by kernel_rfl) rfl) ?_
 refine callS (getDP hp hno h2) ?_
 have fin:∀ (d:Dt) (e:Int),d.ok→(e == 0)=decide (dataOk no p)→getDV no p=.tup [d.v,.int .i64 e]→bindV (still (aExtract (getDV no p) 0) h2) fun v35 h36 =>
     bindV (still (aExtract (getDV no p) 1) h36) fun v37 h38=>bindV (aAlloc Pg h38 83) fun v39 h40=>bindV (aStoreV Pg h40 83 v39 v35) fun _ h42 =>
     bindV (still (aBin Pg .eql 39 v37 (V.int .i64 0) true) h42) fun v43 h44=>(fun (e:AEnd) (_:AH)=>e=.ret (.bool (decide (dataOk no p)))) (.ret v43) h44:=by
   intro d e od he hv
   rw [hv]
   refine bindS_mk (extract0 _ _) ?_
   refine bindS_mk (extract1 _ _) ?_
   refine bindE (al_at zDt (shDt zOk)) fun h3 u3=>?_
   refine bindE (st_at (p:=[]) u3.at_ (by kernel_rfl) rfl (shDt od) rfl) fun h4 u4=>?_
   refine bindS_mk b_eql ?_
   rw [he]
 by_cases c:dataOk no p
 · exact fin (gotD p) 0 (gotD_ok hp) (by rw [decide_eq_true c];rfl) (by rw [getDV,if_pos c])
 · exact fin Dt.z 2 zOk (by rw [decide_eq_false c];rfl) (by rw [getDV,if_neg c])
theorem blankDP {no:Nat} (hno:no < 65536) (h:AH):ACalls Pg 16 [pidV false no] h (pureE (.agg (bytesV (putD no Dt.z))) h):=by
 refine pure_lift (by simp only [pidV,flatBs,flatB,Bool.and_self]) (by simp only [flatB,flat_bytes]) ?_ h
 refine C16 _ _ _ ?_
 refine bindE (new_at (shPid false no)) fun h1 u1=>?_
 have n1:=u1.next
 refine bindE (al_at zPay (shPay (zer_len 224))) fun h2 u2=>?_
 have n2:=u2.next
 have f1:=(u2.other _ (by omega)).trans u1.at_
 refine bindS_mk (fa_mk (by kernel_rfl)) ?_
 refine bindV_mk (ld_mk f1 (by kernel_rfl) (w:=.bool false) rfl) ?_
 refine i_f ?_
 refine Meet.of (cast_p (Jz2r_eq _ _ _ _) ?_)
 refine bindS_mk (fa_mk (by kernel_rfl)) ?_
 refine bindV_mk (ld_mk f1 (by kernel_rfl) (w:=.int .u16 no) rfl) ?_
 refine bindS_mk bDt ?_
 refine callS (putDP hno zOk h2) ?_
 refine bindE (st_at (p:=[]) u2.at_ (by kernel_rfl) rfl (shPay (putD_len no (d:=Dt.z))) rfl) fun h3 u3=>?_
 have q1:=ld_mk (P:=Pg) (t:=31) (p:=[]) u3.at_ (by kernel_rfl) (w:=.agg (bytesV (putD no Dt.z))) rfl
 simp only [aLoadV] at q1
 have q2:=(still_some q1).1
 refine bindR_mk (show aRes Pg _ _ R16=some [.agg (bytesV (putD no Dt.z))] by simp [R16,aRes,Env.get,q2]) ?_
 rfl
end Go.Proofs.Ytdfgfbammkojoaa.Sh
namespace Go.Proofs.Ytdfgfbammkojoaa.Sh
open Go Go.Ab Go.RowKit
open Go.Proofs.Ytdfgfbammkojoaa.Ru (Pg okP)
set_option maxRecDepth 100000
noncomputable def B8:Code:=(Try.f8.body).getD .skip
def R8:List ResultVar:=[.tmp 2]
abbrev N8:Nat:=9
def K8:KT:=(.seq .leaf (.join (.seq .leaf (.two (.seq .leaf .leaf [2]) .leaf) [0,4]) (.seq .leaf .leaf [2]) [0]) [0])
def Jz74 (Q:AEnd→AH→Prop) (x0:V) (h:AH):Prop:=vcAt Pg N8 B8 K8 [1,1] [] (vcRet Pg R8 Q) [(0,x0)] h
theorem Jz74_eq (Q:AEnd→AH→Prop) (x0:V) (h:AH):Jz74 Q x0 h=(
 bindV (aNil x0 h) fun v3 h4 =>
 bindV (still (aFieldAddr Pg 89 v3 8) h4) fun v5 h6 =>
 bindV (aLoadV Pg h6 42 v5) fun v7 h8 =>
 Q (.ret v7) h8):=by kernel_rfl
theorem S8 (Q:AEnd→AH→Prop) (a0:V) (h:AH):vc Pg N8 B8 K8 (vcRet Pg R8 Q) (initEnv 0 [a0]) h=(
 bindV (still (aBin Pg .eql 43 a0 (V.ptr none) true) h) fun v1 h2 =>
 vcIf v1 (
 Q (.ret (V.int .u64 0)) h2) (
 Meet (Jz74 Q a0 h2))):=by kernel_rfl
theorem C8 (Q:AEnd→AH→Prop) (a0:V) (h:AH) (c :
 bindV (still (aBin Pg .eql 43 a0 (V.ptr none) true) h) fun v1 h2 =>
 vcIf v1 (
 Q (.ret (V.int .u64 0)) h2) (
 Meet (Jz74 Q a0 h2))):ACalls Pg 8 [a0] h Q :=
 acalls_of_vc okP Try.func8 (show Try.f8.body=some B8 from by kernel_rfl) K8 (by rw [← S8 Q a0 h] at c;exact c)
noncomputable def B12:Code:=(Try.f12.body).getD .skip
def R12:List ResultVar:=[.tmp 2]
abbrev N12:Nat:=30
def K12:KT:=(.seq .leaf (.join (.seq .leaf (.two (.seq .leaf .leaf [2]) .leaf) [0,5]) (.seq .leaf (.join (.seq .leaf (.two .leaf .leaf) [3,26]) (.seq .leaf .leaf [2]) [3]) [0,3]) [0]) [0])
def Jz2b (Q:AEnd→AH→Prop) (x3:V) (h:AH):Prop:=vcAt Pg N12 B12 K12 [1,1,1,1] [] (vcRet Pg R12 Q) [(3,x3)] h
def Jz2a (Q:AEnd→AH→Prop) (x0:V) (h:AH):Prop:=vcAt Pg N12 B12 K12 [1,1] [] (vcRet Pg R12 Q) [(0,x0)] h
theorem Jz2b_eq (Q:AEnd→AH→Prop) (x3:V) (h:AH):Jz2b Q x3 h=(
 Q (.ret x3) h):=by kernel_rfl
theorem Jz2a_eq (Q:AEnd→AH→Prop) (x0:V) (h:AH):Jz2a Q x0 h=(
 bindO (fstV (aNil x0 h)) fun v3 =>
 bindO (fstV (still (aFieldAddr Pg 89 v3 2) h)) fun v4 =>
 bindO (fstV (aLoadV Pg h 3 v4)) fun v5 =>
 bindO (fstV (aNil x0 h)) fun v6 =>
 bindO (fstV (still (aFieldAddr Pg 89 v6 4) h)) fun v7 =>
 bindO (fstV (aLoadV Pg h 86 v7)) fun v8 =>
 bindO (fstV (aBuiltin Pg h .len [86] [v8])) fun v9 =>
 bindO (fstV (still (aBin Pg .sub 3 v5 v9 false) h)) fun v10 =>
 bindO (fstV (aNil x0 h)) fun v11 =>
 bindO (fstV (still (aFieldAddr Pg 89 v11 5) h)) fun v12 =>
 bindO (fstV (aLoadV Pg h 87 v12)) fun v13 =>
 bindO (fstV (aBuiltin Pg h .len [87] [v13])) fun v14 =>
 bindO (fstV (still (aBin Pg .sub 3 v10 v14 false) h)) fun v15 =>
 bindV (aNil x0 h) fun v16 h17 =>
 bindV (still (aFieldAddr Pg 89 v16 6) h17) fun v18 h19 =>
 bindV (aLoadV Pg h19 9 v18) fun v20 h21 =>
 bindV (still (aBin Pg .neq 9 v20 (V.str []) true) h21) fun v22 h23 =>
 vcIf v22 (
 bindV (still (aBin Pg .sub 3 v15 (V.int .i64 1) true) h23) fun v24 h25 =>
 Meet (Jz2b Q v24 h25)) (
 Meet (Jz2b Q v15 h23))):=by kernel_rfl
theorem S12 (Q:AEnd→AH→Prop) (a0:V) (h:AH):vc Pg N12 B12 K12 (vcRet Pg R12 Q) (initEnv 0 [a0]) h=(
 bindV (still (aBin Pg .eql 43 a0 (V.ptr none) true) h) fun v1 h2 =>
 vcIf v1 (
 Q (.ret (V.int .i64 0)) h2) (
 Meet (Jz2a Q a0 h2))):=by kernel_rfl
theorem C12 (Q:AEnd→AH→Prop) (a0:V) (h:AH) (c :
 bindV (still (aBin Pg .eql 43 a0 (V.ptr none) true) h) fun v1 h2 =>
 vcIf v1 (
 Q (.ret (V.int .i64 0)) h2) (
 Meet (Jz2a Q a0 h2))):ACalls Pg 12 [a0] h Q :=
 acalls_of_vc okP Try.func12 (show Try.f12.body=some B12 from by kernel_rfl) K12 (by rw [← S12 Q a0 h] at c;exact c)
noncomputable def B26:Code:=(Try.f26.body).getD .skip
def R26:List ResultVar:=[.tmp 4,.tmp 5]
abbrev N26:Nat:=75
def K26:KT:=(.seq .leaf (.seq .leaf (.join (.join (.reg [[0,6,12,14]]) (.two (.seq .leaf .leaf [4,5]) .leaf) [0,6,15]) (.join (.seq .leaf (.two (.seq .leaf .leaf [4,5]) .leaf) [0,6,43]) (.seq .leaf (.seq .leaf (.seq .leaf (.join (.one (.loop (.join (.seq .leaf (.two .leaf .leaf) [0,7,71]) (.one .leaf) [0,7]) [0,7])) (.seq .leaf .leaf [4,5]) [7]) [0,7]) [0,6,7]) [0,6,7]) [0,6]) [0,6]) [0,6]) [0,1])
def Jz3h (Q:AEnd→AH→Prop) (n:Nat) (x0 x7:V) (h:AH):Prop:=vcAt Pg N26 B26 K26 [1,1,1,1,1,1,1,0,0,0,1] [n] (vcRet Pg R26 Q) [(0,x0),(7,x7)] h
def Jz3i (Q:AEnd→AH→Prop) (x7:V) (h:AH):Prop:=vcAt Pg N26 B26 K26 [1,1,1,1,1,1,1,1] [] (vcRet Pg R26 Q) [(7,x7)] h
def Lz7a (Q:AEnd→AH→Prop) (n:Nat) (x0 x7:V) (h:AH):Prop:=loopAt Pg N26 B26 K26 [1,1,1,1,1,1,1,0,0] [] n (vcRet Pg R26 Q) [(0,x0),(7,x7)] h
def Jz3g (Q:AEnd→AH→Prop) (x0 x6:V) (h:AH):Prop:=vcAt Pg N26 B26 K26 [1,1,1,1] [] (vcRet Pg R26 Q) [(0,x0),(6,x6)] h
def Jz3f (Q:AEnd→AH→Prop) (x0 x6:V) (h:AH):Prop:=vcAt Pg N26 B26 K26 [1,1,1] [] (vcRet Pg R26 Q) [(0,x0),(6,x6)] h
def Jz3e (Q:AEnd→AH→Prop) (x0 x6 x15:V) (h:AH):Prop:=vcAt Pg N26 B26 K26 [1,1,0,1] [] (vcRet Pg R26 Q) [(0,x0),(6,x6),(15,x15)] h
def Gze (Q:AEnd→AH→Prop) (x0 x6 x12 x14:V) (h:AH):Prop:=segAt Pg N26 B26 K26 [1,1,0,0] 2 1 [] (vcRet Pg R26 Q) [(0,x0),(6,x6),(12,x12),(14,x14)] h
theorem Jz3h_eq (Q:AEnd→AH→Prop) (n:Nat) (x0 x7:V) (h:AH):Jz3h Q n x0 x7 h=(
 ACalls Pg 58 [x0,(V.int .i64 214)] h (aEnd (fun v78 h79 =>
 Meet (Lz7a Q n x0 x7 h79)) fun v h=>Q (.panic v) h)):=by kernel_rfl
theorem Jz3i_eq (Q:AEnd→AH→Prop) (x7:V) (h:AH):Jz3i Q x7 h=(
 Q (.ret (V.tup [x7,(V.int .i64 0)])) h):=by kernel_rfl
theorem Lz7a_eq (Q:AEnd→AH→Prop) (n:Nat) (x0 x7:V) (h:AH):Lz7a Q (n + 1) x0 x7 h=(
 bindV (aNil x0 h) fun v68 h69 =>
 bindV (still (aFieldAddr Pg 89 v68 6) h69) fun v70 h71 =>
 bindV (aLoadV Pg h71 9 v70) fun v72 h73 =>
 bindV (aBuiltin Pg h73 .len [9] [v72]) fun v74 h75 =>
 bindV (still (aBin Pg .geq 3 v74 (V.int .i64 214) true) h75) fun v76 h77 =>
 vcIf v76 (
 Meet (Jz3h Q n x0 x7 h77)) (
 Meet (Jz3i Q x7 h77))):=by kernel_rfl
theorem Jz3g_eq (Q:AEnd→AH→Prop) (x0 x6:V) (h:AH):Jz3g Q x0 x6 h=(
 bindV (aNil x0 h) fun v30 h31 =>
 bindV (still (aFieldAddr Pg 89 v30 8) h31) fun v32 h33 =>
 bindV (aLoadV Pg h33 42 v32) fun v34 h35 =>
 bindV (aNil x0 h35) fun v36 h37 =>
 bindV (still (aFieldAddr Pg 89 v36 6) h37) fun v38 h39 =>
 bindV (aLoadV Pg h39 9 v38) fun v40 h41 =>
 bindV (still (aBin Pg .add 9 v40 x6 false) h41) fun v42 h43 =>
 bindV (aNil x0 h43) fun v44 h45 =>
 bindV (still (aFieldAddr Pg 89 v44 6) h45) fun v46 h47 =>
 bindV (aStoreV Pg h47 9 v46 v42) fun _ h49 =>
 bindV (aNil x0 h49) fun v50 h51 =>
 bindV (still (aFieldAddr Pg 89 v50 8) h51) fun v52 h53 =>
 bindV (aLoadV Pg h53 42 v52) fun v54 h55 =>
 bindV (aBuiltin Pg h55 .len [9] [x6]) fun v56 h57 =>
 bindV (still (aConv Pg h57 3 42 v56) h57) fun v58 h59 =>
 bindV (still (aBin Pg .add 42 v54 v58 false) h59) fun v60 h61 =>
 bindV (aNil x0 h61) fun v62 h63 =>
 bindV (still (aFieldAddr Pg 89 v62 8) h63) fun v64 h65 =>
 bindV (aStoreV Pg h65 42 v64 v60) fun _ h67 =>
 ∃ n,Meet (Lz7a Q n x0 v34 h67)):=by kernel_rfl
theorem Jz3f_eq (Q:AEnd→AH→Prop) (x0 x6:V) (h:AH):Jz3f Q x0 x6 h=(
 bindO (fstV (aNil x0 h)) fun v7 =>
 bindO (fstV (still (aFieldAddr Pg 89 v7 4) h)) fun v8 =>
 bindO (fstV (aLoadV Pg h 86 v8)) fun v9 =>
 bindO (fstV (aBuiltin Pg h .len [86] [v9])) fun v10 =>
 bindO (fstV (aNil x0 h)) fun v11 =>
 bindO (fstV (still (aFieldAddr Pg 89 v11 5) h)) fun v12 =>
 bindO (fstV (aLoadV Pg h 87 v12)) fun v13 =>
 bindO (fstV (aBuiltin Pg h .len [87] [v13])) fun v14 =>
 bindO (fstV (still (aBin Pg .add 3 v10 v14 false) h)) fun v15 =>
 bindO (fstV (aNil x0 h)) fun v16 =>
 bindO (fstV (still (aFieldAddr Pg 89 v16 6) h)) fun v17 =>
 bindO (fstV (aLoadV Pg h 9 v17)) fun v18 =>
 bindO (fstV (aBuiltin Pg h .len [9] [v18])) fun v19 =>
 bindO (fstV (aBuiltin Pg h .len [9] [x6])) fun v20 =>
 bindO (fstV (still (aBin Pg .add 3 v19 v20 false) h)) fun v21 =>
 bindO (fstV (still (aBin Pg .add 3 v21 (V.int .i64 214) true) h)) fun v22 =>
 bindO (fstV (still (aBin Pg .sub 3 v22 (V.int .i64 1) true) h)) fun v23 =>
 bindO (fstV (still (aBin Pg .quo 3 v23 (V.int .i64 214) true) h)) fun v24 =>
 bindO (fstV (still (aBin Pg .add 3 v15 v24 false) h)) fun v25 =>
 bindO (fstV (aNil x0 h)) fun v26 =>
 bindO (fstV (still (aFieldAddr Pg 89 v26 2) h)) fun v27 =>
 bindO (fstV (aLoadV Pg h 3 v27)) fun v28 =>
 bindO (fstV (still (aBin Pg .gtr 3 v25 v28 false) h)) fun v29 =>
 vcIf v29 (
 Q (.ret (V.tup [(V.int .u64 0),(V.int .i64 5)])) h) (
 Meet (Jz3g Q x0 x6 h))):=by kernel_rfl
theorem Jz3e_eq (Q:AEnd→AH→Prop) (x0 x6 x15:V) (h:AH):Jz3e Q x0 x6 x15 h=(
 vcIf x15 (
 Q (.ret (V.tup [(V.int .u64 0),(V.int .i64 1)])) h) (
 Meet (Jz3f Q x0 x6 h))):=by kernel_rfl
theorem Gze_eq (Q:AEnd→AH→Prop) (x0 x6 x12 x14:V) (h:AH):Gze Q x0 x6 x12 x14 h=(
 bindV (aPick x12 (V.bool true) x14 h) fun v5 h6 =>
 Meet (Jz3e Q x0 x6 v5 h6)):=by kernel_rfl
theorem S26 (Q:AEnd→AH→Prop) (a0 a1:V) (h:AH):vc Pg N26 B26 K26 (vcRet Pg R26 Q) (initEnv 0 [a0,a1]) h=(
 ACalls Pg 57 [a1] h (aEnd (fun v1 h2 =>
 bindV (still (aBin Pg .eql 9 v1 (V.str []) true) h2) fun v3 h4 =>
 vcG v3 false (
 bindV (still (aBin Pg .eql 43 a0 (V.ptr none) true) h4) fun v80 h81 =>
 Meet (Gze Q a0 v1 v3 v80 h81)) (Meet (Gze Q a0 v1 v3 hole h4))) fun v h=>Q (.panic v) h)):=by kernel_rfl
theorem C26 (Q:AEnd→AH→Prop) (a0 a1:V) (h:AH) (c :
 ACalls Pg 57 [a1] h (aEnd (fun v1 h2 =>
 bindV (still (aBin Pg .eql 9 v1 (V.str []) true) h2) fun v3 h4 =>
 vcG v3 false (
 bindV (still (aBin Pg .eql 43 a0 (V.ptr none) true) h4) fun v80 h81 =>
 Meet (Gze Q a0 v1 v3 v80 h81)) (Meet (Gze Q a0 v1 v3 hole h4))) fun v h=>Q (.panic v) h)):ACalls Pg 26 [a0,a1] h Q :=
 acalls_of_vc okP Try.func26 (show Try.f26.body=some B26 from by kernel_rfl) K26 (by rw [← S26 Q a0 a1 h] at c;exact c)
noncomputable def B47:Code:=(Try.f47.body).getD .skip
def R47:List ResultVar:=[.tmp 14]
abbrev N47:Nat:=72
def K47:KT:=(.seq .leaf (.join (.join (.reg [[0,1,2,3,4,5,6,23,27]]) (.two (.seq .leaf .leaf [14]) .leaf) [0,1,2,3,4,5,6,28]) (.seq .leaf (.join (.seq .leaf (.one (.loop (.seq .leaf (.join (.two .leaf .leaf) (.join (.one (.seq .leaf (.join (.join (.reg [[0,1,2,3,4,5,6,17,29,30,31,46,50],[0,1,2,3,4,5,6,17,29,30,31,52,56]]) (.two (.seq .leaf .leaf [14]) .leaf) [0,1,2,3,4,5,6,17,29,30,31,57]) .leaf [0,1,2,3,4,5,6,17,29,30,31]) [0,1,2,3,4,5,6,15,16,17,29,30,31])) .leaf [0,1,2,3,4,5,6,15,29,30,31]) [0,1,2,3,4,5,6,15,29,30,31]) [0,1,2,3,4,5,6,15,29,30,31,32]) [0,1,2,3,4,5,6,15,29,30,31])) [0,1,2,3,4,5,6,15,29,30,31]) (.seq .leaf .leaf [14]) [0,1,2,3,4,5,6]) [0,1,2,3,4,5,6,15]) [0,1,2,3,4,5,6]) [0,1,2,3,4,5,6])
def Jz58 (Q:AEnd→AH→Prop) (n:Nat) (x0 x1 x2 x3 x4 x5 x6 x15 x29 x30 x31:V) (h:AH):Prop:=vcAt Pg N47 B47 K47 [1,1,1,0,1,0,0,1,1] [n] (vcRet Pg R47 Q) [(0,x0),(1,x1),(2,x2),(3,x3),(4,x4),(5,x5),(6,x6),(15,x15),(29,x29),(30,x30),(31,x31)] h
def Jz59 (Q:AEnd→AH→Prop) (x0 x1 x2 x3 x4 x5 x6:V) (h:AH):Prop:=vcAt Pg N47 B47 K47 [1,1,1,1] [] (vcRet Pg R47 Q) [(0,x0),(1,x1),(2,x2),(3,x3),(4,x4),(5,x5),(6,x6)] h
def Lz7j (Q:AEnd→AH→Prop) (n:Nat) (x0 x1 x2 x3 x4 x5 x6 x15 x29 x30 x31:V) (h:AH):Prop:=loopAt Pg N47 B47 K47 [1,1,1,0,1,0] [] n (vcRet Pg R47 Q) [(0,x0),(1,x1),(2,x2),(3,x3),(4,x4),(5,x5),(6,x6),(15,x15),(29,x29),(30,x30),(31,x31)] h
def Jz57 (Q:AEnd→AH→Prop) (x0 x1 x2 x3 x4 x5 x6:V) (h:AH):Prop:=vcAt Pg N47 B47 K47 [1,1] [] (vcRet Pg R47 Q) [(0,x0),(1,x1),(2,x2),(3,x3),(4,x4),(5,x5),(6,x6)] h
def Jz56 (Q:AEnd→AH→Prop) (x0 x1 x2 x3 x4 x5 x6 x28:V) (h:AH):Prop:=vcAt Pg N47 B47 K47 [1,0,1] [] (vcRet Pg R47 Q) [(0,x0),(1,x1),(2,x2),(3,x3),(4,x4),(5,x5),(6,x6),(28,x28)] h
def Gz11 (Q:AEnd→AH→Prop) (x0 x1 x2 x3 x4 x5 x6 x23 x27:V) (h:AH):Prop:=segAt Pg N47 B47 K47 [1,0,0] 2 1 [] (vcRet Pg R47 Q) [(0,x0),(1,x1),(2,x2),(3,x3),(4,x4),(5,x5),(6,x6),(23,x23),(27,x27)] h
theorem Jz59_eq (Q:AEnd→AH→Prop) (x0 x1 x2 x3 x4 x5 x6:V) (h:AH):Jz59 Q x0 x1 x2 x3 x4 x5 x6 h=(
 bindV (aBuiltin Pg h .append [86,86] [(V.slc none 0),x4]) fun v55 h56 =>
 bindV (still (aBuild Pg 89 [(0,x0),(1,x1),(2,x2),(3,x3),(4,v55),(7,x5),(8,x6),(9,x6),(10,(V.bool true))]) h56) fun v57 h58 =>
 bindV (aNew Pg h58 89 v57) fun v59 h60 =>
 Q (.ret v59) h60):=by kernel_rfl
theorem Lz7j_eq (Q:AEnd→AH→Prop) (n:Nat) (x0 x1 x2 x3 x4 x5 x6 x15 x29 x30 x31:V) (h:AH):Lz7j Q (n + 1) x0 x1 x2 x3 x4 x5 x6 x15 x29 x30 x31 h=(
 bindV (still (aBin Pg .lss 3 x31 x30 false) h) fun v9 h10 =>
 vcIf v9 (
 Meet (Jz58 Q n x0 x1 x2 x3 x4 x5 x6 x15 x29 x30 x31 h10)) (
 Meet (Jz59 Q x0 x1 x2 x3 x4 x5 x6 h10))):=by kernel_rfl
theorem Jz57_eq (Q:AEnd→AH→Prop) (x0 x1 x2 x3 x4 x5 x6:V) (h:AH):Jz57 Q x0 x1 x2 x3 x4 x5 x6 h=(
 bindV (aBuiltin Pg h .len [86] [x4]) fun v7 h8 =>
 ∃ n,Meet (Lz7j Q n x0 x1 x2 x3 x4 x5 x6 (V.int .u64 0) x4 v7 (V.int .i64 0) h8)):=by kernel_rfl
theorem Jz56_eq (Q:AEnd→AH→Prop) (x0 x1 x2 x3 x4 x5 x6 x28:V) (h:AH):Jz56 Q x0 x1 x2 x3 x4 x5 x6 x28 h=(
 vcIf x28 (
 Q (.ret (V.ptr none)) h) (
 Meet (Jz57 Q x0 x1 x2 x3 x4 x5 x6 h))):=by kernel_rfl
theorem Gz11_eq (Q:AEnd→AH→Prop) (x0 x1 x2 x3 x4 x5 x6 x23 x27:V) (h:AH):Gz11 Q x0 x1 x2 x3 x4 x5 x6 x23 x27 h=(
 bindV (aPick x23 (V.bool true) x27 h) fun v5 h6 =>
 Meet (Jz56 Q x0 x1 x2 x3 x4 x5 x6 v5 h6)):=by kernel_rfl
theorem S47 (Q:AEnd→AH→Prop) (a0 a1 a2 a3 a4 a5 a6:V) (h:AH):vc Pg N47 B47 K47 (vcRet Pg R47 Q) (initEnv 0 [a0,a1,a2,a3,a4,a5,a6]) h=(
 ACalls Pg 70 [a0,a1,a2] h (aEnd (fun v1 h2 =>
 bindV (still (aUn .not v1) h2) fun v3 h4 =>
 vcG v3 false (
 bindV (aBuiltin Pg h4 .len [86] [a4]) fun v61 h62 =>
 bindV (still (aBin Pg .gtr 3 v61 a2 false) h62) fun v63 h64 =>
 Meet (Gz11 Q a0 a1 a2 a3 a4 a5 a6 v3 v63 h64)) (Meet (Gz11 Q a0 a1 a2 a3 a4 a5 a6 v3 hole h4))) fun v h=>Q (.panic v) h)):=by kernel_rfl
theorem C47 (Q:AEnd→AH→Prop) (a0 a1 a2 a3 a4 a5 a6:V) (h:AH) (c :
 ACalls Pg 70 [a0,a1,a2] h (aEnd (fun v1 h2 =>
 bindV (still (aUn .not v1) h2) fun v3 h4 =>
 vcG v3 false (
 bindV (aBuiltin Pg h4 .len [86] [a4]) fun v61 h62 =>
 bindV (still (aBin Pg .gtr 3 v61 a2 false) h62) fun v63 h64 =>
 Meet (Gz11 Q a0 a1 a2 a3 a4 a5 a6 v3 v63 h64)) (Meet (Gz11 Q a0 a1 a2 a3 a4 a5 a6 v3 hole h4))) fun v h=>Q (.panic v) h)):ACalls Pg 47 [a0,a1,a2,a3,a4,a5,a6] h Q :=
 acalls_of_vc okP Try.func47 (show Try.f47.body=some B47 from by kernel_rfl) K47 (by rw [← S47 Q a0 a1 a2 a3 a4 a5 a6 h] at c;exact c)
noncomputable def B58:Code:=(Try.f58.body).getD .skip
def R58:List ResultVar:=[]
abbrev N58:Nat:=57
def K58:KT:=(.seq (.eff [26,27]) (.seq (.eff [6,7,10]) (.seq .leaf .leaf [0]) [0,1]) [0,1,4])
theorem S58 (Q:AEnd→AH→Prop) (a0 a1:V) (h:AH):vc Pg N58 B58 K58 (vcRet Pg R58 Q) (initEnv 0 [a0,a1]) h=(
 bindO (fstV (aNil a0 h)) fun v1 =>
 bindO (fstV (still (aFieldAddr Pg 89 v1 3) h)) fun v2 =>
 bindO (fstV (aLoadV Pg h 32 v2)) fun v3 =>
 (
 bindO (fstV (aNil a0 h)) fun v4 =>
 bindO (fstV (still (aFieldAddr Pg 89 v4 7) h)) fun v5 =>
 bindO (fstV (aLoadV Pg h 32 v5)) fun v6 =>
 (
 bindO (fstV (aNil a0 h)) fun v7 =>
 bindO (fstV (still (aFieldAddr Pg 89 v7 8) h)) fun v8 =>
 bindO (fstV (aLoadV Pg h 42 v8)) fun v9 =>
 (
 bindO (fstV (aNil a0 h)) fun v10 =>
 bindO (fstV (still (aFieldAddr Pg 89 v10 6) h)) fun v11 =>
 bindO (fstV (aLoadV Pg h 9 v11)) fun v12 =>
 (
 bindO (fstV (aBuiltin Pg h .len [9] [v12])) fun v13 =>
 (
 bindO (fstV (still (aConv Pg h 3 42 v13) h)) fun v14 =>
 (
 bindO (fstV (still (aBin Pg .sub 42 v9 v14 false) h)) fun v15 =>
 bindO (fstV (aNil a0 h)) fun v16 =>
 bindO (fstV (still (aFieldAddr Pg 89 v16 6) h)) fun v17 =>
 bindO (fstV (aLoadV Pg h 9 v17)) fun v18 =>
 (
 bindO (fstV (still (aSlice Pg h 9 v18 none (some a1)) h)) fun v19 =>
 (
 bindO (fstV (still (aBuild Pg 172 [(0,v3),(1,v6),(2,v15),(3,v19)]) h)) fun v20 =>
 bindV (aAlloc Pg h 172) fun v21 h22=>(still (aSlice Pg h22 9 v18 none (some a1)) h22=some (v19,h22))∧(aLoadV Pg h22 9 v17=some (v18,h22))∧(still (aConv Pg h22 3 42 v13) h22=some (v14,h22))∧(aBuiltin Pg h22 .len [9] [v12]=some (v13,h22))∧(aLoadV Pg h22 9 v11=some (v12,h22))∧(aLoadV Pg h22 42 v8=some (v9,h22))∧(aLoadV Pg h22 32 v5=some (v6,h22))∧(aLoadV Pg h22 32 v2=some (v3,h22))∧(
 bindV (aStoreV Pg h22 172 v21 v20) fun _ h24=>(
 bindO (fstV (aNil a0 h24)) fun v25 =>
 bindO (fstV (still (aFieldAddr Pg 89 v25 5) h24)) fun v26 =>
 bindO (fstV (aLoadV Pg h24 87 v26)) fun v27 =>
 (
 bindO (fstV (aLoadV Pg h24 172 v21)) fun v28 =>
 (
 bindV (aBuildSlice Pg h24 87 1 [(0,v28)]) fun v29 h30=>(aLoadV Pg h30 87 v26=some (v27,h30))∧(
 bindV (aBuiltin Pg h30 .append [87,87] [v27,v29]) fun v31 h32=>(
 bindO (fstV (aNil a0 h32)) fun v33 =>
 bindO (fstV (still (aFieldAddr Pg 89 v33 5) h32)) fun v34 =>
 bindV (aStoreV Pg h32 87 v34 v31) fun _ h36=>(
 bindV (aNil a0 h36) fun v37 h38 =>
 bindV (still (aFieldAddr Pg 89 v37 6) h38) fun v39 h40 =>
 bindV (aLoadV Pg h40 9 v39) fun v41 h42 =>
 bindV (still (aSlice Pg h42 9 v41 (some a1) none) h42) fun v43 h44 =>
 bindV (aNil a0 h44) fun v45 h46 =>
 bindV (still (aFieldAddr Pg 89 v45 6) h46) fun v47 h48 =>
 bindV (aStoreV Pg h48 9 v47 v43) fun _ h50 =>
 bindV (aNil a0 h50) fun v51 h52 =>
 bindV (still (aFieldAddr Pg 89 v51 7) h52) fun v53 h54 =>
 bindV (aLoadV Pg h54 32 v53) fun v55 h56 =>
 bindV (still (aBin Pg .add 32 v55 (V.int .u32 1) true) h56) fun v57 h58 =>
 bindV (aNil a0 h58) fun v59 h60 =>
 bindV (still (aFieldAddr Pg 89 v59 7) h60) fun v61 h62 =>
 bindV (aStoreV Pg h62 32 v61 v57) fun _ h64 =>
 Q (.ret (V.tup [])) h64)))))))))))))))):=by kernel_rfl
theorem C58 (Q:AEnd→AH→Prop) (a0 a1:V) (h:AH) (c :
 bindO (fstV (aNil a0 h)) fun v1 =>
 bindO (fstV (still (aFieldAddr Pg 89 v1 3) h)) fun v2 =>
 bindO (fstV (aLoadV Pg h 32 v2)) fun v3 =>
 (
 bindO (fstV (aNil a0 h)) fun v4 =>
 bindO (fstV (still (aFieldAddr Pg 89 v4 7) h)) fun v5 =>
 bindO (fstV (aLoadV Pg h 32 v5)) fun v6 =>
 (
 bindO (fstV (aNil a0 h)) fun v7 =>
 bindO (fstV (still (aFieldAddr Pg 89 v7 8) h)) fun v8 =>
 bindO (fstV (aLoadV Pg h 42 v8)) fun v9 =>
 (
 bindO (fstV (aNil a0 h)) fun v10 =>
 bindO (fstV (still (aFieldAddr Pg 89 v10 6) h)) fun v11 =>
 bindO (fstV (aLoadV Pg h 9 v11)) fun v12 =>
 (
 bindO (fstV (aBuiltin Pg h .len [9] [v12])) fun v13 =>
 (
 bindO (fstV (still (aConv Pg h 3 42 v13) h)) fun v14 =>
 (
 bindO (fstV (still (aBin Pg .sub 42 v9 v14 false) h)) fun v15 =>
 bindO (fstV (aNil a0 h)) fun v16 =>
 bindO (fstV (still (aFieldAddr Pg 89 v16 6) h)) fun v17 =>
 bindO (fstV (aLoadV Pg h 9 v17)) fun v18 =>
 (
 bindO (fstV (still (aSlice Pg h 9 v18 none (some a1)) h)) fun v19 =>
 (
 bindO (fstV (still (aBuild Pg 172 [(0,v3),(1,v6),(2,v15),(3,v19)]) h)) fun v20 =>
 bindV (aAlloc Pg h 172) fun v21 h22=>(still (aSlice Pg h22 9 v18 none (some a1)) h22=some (v19,h22))∧(aLoadV Pg h22 9 v17=some (v18,h22))∧(still (aConv Pg h22 3 42 v13) h22=some (v14,h22))∧(aBuiltin Pg h22 .len [9] [v12]=some (v13,h22))∧(aLoadV Pg h22 9 v11=some (v12,h22))∧(aLoadV Pg h22 42 v8=some (v9,h22))∧(aLoadV Pg h22 32 v5=some (v6,h22))∧(aLoadV Pg h22 32 v2=some (v3,h22))∧(
 bindV (aStoreV Pg h22 172 v21 v20) fun _ h24=>(
 bindO (fstV (aNil a0 h24)) fun v25 =>
 bindO (fstV (still (aFieldAddr Pg 89 v25 5) h24)) fun v26 =>
 bindO (fstV (aLoadV Pg h24 87 v26)) fun v27 =>
 (
 bindO (fstV (aLoadV Pg h24 172 v21)) fun v28 =>
 (
 bindV (aBuildSlice Pg h24 87 1 [(0,v28)]) fun v29 h30=>(aLoadV Pg h30 87 v26=some (v27,h30))∧(
 bindV (aBuiltin Pg h30 .append [87,87] [v27,v29]) fun v31 h32=>(
 bindO (fstV (aNil a0 h32)) fun v33 =>
 bindO (fstV (still (aFieldAddr Pg 89 v33 5) h32)) fun v34 =>
 bindV (aStoreV Pg h32 87 v34 v31) fun _ h36=>(
 bindV (aNil a0 h36) fun v37 h38 =>
 bindV (still (aFieldAddr Pg 89 v37 6) h38) fun v39 h40 =>
 bindV (aLoadV Pg h40 9 v39) fun v41 h42 =>
 bindV (still (aSlice Pg h42 9 v41 (some a1) none) h42) fun v43 h44 =>
 bindV (aNil a0 h44) fun v45 h46 =>
 bindV (still (aFieldAddr Pg 89 v45 6) h46) fun v47 h48 =>
 bindV (aStoreV Pg h48 9 v47 v43) fun _ h50 =>
 bindV (aNil a0 h50) fun v51 h52 =>
 bindV (still (aFieldAddr Pg 89 v51 7) h52) fun v53 h54 =>
 bindV (aLoadV Pg h54 32 v53) fun v55 h56 =>
 bindV (still (aBin Pg .add 32 v55 (V.int .u32 1) true) h56) fun v57 h58 =>
 bindV (aNil a0 h58) fun v59 h60 =>
 bindV (still (aFieldAddr Pg 89 v59 7) h60) fun v61 h62 =>
 bindV (aStoreV Pg h62 32 v61 v57) fun _ h64 =>
 Q (.ret (V.tup [])) h64)))))))))))))))):ACalls Pg 58 [a0,a1] h Q :=
 acalls_of_vc okP Try.func58 (show Try.f58.body=some B58 from by kernel_rfl) K58 (by rw [← S58 Q a0 a1 h] at c;exact c)
noncomputable def B70:Code:=(Try.f70.body).getD .skip
def R70:List ResultVar:=[.tmp 6]
abbrev N70:Nat:=31
def K70:KT:=(.seq .leaf (.join (.reg [[0,1,2,9,11],[0,1,2,13,15],[0,1,2,17,21],[23,29]]) .leaf [6]) [0,1,2])
def Jz6k (Q:AEnd→AH→Prop) (x6:V) (h:AH):Prop:=vcAt Pg N70 B70 K70 [1,1] [] (vcRet Pg R70 Q) [(6,x6)] h
def Gz1w (Q:AEnd→AH→Prop) (x23 x29:V) (h:AH):Prop:=segAt Pg N70 B70 K70 [1,0] 8 4 [] (vcRet Pg R70 Q) [(23,x23),(29,x29)] h
def Gz1v (Q:AEnd→AH→Prop) (x0 x1 x2 x17 x21:V) (h:AH):Prop:=segAt Pg N70 B70 K70 [1,0] 6 3 [] (vcRet Pg R70 Q) [(0,x0),(1,x1),(2,x2),(17,x17),(21,x21)] h
def Gz1u (Q:AEnd→AH→Prop) (x0 x1 x2 x13 x15:V) (h:AH):Prop:=segAt Pg N70 B70 K70 [1,0] 4 2 [] (vcRet Pg R70 Q) [(0,x0),(1,x1),(2,x2),(13,x13),(15,x15)] h
def Gz1t (Q:AEnd→AH→Prop) (x0 x1 x2 x9 x11:V) (h:AH):Prop:=segAt Pg N70 B70 K70 [1,0] 2 1 [] (vcRet Pg R70 Q) [(0,x0),(1,x1),(2,x2),(9,x9),(11,x11)] h
theorem Jz6k_eq (Q:AEnd→AH→Prop) (x6:V) (h:AH):Jz6k Q x6 h=(
 Q (.ret x6) h):=by kernel_rfl
theorem Gz1w_eq (Q:AEnd→AH→Prop) (x23 x29:V) (h:AH):Gz1w Q x23 x29 h=(
 bindV (aPick x23 x29 (V.bool false) h) fun v9 h10 =>
 Meet (Jz6k Q v9 h10)):=by kernel_rfl
theorem Gz1v_eq (Q:AEnd→AH→Prop) (x0 x1 x2 x17 x21:V) (h:AH):Gz1v Q x0 x1 x2 x17 x21 h=(
 bindV (aPick x17 x21 (V.bool false) h) fun v7 h8 =>
 vcG v7 true (
 ACalls Pg 71 [x0] h8 (aEnd (fun v11 h12 =>
 bindV (still (aBin Pg .sub 3 v11 x2 false) h12) fun v13 h14 =>
 bindV (still (aBin Pg .leq 3 x1 v13 false) h14) fun v15 h16 =>
 Meet (Gz1w Q v7 v15 h16)) fun v h=>Q (.panic v) h)) (Meet (Gz1w Q v7 hole h8))):=by kernel_rfl
theorem Gz1u_eq (Q:AEnd→AH→Prop) (x0 x1 x2 x13 x15:V) (h:AH):Gz1u Q x0 x1 x2 x13 x15 h=(
 bindV (aPick x13 x15 (V.bool false) h) fun v5 h6 =>
 vcG v5 true (
 ACalls Pg 71 [x0] h6 (aEnd (fun v17 h18 =>
 bindV (still (aBin Pg .leq 3 x2 v17 false) h18) fun v19 h20 =>
 Meet (Gz1v Q x0 x1 x2 v5 v19 h20)) fun v h=>Q (.panic v) h)) (Meet (Gz1v Q x0 x1 x2 v5 hole h6))):=by kernel_rfl
theorem Gz1t_eq (Q:AEnd→AH→Prop) (x0 x1 x2 x9 x11:V) (h:AH):Gz1t Q x0 x1 x2 x9 x11 h=(
 bindV (aPick x9 x11 (V.bool false) h) fun v3 h4 =>
 vcG v3 true (
 bindV (still (aBin Pg .geq 3 x2 (V.int .i64 1) true) h4) fun v21 h22 =>
 Meet (Gz1u Q x0 x1 x2 v3 v21 h22)) (Meet (Gz1u Q x0 x1 x2 v3 hole h4))):=by kernel_rfl
theorem S70 (Q:AEnd→AH→Prop) (a0 a1 a2:V) (h:AH):vc Pg N70 B70 K70 (vcRet Pg R70 Q) (initEnv 0 [a0,a1,a2]) h=(
 bindV (still (aBin Pg .neq 23 a0 (V.ptr none) true) h) fun v1 h2 =>
 vcG v1 true (
 bindV (still (aBin Pg .geq 3 a1 (V.int .i64 0) true) h2) fun v23 h24 =>
 Meet (Gz1t Q a0 a1 a2 v1 v23 h24)) (Meet (Gz1t Q a0 a1 a2 v1 hole h2))):=by kernel_rfl
theorem C70 (Q:AEnd→AH→Prop) (a0 a1 a2:V) (h:AH) (c :
 bindV (still (aBin Pg .neq 23 a0 (V.ptr none) true) h) fun v1 h2 =>
 vcG v1 true (
 bindV (still (aBin Pg .geq 3 a1 (V.int .i64 0) true) h2) fun v23 h24 =>
 Meet (Gz1t Q a0 a1 a2 v1 v23 h24)) (Meet (Gz1t Q a0 a1 a2 v1 hole h2))):ACalls Pg 70 [a0,a1,a2] h Q :=
 acalls_of_vc okP Try.func70 (show Try.f70.body=some B70 from by kernel_rfl) K70 (by rw [← S70 Q a0 a1 a2 h] at c;exact c)
end Go.Proofs.Ytdfgfbammkojoaa.Sh
