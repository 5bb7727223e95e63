import Derived.Test.YtdfgfbammkojoaaF13
import Derived.Test.YtdfgfbammkojoaaF14
set_option linter.unusedVariables false
set_option linter.unusedSimpArgs false
namespace Go.Proofs.Ytdfgfbammkojoaa.Sh
open Go Go.Ab Go.RowKit
open Go.Proofs.Ytdfgfbammkojoaa.Ru (Pg okP)
set_option maxRecDepth 100000
noncomputable def B21:Code:=(Try.f21.body).getD .skip
def R21:List ResultVar:=[.tmp 2]
abbrev N21:Nat:=30
def K21:KT:=(.seq .leaf (.join (.reg [[1,6,9],[1,11,15],[1,17,21],[23,28]]) .leaf [2]) [1])
def Jz2x (Q:AEnd→AH→Prop) (x2:V) (h:AH):Prop:=vcAt Pg N21 B21 K21 [1,1] [] (vcRet Pg R21 Q) [(2,x2)] h
def Gz8 (Q:AEnd→AH→Prop) (x23 x28:V) (h:AH):Prop:=segAtD Pg N21 B21 K21 [1,0] 8 4 26 [] (vcRet Pg R21 Q) [(23,x23),(28,x28)] h
def Gz7 (Q:AEnd→AH→Prop) (x1 x17 x21:V) (h:AH):Prop:=segAtD Pg N21 B21 K21 [1,0] 6 3 19 [] (vcRet Pg R21 Q) [(1,x1),(17,x17),(21,x21)] h
def Gz6 (Q:AEnd→AH→Prop) (x1 x11 x15:V) (h:AH):Prop:=segAtD Pg N21 B21 K21 [1,0] 4 2 13 [] (vcRet Pg R21 Q) [(1,x1),(11,x11),(15,x15)] h
def Gz5 (Q:AEnd→AH→Prop) (x1 x6 x9:V) (h:AH):Prop:=segAtD Pg N21 B21 K21 [1,0] 2 1 7 [] (vcRet Pg R21 Q) [(1,x1),(6,x6),(9,x9)] h
theorem Jz2x_eq (Q:AEnd→AH→Prop) (x2:V) (h:AH):Jz2x Q x2 h=(
 Q (.ret x2) h):=by kernel_rfl
theorem Gz8_eq (Q:AEnd→AH→Prop) (x23 x28:V) (h:AH):Gz8 Q x23 x28 h=(
 bindO (fstV (aPick x23 x28 (V.bool false) h)) fun v9 =>
 Meet (Jz2x Q v9 h)):=by kernel_rfl
theorem Gz7_eq (Q:AEnd→AH→Prop) (x1 x17 x21:V) (h:AH):Gz7 Q x1 x17 x21 h=(
 bindO (fstV (aPick x17 x21 (V.bool false) h)) fun v8 =>
 vcG v8 true (
 bindO (fstV (still (aFieldAddr Pg 38 x1 7) h)) fun v10 =>
 bindO (fstV (still (aFieldAddr Pg 36 v10 4) h)) fun v11 =>
 bindO (fstV (aLoadV Pg h 9 v11)) fun v12 =>
 bindO (fstV (aBuiltin Pg h .len [9] [v12])) fun v13 =>
 bindO (fstV (still (aBin Pg .leq 3 v13 (V.int .i64 66) true) h)) fun v14 =>
 Meet (Gz8 Q v8 v14 h)) (Meet (Gz8 Q v8 hole h))):=by kernel_rfl
theorem Gz6_eq (Q:AEnd→AH→Prop) (x1 x11 x15:V) (h:AH):Gz6 Q x1 x11 x15 h=(
 bindO (fstV (aPick x11 x15 (V.bool false) h)) fun v7 =>
 vcG v7 true (
 bindO (fstV (still (aFieldAddr Pg 38 x1 5) h)) fun v15 =>
 bindO (fstV (aLoadV Pg h 9 v15)) fun v16 =>
 bindO (fstV (aBuiltin Pg h .len [9] [v16])) fun v17 =>
 bindO (fstV (still (aBin Pg .leq 3 v17 (V.int .i64 66) true) h)) fun v18 =>
 Meet (Gz7 Q x1 v7 v18 h)) (Meet (Gz7 Q x1 v7 hole h))):=by kernel_rfl
theorem Gz5_eq (Q:AEnd→AH→Prop) (x1 x6 x9:V) (h:AH):Gz5 Q x1 x6 x9 h=(
 bindO (fstV (aPick x6 x9 (V.bool false) h)) fun v6 =>
 vcG v6 true (
 bindO (fstV (aLoadV Pg h 38 x1)) fun v19 =>
 ∃ v20,ACalls Pg 50 [v19] h (pureE v20 h)∧(
 bindO (fstV (aLoadV Pg h 38 x1)) fun v21 =>
 bindO (fstV (still (aBin Pg .eql 38 v20 v21 false) h)) fun v22 =>
 Meet (Gz6 Q x1 v6 v22 h))) (Meet (Gz6 Q x1 v6 hole h))):=by kernel_rfl
theorem S21 (Q:AEnd→AH→Prop) (a0:V) (h:AH):vc Pg N21 B21 K21 (vcRet Pg R21 Q) (initEnv 0 [a0]) h=(
 bindV (aNew Pg h 38 a0) fun v1 h2 =>
 bindO (fstV (still (aFieldAddr Pg 38 v1 0) h2)) fun v3 =>
 bindO (fstV (aLoadV Pg h2 5 v3)) fun v4 =>
 bindO (fstV (still (aBin Pg .geq 5 v4 (V.int .u8 1) true) h2)) fun v5 =>
 vcG v5 true (
 bindO (fstV (still (aFieldAddr Pg 38 v1 0) h2)) fun v23 =>
 bindO (fstV (aLoadV Pg h2 5 v23)) fun v24 =>
 bindO (fstV (still (aBin Pg .leq 5 v24 (V.int .u8 6) true) h2)) fun v25 =>
 Meet (Gz5 Q v1 v5 v25 h2)) (Meet (Gz5 Q v1 v5 hole h2))):=by kernel_rfl
theorem C21 (Q:AEnd→AH→Prop) (a0:V) (h:AH) (c :
 bindV (aNew Pg h 38 a0) fun v1 h2 =>
 bindO (fstV (still (aFieldAddr Pg 38 v1 0) h2)) fun v3 =>
 bindO (fstV (aLoadV Pg h2 5 v3)) fun v4 =>
 bindO (fstV (still (aBin Pg .geq 5 v4 (V.int .u8 1) true) h2)) fun v5 =>
 vcG v5 true (
 bindO (fstV (still (aFieldAddr Pg 38 v1 0) h2)) fun v23 =>
 bindO (fstV (aLoadV Pg h2 5 v23)) fun v24 =>
 bindO (fstV (still (aBin Pg .leq 5 v24 (V.int .u8 6) true) h2)) fun v25 =>
 Meet (Gz5 Q v1 v5 v25 h2)) (Meet (Gz5 Q v1 v5 hole h2))):ACalls Pg 21 [a0] h Q :=
 acalls_of_vc okP Try.func21 (show Try.f21.body=some B21 from by kernel_rfl) K21 (by rw [← S21 Q a0 h] at c;exact c)
noncomputable def B25:Code:=(Try.f25.body).getD .skip
def R25:List ResultVar:=[.tmp 2,.tmp 3]
abbrev N25:Nat:=115
def K25:KT:=(.seq .leaf (.join (.seq .leaf (.two (.seq .leaf .leaf [2,3]) .leaf) [1,11]) (.seq .leaf (.seq .leaf (.seq .leaf (.join (.seq .leaf (.one (.seq .leaf (.two (.seq .leaf (.join (.one (.loop (.join (.join (.reg [[1,4,5,7,31,37]]) (.two .leaf .leaf) [1,4,5,7,38]) (.one .leaf) [1,4,5,7]) [1,4,5,7])) (.seq .leaf (.join (.seq .leaf (.two .leaf .leaf) [1,4,5,7,8,43]) (.seq .leaf .leaf [2,3]) [1,4,5,7,8]) [1,4,5,7,8]) [1,4,5,7]) [1,4,5,7]) (.seq .leaf (.two (.seq .leaf .leaf [2,3]) (.seq .leaf (.two (.seq .leaf .leaf [2,3]) (.seq .leaf (.two (.seq .leaf .leaf [2,3]) .leaf) [1,4,5,6,102])) [1,4,5,6,26,70])) [1,4,5,6,26,55])) [1,4,5,6,26,27])) [1,4,5,6,26]) (.seq .leaf .leaf [2,3]) [1,4,5]) [1,4,5,6]) [1,4,5]) [1,4]) [1]) [1])
def Jz3a (Q:AEnd→AH→Prop) (n:Nat) (x1 x4 x5 x7:V) (h:AH):Prop:=vcAt Pg N25 B25 K25 [1,1,1,1,1,0,1,0,1,0,1,0,0,0,1] [n] (vcRet Pg R25 Q) [(1,x1),(4,x4),(5,x5),(7,x7)] h
def Jz3c (Q:AEnd→AH→Prop) (x1 x4 x5 x7 x8:V) (h:AH):Prop:=vcAt Pg N25 B25 K25 [1,1,1,1,1,0,1,0,1,0,1,1,1,1] [] (vcRet Pg R25 Q) [(1,x1),(4,x4),(5,x5),(7,x7),(8,x8)] h
def Jz3b (Q:AEnd→AH→Prop) (x1 x4 x5 x7:V) (h:AH):Prop:=vcAt Pg N25 B25 K25 [1,1,1,1,1,0,1,0,1,0,1,1] [] (vcRet Pg R25 Q) [(1,x1),(4,x4),(5,x5),(7,x7)] h
def Jz39 (Q:AEnd→AH→Prop) (n:Nat) (x1 x4 x5 x7 x38:V) (h:AH):Prop:=vcAt Pg N25 B25 K25 [1,1,1,1,1,0,1,0,1,0,1,0,0,0,0,1] [n] (vcRet Pg R25 Q) [(1,x1),(4,x4),(5,x5),(7,x7),(38,x38)] h
def Gzd (Q:AEnd→AH→Prop) (n:Nat) (x1 x4 x5 x7 x31 x37:V) (h:AH):Prop:=segAt Pg N25 B25 K25 [1,1,1,1,1,0,1,0,1,0,1,0,0,0,0,0] 2 1 [n] (vcRet Pg R25 Q) [(1,x1),(4,x4),(5,x5),(7,x7),(31,x31),(37,x37)] h
def Lz79 (Q:AEnd→AH→Prop) (n:Nat) (x1 x4 x5 x7:V) (h:AH):Prop:=loopAt Pg N25 B25 K25 [1,1,1,1,1,0,1,0,1,0,1,0,0] [] n (vcRet Pg R25 Q) [(1,x1),(4,x4),(5,x5),(7,x7)] h
def Jz3d (Q:AEnd→AH→Prop) (x1 x4 x5:V) (h:AH):Prop:=vcAt Pg N25 B25 K25 [1,1,1,1,1,1] [] (vcRet Pg R25 Q) [(1,x1),(4,x4),(5,x5)] h
def Jz38 (Q:AEnd→AH→Prop) (x1:V) (h:AH):Prop:=vcAt Pg N25 B25 K25 [1,1] [] (vcRet Pg R25 Q) [(1,x1)] h
theorem Jz3a_eq (Q:AEnd→AH→Prop) (n:Nat) (x1 x4 x5 x7:V) (h:AH):Jz3a Q n x1 x4 x5 x7 h=(
 bindV (still (aBin Pg .sub 3 x7 (V.int .i64 1) true) h) fun v45 h46 =>
 Meet (Lz79 Q n x1 x4 x5 v45 h46)):=by kernel_rfl
theorem Jz3c_eq (Q:AEnd→AH→Prop) (x1 x4 x5 x7 x8:V) (h:AH):Jz3c Q x1 x4 x5 x7 x8 h=(
 bindV (still (aBin Pg .add 9 x4 x8 false) h) fun v53 h54 =>
 bindV (still (aBin Pg .add 9 v53 x5 false) h54) fun v55 h56 =>
 bindV (still (aFieldAddr Pg 38 x1 2) h56) fun v57 h58 =>
 bindV (still (aSlice Pg h58 31 v57 none (some x7)) h58) fun v59 h60 =>
 bindV (still (aConv Pg h60 114 9 v59) h60) fun v61 h62 =>
 ACalls Pg 55 [v61] h62 (aEnd (fun v63 h64 =>
 bindV (still (aBin Pg .add 9 v55 v63 false) h64) fun v65 h66 =>
 Q (.ret (V.tup [v65,(V.int .i64 0)])) h66) fun v h=>Q (.panic v) h)):=by kernel_rfl
theorem Jz3b_eq (Q:AEnd→AH→Prop) (x1 x4 x5 x7:V) (h:AH):Jz3b Q x1 x4 x5 x7 h=(
 bindV (still (aFieldAddr Pg 38 x1 1) h) fun v47 h48 =>
 bindV (still (aFieldAddr Pg 29 v47 0) h48) fun v49 h50 =>
 bindV (aLoadV Pg h50 4 v49) fun v51 h52 =>
 vcIf v51 (
 Meet (Jz3c Q x1 x4 x5 x7 (V.str [1]) h52)) (
 Meet (Jz3c Q x1 x4 x5 x7 (V.str [0]) h52))):=by kernel_rfl
theorem Jz39_eq (Q:AEnd→AH→Prop) (n:Nat) (x1 x4 x5 x7 x38:V) (h:AH):Jz39 Q n x1 x4 x5 x7 x38 h=(
 vcIf x38 (
 Meet (Jz3a Q n x1 x4 x5 x7 h)) (
 Meet (Jz3b Q x1 x4 x5 x7 h))):=by kernel_rfl
theorem Gzd_eq (Q:AEnd→AH→Prop) (n:Nat) (x1 x4 x5 x7 x31 x37:V) (h:AH):Gzd Q n x1 x4 x5 x7 x31 x37 h=(
 bindV (aPick x31 x37 (V.bool false) h) fun v43 h44 =>
 Meet (Jz39 Q n x1 x4 x5 x7 v43 h44)):=by kernel_rfl
theorem Lz79_eq (Q:AEnd→AH→Prop) (n:Nat) (x1 x4 x5 x7:V) (h:AH):Lz79 Q (n + 1) x1 x4 x5 x7 h=(
 bindV (still (aBin Pg .gtr 3 x7 (V.int .i64 0) true) h) fun v41 h42 =>
 vcG v41 true (
 bindV (still (aBin Pg .sub 3 x7 (V.int .i64 1) true) h42) fun v67 h68 =>
 bindV (still (aFieldAddr Pg 38 x1 2) h68) fun v69 h70 =>
 bindV (still (aIndexAddr Pg 31 v69 v67) h70) fun v71 h72 =>
 bindV (aLoadV Pg h72 5 v71) fun v73 h74 =>
 bindV (still (aBin Pg .eql 5 v73 (V.int .u8 0) true) h74) fun v75 h76 =>
 Meet (Gzd Q n x1 x4 x5 x7 v41 v75 h76)) (Meet (Gzd Q n x1 x4 x5 x7 v41 hole h42))):=by kernel_rfl
theorem Jz3d_eq (Q:AEnd→AH→Prop) (x1 x4 x5:V) (h:AH):Jz3d Q x1 x4 x5 h=(
 bindV (still (aBin Pg .add 9 x4 x5 false) h) fun v122 h123 =>
 bindV (still (aFieldAddr Pg 38 x1 6) h123) fun v124 h125 =>
 bindV (aLoadV Pg h125 5 v124) fun v126 h127 =>
 bindV (aBuildSlice Pg h127 114 1 [(0,v126)]) fun v128 h129 =>
 bindV (still (aConv Pg h129 114 9 v128) h129) fun v130 h131 =>
 bindV (still (aBin Pg .add 9 v122 v130 false) h131) fun v132 h133 =>
 Q (.ret (V.tup [v132,(V.int .i64 0)])) h133):=by kernel_rfl
theorem Jz38_eq (Q:AEnd→AH→Prop) (x1:V) (h:AH):Jz38 Q x1 h=(
 bindV (still (aFieldAddr Pg 38 x1 0) h) fun v9 h10 =>
 bindV (aLoadV Pg h10 5 v9) fun v11 h12 =>
 bindV (aBuildSlice Pg h12 114 1 [(0,v11)]) fun v13 h14 =>
 bindV (still (aConv Pg h14 114 9 v13) h14) fun v15 h16 =>
 bindV (still (aFieldAddr Pg 38 x1 1) h16) fun v17 h18 =>
 bindV (still (aFieldAddr Pg 29 v17 1) h18) fun v19 h20 =>
 bindV (aLoadV Pg h20 27 v19) fun v21 h22 =>
 bindV (still (aConv Pg h22 27 42 v21) h22) fun v23 h24 =>
 ACalls Pg 54 [v23,(V.int .i64 2)] h24 (aEnd (fun v25 h26 =>
 bindV (still (aFieldAddr Pg 38 x1 3) h26) fun v27 h28 =>
 bindV (aLoadV Pg h28 32 v27) fun v29 h30 =>
 bindV (still (aConv Pg h30 32 42 v29) h30) fun v31 h32 =>
 ACalls Pg 54 [v31,(V.int .i64 4)] h32 (aEnd (fun v33 h34 =>
 bindV (still (aFieldAddr Pg 38 x1 0) h34) fun v35 h36 =>
 bindV (aLoadV Pg h36 5 v35) fun v37 h38 =>
 bindV (still (aBin Pg .eql 5 v37 (V.int .u8 1) true) h38) fun v39 h40 =>
 vcIf v39 (
 ∃ n,Meet (Lz79 Q n x1 v15 v25 (V.int .i64 224) h40)) (
 bindV (still (aBin Pg .eql 5 v37 (V.int .u8 2) true) h40) fun v77 h78 =>
 vcIf v77 (
 bindO (fstV (still (aBin Pg .add 9 v15 v25 false) h78)) fun v79 =>
 bindO (fstV (still (aBin Pg .add 9 v79 v33 false) h78)) fun v80 =>
 bindO (fstV (still (aFieldAddr Pg 38 x1 4) h78)) fun v81 =>
 bindO (fstV (aLoadV Pg h78 34 v81)) fun v82 =>
 ∃ v83,ACalls Pg 56 [v82] h78 (pureE v83 h78)∧(
 bindO (fstV (still (aBin Pg .add 9 v80 v83 false) h78)) fun v84 =>
 bindO (fstV (still (aFieldAddr Pg 38 x1 5) h78)) fun v85 =>
 bindO (fstV (aLoadV Pg h78 9 v85)) fun v86 =>
 ∃ v87,ACalls Pg 55 [v86] h78 (pureE v87 h78)∧(
 bindO (fstV (still (aBin Pg .add 9 v84 v87 false) h78)) fun v88 =>
 Q (.ret (V.tup [v88,(V.int .i64 0)])) h78))) (
 bindV (still (aBin Pg .eql 5 v37 (V.int .u8 3) true) h78) fun v89 h90 =>
 vcIf v89 (
 bindO (fstV (still (aBin Pg .add 9 v15 v25 false) h90)) fun v91 =>
 bindO (fstV (still (aFieldAddr Pg 38 x1 6) h90)) fun v92 =>
 bindO (fstV (aLoadV Pg h90 5 v92)) fun v93 =>
 bindO (litConv Pg 114 1 [(0,v93)] 114 9) fun v94 =>
 bindO (fstV (still (aBin Pg .add 9 v91 v94 false) h90)) fun v95 =>
 bindO (fstV (still (aFieldAddr Pg 38 x1 7) h90)) fun v96 =>
 bindO (fstV (still (aFieldAddr Pg 36 v96 1) h90)) fun v97 =>
 bindO (fstV (aLoadV Pg h90 27 v97)) fun v98 =>
 bindO (fstV (still (aConv Pg h90 27 42 v98) h90)) fun v99 =>
 ∃ v100,ACalls Pg 54 [v99,(V.int .i64 2)] h90 (pureE v100 h90)∧(
 bindO (fstV (still (aBin Pg .add 9 v95 v100 false) h90)) fun v101 =>
 bindO (fstV (still (aFieldAddr Pg 38 x1 7) h90)) fun v102 =>
 bindO (fstV (still (aFieldAddr Pg 36 v102 2) h90)) fun v103 =>
 bindO (fstV (aLoadV Pg h90 32 v103)) fun v104 =>
 bindO (fstV (still (aConv Pg h90 32 42 v104) h90)) fun v105 =>
 ∃ v106,ACalls Pg 54 [v105,(V.int .i64 4)] h90 (pureE v106 h90)∧(
 bindO (fstV (still (aBin Pg .add 9 v101 v106 false) h90)) fun v107 =>
 bindO (fstV (still (aFieldAddr Pg 38 x1 7) h90)) fun v108 =>
 bindO (fstV (still (aFieldAddr Pg 36 v108 3) h90)) fun v109 =>
 bindO (fstV (aLoadV Pg h90 34 v109)) fun v110 =>
 ∃ v111,ACalls Pg 56 [v110] h90 (pureE v111 h90)∧(
 bindO (fstV (still (aBin Pg .add 9 v107 v111 false) h90)) fun v112 =>
 bindO (fstV (still (aFieldAddr Pg 38 x1 7) h90)) fun v113 =>
 bindO (fstV (still (aFieldAddr Pg 36 v113 4) h90)) fun v114 =>
 bindO (fstV (aLoadV Pg h90 9 v114)) fun v115 =>
 ∃ v116,ACalls Pg 55 [v115] h90 (pureE v116 h90)∧(
 bindO (fstV (still (aBin Pg .add 9 v112 v116 false) h90)) fun v117 =>
 Q (.ret (V.tup [v117,(V.int .i64 0)])) h90))))) (
 bindV (still (aBin Pg .eql 5 v37 (V.int .u8 6) true) h90) fun v118 h119 =>
 vcIf v118 (
 bindV (still (aBin Pg .add 9 v15 v33 false) h119) fun v120 h121 =>
 Q (.ret (V.tup [v120,(V.int .i64 0)])) h121) (
 Meet (Jz3d Q x1 v15 v25 h119)))))) fun v h=>Q (.panic v) h)) fun v h=>Q (.panic v) h)):=by kernel_rfl
theorem S25 (Q:AEnd→AH→Prop) (a0:V) (h:AH):vc Pg N25 B25 K25 (vcRet Pg R25 Q) (initEnv 0 [a0]) h=(
 bindV (aNew Pg h 38 a0) fun v1 h2 =>
 bindV (aLoadV Pg h2 38 v1) fun v3 h4 =>
 ACalls Pg 21 [v3] h4 (aEnd (fun v5 h6 =>
 bindV (still (aUn .not v5) h6) fun v7 h8 =>
 vcIf v7 (
 Q (.ret (V.tup [(V.str []),(V.int .i64 1)])) h8) (
 Meet (Jz38 Q v1 h8))) fun v h=>Q (.panic v) h)):=by kernel_rfl
theorem C25 (Q:AEnd→AH→Prop) (a0:V) (h:AH) (c :
 bindV (aNew Pg h 38 a0) fun v1 h2 =>
 bindV (aLoadV Pg h2 38 v1) fun v3 h4 =>
 ACalls Pg 21 [v3] h4 (aEnd (fun v5 h6 =>
 bindV (still (aUn .not v5) h6) fun v7 h8 =>
 vcIf v7 (
 Q (.ret (V.tup [(V.str []),(V.int .i64 1)])) h8) (
 Meet (Jz38 Q v1 h8))) fun v h=>Q (.panic v) h)):ACalls Pg 25 [a0] h Q :=
 acalls_of_vc okP Try.func25 (show Try.f25.body=some B25 from by kernel_rfl) K25 (by rw [← S25 Q a0 h] at c;exact c)
noncomputable def B50:Code:=(Try.f50.body).getD .skip
def R50:List ResultVar:=[.cell 2 38]
abbrev N50:Nat:=57
def K50:KT:=(.seq .leaf (.seq .leaf (.join (.seq .leaf (.one (.join (.one (.join (.one (.join (.one (.join (.one (.join (.one (.join (.join (.seq .leaf (.two .leaf .leaf) [1,2,3,8,9]) (.join (.seq .leaf (.two .leaf .leaf) [1,2,3,8,11]) (.join (.seq .leaf (.two .leaf .leaf) [1,2,3,8,13]) (.join (.join (.seq .leaf (.two .leaf .leaf) [1,2,3,8,15]) (.two .leaf .leaf) [1,2,3,8,15]) (.seq .leaf (.two .leaf .leaf) [1,2,3,18]) [1,2,3,8]) [1,2,3,8]) [1,2,3,8]) [1,2,3,8]) .leaf [2,3])) (.seq (.eff [5,7]) .leaf [2,3]) [1,2,3])) (.seq (.eff [11,13,15,17]) .leaf [2,3]) [1,2,3])) (.seq .leaf .leaf [1,2,3]) [1,2,3])) (.seq (.eff [7,9]) .leaf [2,3]) [1,2,3])) (.seq .leaf .leaf [2,3]) [1,2,3])) [1,2,3,8]) (.seq .leaf .leaf [2]) [2,3]) [1,2,3]) [1,2])
def Jz5u (Q:AEnd→AH→Prop) (x2 x3:V) (h:AH):Prop:=vcAt Pg N50 B50 K50 [1,1,1] [] (vcRet Pg R50 Q) [(2,x2),(3,x3)] h
def Jz5p (Q:AEnd→AH→Prop) (x1 x2 x3:V) (h:AH):Prop:=vcAt Pg N50 B50 K50 [1,1,0,1,0,0,0,0,0,0,0,0,0,1] [] (vcRet Pg R50 Q) [(1,x1),(2,x2),(3,x3)] h
def Jz5q (Q:AEnd→AH→Prop) (x1 x2 x3:V) (h:AH):Prop:=vcAt Pg N50 B50 K50 [1,1,0,1,0,0,0,0,0,0,0,1] [] (vcRet Pg R50 Q) [(1,x1),(2,x2),(3,x3)] h
def Jz5s (Q:AEnd→AH→Prop) (x1 x2 x3:V) (h:AH):Prop:=vcAt Pg N50 B50 K50 [1,1,0,1,0,0,0,1] [] (vcRet Pg R50 Q) [(1,x1),(2,x2),(3,x3)] h
def Jz5r (Q:AEnd→AH→Prop) (x1 x2 x3:V) (h:AH):Prop:=vcAt Pg N50 B50 K50 [1,1,0,1,0,0,0,0,0,1] [] (vcRet Pg R50 Q) [(1,x1),(2,x2),(3,x3)] h
def Jz5t (Q:AEnd→AH→Prop) (x1 x2 x3:V) (h:AH):Prop:=vcAt Pg N50 B50 K50 [1,1,0,1,0,1] [] (vcRet Pg R50 Q) [(1,x1),(2,x2),(3,x3)] h
def Jz5o (Q:AEnd→AH→Prop) (x2 x3:V) (h:AH):Prop:=vcAt Pg N50 B50 K50 [1,1,0,1,0,0,0,0,0,0,0,0,0,0,0,1] [] (vcRet Pg R50 Q) [(2,x2),(3,x3)] h
def Jz5n (Q:AEnd→AH→Prop) (x1 x2 x3 x8:V) (h:AH):Prop:=vcAt Pg N50 B50 K50 [1,1,0,1,0,0,0,0,0,0,0,0,0,0,0,0,1,1,1,1] [] (vcRet Pg R50 Q) [(1,x1),(2,x2),(3,x3),(8,x8)] h
def Jz5m (Q:AEnd→AH→Prop) (x1 x2 x3 x8 x15:V) (h:AH):Prop:=vcAt Pg N50 B50 K50 [1,1,0,1,0,0,0,0,0,0,0,0,0,0,0,0,1,1,1,0,1] [] (vcRet Pg R50 Q) [(1,x1),(2,x2),(3,x3),(8,x8),(15,x15)] h
def Jz5l (Q:AEnd→AH→Prop) (x1 x2 x3 x8:V) (h:AH):Prop:=vcAt Pg N50 B50 K50 [1,1,0,1,0,0,0,0,0,0,0,0,0,0,0,0,1,1,1] [] (vcRet Pg R50 Q) [(1,x1),(2,x2),(3,x3),(8,x8)] h
def Jz5k (Q:AEnd→AH→Prop) (x1 x2 x3 x8:V) (h:AH):Prop:=vcAt Pg N50 B50 K50 [1,1,0,1,0,0,0,0,0,0,0,0,0,0,0,0,1,1] [] (vcRet Pg R50 Q) [(1,x1),(2,x2),(3,x3),(8,x8)] h
def Jz5j (Q:AEnd→AH→Prop) (x1 x2 x3 x8:V) (h:AH):Prop:=vcAt Pg N50 B50 K50 [1,1,0,1,0,0,0,0,0,0,0,0,0,0,0,0,1] [] (vcRet Pg R50 Q) [(1,x1),(2,x2),(3,x3),(8,x8)] h
theorem Jz5u_eq (Q:AEnd→AH→Prop) (x2 x3:V) (h:AH):Jz5u Q x2 x3 h=(
 bindV (aLoadV Pg h 38 x3) fun v31 h32 =>
 bindV (aStoreV Pg h32 38 x2 v31) fun _ h34 =>
 bindR (aRes Pg [(2,x2)] h34 R50) fun v=>Q (.ret v) h34):=by kernel_rfl
theorem Jz5p_eq (Q:AEnd→AH→Prop) (x1 x2 x3:V) (h:AH):Jz5p Q x1 x2 x3 h=(
 bindO (fstV (still (aFieldAddr Pg 38 x1 1) h)) fun v21 =>
 bindO (fstV (aLoadV Pg h 29 v21)) fun v22 =>
 (
 bindO (fstV (still (aFieldAddr Pg 38 x1 2) h)) fun v23 =>
 bindO (fstV (aLoadV Pg h 31 v23)) fun v24 =>
 (
 bindO (fstV (still (aFieldAddr Pg 38 x3 1) h)) fun v25 =>
 bindV (aStoreV Pg h 29 v25 v22) fun _ h27=>(aLoadV Pg h27 31 v23=some (v24,h27))∧(
 bindO (fstV (still (aFieldAddr Pg 38 x3 2) h27)) fun v28 =>
 bindV (aStoreV Pg h27 31 v28 v24) fun _ h30=>(
 Meet (Jz5u Q x2 x3 h30)))))):=by kernel_rfl
theorem Jz5q_eq (Q:AEnd→AH→Prop) (x1 x2 x3:V) (h:AH):Jz5q Q x1 x2 x3 h=(
 bindO (fstV (still (aFieldAddr Pg 38 x1 1) h)) fun v37 =>
 bindO (fstV (still (aFieldAddr Pg 29 v37 1) h)) fun v38 =>
 bindO (fstV (aLoadV Pg h 27 v38)) fun v39 =>
 (
 bindO (fstV (still (aFieldAddr Pg 38 x1 3) h)) fun v40 =>
 bindO (fstV (aLoadV Pg h 32 v40)) fun v41 =>
 (
 bindO (fstV (still (aFieldAddr Pg 38 x1 4) h)) fun v42 =>
 bindO (fstV (aLoadV Pg h 34 v42)) fun v43 =>
 (
 bindO (fstV (still (aFieldAddr Pg 38 x1 5) h)) fun v44 =>
 bindO (fstV (aLoadV Pg h 9 v44)) fun v45 =>
 (
 bindO (fstV (still (aFieldAddr Pg 38 x3 1) h)) fun v46 =>
 bindO (fstV (still (aFieldAddr Pg 29 v46 1) h)) fun v47 =>
 bindV (aStoreV Pg h 27 v47 v39) fun _ h49=>(aLoadV Pg h49 9 v44=some (v45,h49))∧(aLoadV Pg h49 34 v42=some (v43,h49))∧(aLoadV Pg h49 32 v40=some (v41,h49))∧(
 bindO (fstV (still (aFieldAddr Pg 38 x3 3) h49)) fun v50 =>
 bindV (aStoreV Pg h49 32 v50 v41) fun _ h52=>(aLoadV Pg h52 9 v44=some (v45,h52))∧(aLoadV Pg h52 34 v42=some (v43,h52))∧(
 bindO (fstV (still (aFieldAddr Pg 38 x3 4) h52)) fun v53 =>
 bindV (aStoreV Pg h52 34 v53 v43) fun _ h55=>(aLoadV Pg h55 9 v44=some (v45,h55))∧(
 bindO (fstV (still (aFieldAddr Pg 38 x3 5) h55)) fun v56 =>
 bindV (aStoreV Pg h55 9 v56 v45) fun _ h58=>(
 Meet (Jz5u Q x2 x3 h58)))))))))):=by kernel_rfl
theorem Jz5s_eq (Q:AEnd→AH→Prop) (x1 x2 x3:V) (h:AH):Jz5s Q x1 x2 x3 h=(
 bindO (fstV (still (aFieldAddr Pg 38 x1 1) h)) fun v75 =>
 bindO (fstV (still (aFieldAddr Pg 29 v75 1) h)) fun v76 =>
 bindO (fstV (aLoadV Pg h 27 v76)) fun v77 =>
 (
 bindO (fstV (still (aBuild Pg 29 [(0,(V.bool true)),(1,v77)]) h)) fun v78 =>
 bindO (fstV (still (aFieldAddr Pg 38 x1 6) h)) fun v79 =>
 bindO (fstV (aLoadV Pg h 5 v79)) fun v80 =>
 (
 bindO (fstV (still (aFieldAddr Pg 38 x3 1) h)) fun v81 =>
 bindV (aStoreV Pg h 29 v81 v78) fun _ h83=>(aLoadV Pg h83 5 v79=some (v80,h83))∧(
 bindO (fstV (still (aFieldAddr Pg 38 x3 6) h83)) fun v84 =>
 bindV (aStoreV Pg h83 5 v84 v80) fun _ h86=>(
 Meet (Jz5u Q x2 x3 h86)))))):=by kernel_rfl
theorem Jz5r_eq (Q:AEnd→AH→Prop) (x1 x2 x3:V) (h:AH):Jz5r Q x1 x2 x3 h=(
 bindV (still (aFieldAddr Pg 38 x1 7) h) fun v61 h62 =>
 bindV (aLoadV Pg h62 36 v61) fun v63 h64 =>
 bindV (still (aFieldAddr Pg 38 x3 7) h64) fun v65 h66 =>
 bindV (aStoreV Pg h66 36 v65 v63) fun _ h68 =>
 bindV (still (aFieldAddr Pg 38 x3 7) h68) fun v69 h70 =>
 bindV (still (aFieldAddr Pg 36 v69 0) h70) fun v71 h72 =>
 bindV (aStoreV Pg h72 4 v71 (V.bool true)) fun _ h74 =>
 Meet (Jz5s Q x1 x2 x3 h74)):=by kernel_rfl
theorem Jz5t_eq (Q:AEnd→AH→Prop) (x1 x2 x3:V) (h:AH):Jz5t Q x1 x2 x3 h=(
 bindV (still (aFieldAddr Pg 38 x1 3) h) fun v91 h92 =>
 bindV (aLoadV Pg h92 32 v91) fun v93 h94 =>
 bindV (still (aFieldAddr Pg 38 x3 3) h94) fun v95 h96 =>
 bindV (aStoreV Pg h96 32 v95 v93) fun _ h98 =>
 Meet (Jz5u Q x2 x3 h98)):=by kernel_rfl
theorem Jz5o_eq (Q:AEnd→AH→Prop) (x2 x3:V) (h:AH):Jz5o Q x2 x3 h=(
 Meet (Jz5u Q x2 x3 h)):=by kernel_rfl
theorem Jz5n_eq (Q:AEnd→AH→Prop) (x1 x2 x3 x8:V) (h:AH):Jz5n Q x1 x2 x3 x8 h=(
 bindV (still (aBin Pg .eql 5 x8 (V.int .u8 6) true) h) fun v89 h90 =>
 vcIf v89 (
 Meet (Jz5t Q x1 x2 x3 h90)) (
 Meet (Jz5o Q x2 x3 h90))):=by kernel_rfl
theorem Jz5m_eq (Q:AEnd→AH→Prop) (x1 x2 x3 x8 x15:V) (h:AH):Jz5m Q x1 x2 x3 x8 x15 h=(
 vcIf x15 (
 Meet (Jz5s Q x1 x2 x3 h)) (
 Meet (Jz5n Q x1 x2 x3 x8 h))):=by kernel_rfl
theorem Jz5l_eq (Q:AEnd→AH→Prop) (x1 x2 x3 x8:V) (h:AH):Jz5l Q x1 x2 x3 x8 h=(
 bindV (still (aBin Pg .eql 5 x8 (V.int .u8 4) true) h) fun v87 h88 =>
 vcIf v87 (
 Meet (Jz5m Q x1 x2 x3 x8 v87 h88)) (
 bindV (still (aBin Pg .eql 5 x8 (V.int .u8 5) true) h88) fun v99 h100 =>
 Meet (Jz5m Q x1 x2 x3 x8 v99 h100))):=by kernel_rfl
theorem Jz5k_eq (Q:AEnd→AH→Prop) (x1 x2 x3 x8:V) (h:AH):Jz5k Q x1 x2 x3 x8 h=(
 bindV (still (aBin Pg .eql 5 x8 (V.int .u8 3) true) h) fun v59 h60 =>
 vcIf v59 (
 Meet (Jz5r Q x1 x2 x3 h60)) (
 Meet (Jz5l Q x1 x2 x3 x8 h60))):=by kernel_rfl
theorem Jz5j_eq (Q:AEnd→AH→Prop) (x1 x2 x3 x8:V) (h:AH):Jz5j Q x1 x2 x3 x8 h=(
 bindV (still (aBin Pg .eql 5 x8 (V.int .u8 2) true) h) fun v35 h36 =>
 vcIf v35 (
 Meet (Jz5q Q x1 x2 x3 h36)) (
 Meet (Jz5k Q x1 x2 x3 x8 h36))):=by kernel_rfl
theorem S50 (Q:AEnd→AH→Prop) (a0:V) (h:AH):vc Pg N50 B50 K50 (vcRet Pg R50 Q) (initEnv 0 [a0]) h=(
 bindV (aNew Pg h 38 a0) fun v1 h2 =>
 bindV (aAlloc Pg h2 38) fun v3 h4 =>
 bindV (still (aFieldAddr Pg 38 v1 0) h4) fun v5 h6 =>
 bindV (aLoadV Pg h6 5 v5) fun v7 h8 =>
 bindV (still (aBuild Pg 38 [(0,v7)]) h8) fun v9 h10 =>
 bindV (aAlloc Pg h10 38) fun v11 h12 =>
 bindV (aStoreV Pg h12 38 v11 v9) fun _ h14 =>
 bindV (still (aFieldAddr Pg 38 v1 0) h14) fun v15 h16 =>
 bindV (aLoadV Pg h16 5 v15) fun v17 h18 =>
 bindV (still (aBin Pg .eql 5 v17 (V.int .u8 1) true) h18) fun v19 h20 =>
 vcIf v19 (
 Meet (Jz5p Q v1 v3 v11 h20)) (
 Meet (Jz5j Q v1 v3 v11 v17 h20))):=by kernel_rfl
theorem C50 (Q:AEnd→AH→Prop) (a0:V) (h:AH) (c :
 bindV (aNew Pg h 38 a0) fun v1 h2 =>
 bindV (aAlloc Pg h2 38) fun v3 h4 =>
 bindV (still (aFieldAddr Pg 38 v1 0) h4) fun v5 h6 =>
 bindV (aLoadV Pg h6 5 v5) fun v7 h8 =>
 bindV (still (aBuild Pg 38 [(0,v7)]) h8) fun v9 h10 =>
 bindV (aAlloc Pg h10 38) fun v11 h12 =>
 bindV (aStoreV Pg h12 38 v11 v9) fun _ h14 =>
 bindV (still (aFieldAddr Pg 38 v1 0) h14) fun v15 h16 =>
 bindV (aLoadV Pg h16 5 v15) fun v17 h18 =>
 bindV (still (aBin Pg .eql 5 v17 (V.int .u8 1) true) h18) fun v19 h20 =>
 vcIf v19 (
 Meet (Jz5p Q v1 v3 v11 h20)) (
 Meet (Jz5j Q v1 v3 v11 v17 h20))):ACalls Pg 50 [a0] h Q :=
 acalls_of_vc okP Try.func50 (show Try.f50.body=some B50 from by kernel_rfl) K50 (by rw [← S50 Q a0 h] at c;exact c)
noncomputable def B55:Code:=(Try.f55.body).getD .skip
def R55:List ResultVar:=[.tmp 2]
abbrev N55:Nat:=10
def K55:KT:=(.seq .leaf (.seq .leaf .leaf [2]) [0])
theorem S55 (Q:AEnd→AH→Prop) (a0:V) (h:AH):vc Pg N55 B55 K55 (vcRet Pg R55 Q) (initEnv 0 [a0]) h=(
 bindV (aBuiltin Pg h .len [9] [a0]) fun v1 h2 =>
 bindV (still (aConv Pg h2 3 5 v1) h2) fun v3 h4 =>
 bindV (aBuildSlice Pg h4 114 1 [(0,v3)]) fun v5 h6 =>
 bindV (still (aConv Pg h6 114 9 v5) h6) fun v7 h8 =>
 bindV (still (aBin Pg .add 9 v7 a0 false) h8) fun v9 h10 =>
 Q (.ret v9) h10):=by kernel_rfl
theorem C55 (Q:AEnd→AH→Prop) (a0:V) (h:AH) (c :
 bindV (aBuiltin Pg h .len [9] [a0]) fun v1 h2 =>
 bindV (still (aConv Pg h2 3 5 v1) h2) fun v3 h4 =>
 bindV (aBuildSlice Pg h4 114 1 [(0,v3)]) fun v5 h6 =>
 bindV (still (aConv Pg h6 114 9 v5) h6) fun v7 h8 =>
 bindV (still (aBin Pg .add 9 v7 a0 false) h8) fun v9 h10 =>
 Q (.ret v9) h10):ACalls Pg 55 [a0] h Q :=
 acalls_of_vc okP Try.func55 (show Try.f55.body=some B55 from by kernel_rfl) K55 (by rw [← S55 Q a0 h] at c;exact c)
noncomputable def B56:Code:=(Try.f56.body).getD .skip
def R56:List ResultVar:=[.tmp 2]
abbrev N56:Nat:=12
def K56:KT:=(.seq .leaf (.seq .leaf .leaf [2]) [1])
theorem S56 (Q:AEnd→AH→Prop) (a0:V) (h:AH):vc Pg N56 B56 K56 (vcRet Pg R56 Q) (initEnv 0 [a0]) h=(
 bindV (aNew Pg h 34 a0) fun v1 h2 =>
 bindO (fstV (still (aFieldAddr Pg 34 v1 0) h2)) fun v3 =>
 bindO (fstV (aLoadV Pg h2 27 v3)) fun v4 =>
 bindO (fstV (still (aConv Pg h2 27 42 v4) h2)) fun v5 =>
 ∃ v6,ACalls Pg 54 [v5,(V.int .i64 2)] h2 (pureE v6 h2)∧(
 bindO (fstV (still (aFieldAddr Pg 34 v1 1) h2)) fun v7 =>
 bindO (fstV (aLoadV Pg h2 5 v7)) fun v8 =>
 bindO (litConv Pg 114 1 [(0,v8)] 114 9) fun v9 =>
 bindO (fstV (still (aBin Pg .add 9 v6 v9 false) h2)) fun v10 =>
 Q (.ret v10) h2)):=by kernel_rfl
theorem C56 (Q:AEnd→AH→Prop) (a0:V) (h:AH) (c :
 bindV (aNew Pg h 34 a0) fun v1 h2 =>
 bindO (fstV (still (aFieldAddr Pg 34 v1 0) h2)) fun v3 =>
 bindO (fstV (aLoadV Pg h2 27 v3)) fun v4 =>
 bindO (fstV (still (aConv Pg h2 27 42 v4) h2)) fun v5 =>
 ∃ v6,ACalls Pg 54 [v5,(V.int .i64 2)] h2 (pureE v6 h2)∧(
 bindO (fstV (still (aFieldAddr Pg 34 v1 1) h2)) fun v7 =>
 bindO (fstV (aLoadV Pg h2 5 v7)) fun v8 =>
 bindO (litConv Pg 114 1 [(0,v8)] 114 9) fun v9 =>
 bindO (fstV (still (aBin Pg .add 9 v6 v9 false) h2)) fun v10 =>
 Q (.ret v10) h2)):ACalls Pg 56 [a0] h Q :=
 acalls_of_vc okP Try.func56 (show Try.f56.body=some B56 from by kernel_rfl) K56 (by rw [← S56 Q a0 h] at c;exact c)
noncomputable def B57:Code:=(Try.f57.body).getD .skip
def R57:List ResultVar:=[.tmp 2]
abbrev N57:Nat:=22
def K57:KT:=(.seq .leaf (.join (.join (.reg [[0,6,9]]) (.two (.seq .leaf .leaf [2]) .leaf) [0,10]) (.seq .leaf .leaf [2]) [0]) [0])
def Jz5z (Q:AEnd→AH→Prop) (x0:V) (h:AH):Prop:=vcAt Pg N57 B57 K57 [1,1] [] (vcRet Pg R57 Q) [(0,x0)] h
def Jz5y (Q:AEnd→AH→Prop) (x0 x10:V) (h:AH):Prop:=vcAt Pg N57 B57 K57 [1,0,1] [] (vcRet Pg R57 Q) [(0,x0),(10,x10)] h
def Gz1c (Q:AEnd→AH→Prop) (x0 x6 x9:V) (h:AH):Prop:=segAt Pg N57 B57 K57 [1,0,0] 2 1 [] (vcRet Pg R57 Q) [(0,x0),(6,x6),(9,x9)] h
theorem Jz5z_eq (Q:AEnd→AH→Prop) (x0:V) (h:AH):Jz5z Q x0 h=(
 bindV (aBuiltin Pg h .len [9] [x0]) fun v7 h8 =>
 bindV (still (aConv Pg h8 3 42 v7) h8) fun v9 h10 =>
 ACalls Pg 54 [v9,(V.int .i64 2)] h10 (aEnd (fun v11 h12 =>
 ACalls Pg 78 [x0] h12 (aEnd (fun v13 h14 =>
 bindV (still (aConv Pg h14 32 42 v13) h14) fun v15 h16 =>
 ACalls Pg 54 [v15,(V.int .i64 4)] h16 (aEnd (fun v17 h18 =>
 bindV (still (aBin Pg .add 9 v11 v17 false) h18) fun v19 h20 =>
 bindV (still (aBin Pg .add 9 v19 x0 false) h20) fun v21 h22 =>
 Q (.ret v21) h22) fun v h=>Q (.panic v) h)) fun v h=>Q (.panic v) h)) fun v h=>Q (.panic v) h)):=by kernel_rfl
theorem Jz5y_eq (Q:AEnd→AH→Prop) (x0 x10:V) (h:AH):Jz5y Q x0 x10 h=(
 vcIf x10 (
 Q (.ret (V.str [])) h) (
 Meet (Jz5z Q x0 h))):=by kernel_rfl
theorem Gz1c_eq (Q:AEnd→AH→Prop) (x0 x6 x9:V) (h:AH):Gz1c Q x0 x6 x9 h=(
 bindV (aPick x6 (V.bool true) x9 h) fun v5 h6 =>
 Meet (Jz5y Q x0 v5 h6)):=by kernel_rfl
theorem S57 (Q:AEnd→AH→Prop) (a0:V) (h:AH):vc Pg N57 B57 K57 (vcRet Pg R57 Q) (initEnv 0 [a0]) h=(
 bindV (aBuiltin Pg h .len [9] [a0]) fun v1 h2 =>
 bindV (still (aBin Pg .lss 3 v1 (V.int .i64 1) true) h2) fun v3 h4 =>
 vcG v3 false (
 bindV (aBuiltin Pg h4 .len [9] [a0]) fun v23 h24 =>
 bindV (still (aBin Pg .gtr 3 v23 (V.int .i64 400) true) h24) fun v25 h26 =>
 Meet (Gz1c Q a0 v3 v25 h26)) (Meet (Gz1c Q a0 v3 hole h4))):=by kernel_rfl
theorem C57 (Q:AEnd→AH→Prop) (a0:V) (h:AH) (c :
 bindV (aBuiltin Pg h .len [9] [a0]) fun v1 h2 =>
 bindV (still (aBin Pg .lss 3 v1 (V.int .i64 1) true) h2) fun v3 h4 =>
 vcG v3 false (
 bindV (aBuiltin Pg h4 .len [9] [a0]) fun v23 h24 =>
 bindV (still (aBin Pg .gtr 3 v23 (V.int .i64 400) true) h24) fun v25 h26 =>
 Meet (Gz1c Q a0 v3 v25 h26)) (Meet (Gz1c Q a0 v3 hole h4))):ACalls Pg 57 [a0] h Q :=
 acalls_of_vc okP Try.func57 (show Try.f57.body=some B57 from by kernel_rfl) K57 (by rw [← S57 Q a0 h] at c;exact c)
end Go.Proofs.Ytdfgfbammkojoaa.Sh
namespace Go.Proofs.Ytdfgfbammkojoaa.Sh
open Go Go.Ab Go.RowKit
open Go.Proofs.Ytdfgfbammkojoaa.Ru (Pg okP)
set_option maxRecDepth 100000
noncomputable def B13:Code:=(Try.f13.body).getD .skip
def R13:List ResultVar:=[.tmp 2]
abbrev N13:Nat:=14
def K13:KT:=(.seq .leaf (.join (.join (.reg [[0,5,7]]) (.two (.seq .leaf .leaf [2]) .leaf) [0,8]) (.seq .leaf .leaf [2]) [0]) [0])
def Jz2d (Q:AEnd→AH→Prop) (x0:V) (h:AH):Prop:=vcAt Pg N13 B13 K13 [1,1] [] (vcRet Pg R13 Q) [(0,x0)] h
def Jz2c (Q:AEnd→AH→Prop) (x0 x8:V) (h:AH):Prop:=vcAt Pg N13 B13 K13 [1,0,1] [] (vcRet Pg R13 Q) [(0,x0),(8,x8)] h
def Gz1 (Q:AEnd→AH→Prop) (x0 x5 x7:V) (h:AH):Prop:=segAt Pg N13 B13 K13 [1,0,0] 2 1 [] (vcRet Pg R13 Q) [(0,x0),(5,x5),(7,x7)] h
theorem Jz2d_eq (Q:AEnd→AH→Prop) (x0:V) (h:AH):Jz2d Q x0 h=(
 bindV (aMakeMap Pg h 115) fun v5 h6 =>
 bindV (aMakeMap Pg h6 115) fun v7 h8 =>
 bindV (still (aBuild Pg 119 [(0,x0),(1,v5),(2,v7)]) h8) fun v9 h10 =>
 bindV (aNew Pg h10 119 v9) fun v11 h12 =>
 Q (.ret v11) h12):=by kernel_rfl
theorem Jz2c_eq (Q:AEnd→AH→Prop) (x0 x8:V) (h:AH):Jz2c Q x0 x8 h=(
 vcIf x8 (
 Q (.ret (V.ptr none)) h) (
 Meet (Jz2d Q x0 h))):=by kernel_rfl
theorem Gz1_eq (Q:AEnd→AH→Prop) (x0 x5 x7:V) (h:AH):Gz1 Q x0 x5 x7 h=(
 bindV (aPick x5 (V.bool true) x7 h) fun v3 h4 =>
 Meet (Jz2c Q x0 v3 h4)):=by kernel_rfl
theorem S13 (Q:AEnd→AH→Prop) (a0:V) (h:AH):vc Pg N13 B13 K13 (vcRet Pg R13 Q) (initEnv 0 [a0]) h=(
 bindV (still (aBin Pg .lss 3 a0 (V.int .i64 1) true) h) fun v1 h2 =>
 vcG v1 false (
 bindV (still (aBin Pg .gtr 3 a0 (V.int .i64 2048) true) h2) fun v13 h14 =>
 Meet (Gz1 Q a0 v1 v13 h14)) (Meet (Gz1 Q a0 v1 hole h2))):=by kernel_rfl
theorem C13 (Q:AEnd→AH→Prop) (a0:V) (h:AH) (c :
 bindV (still (aBin Pg .lss 3 a0 (V.int .i64 1) true) h) fun v1 h2 =>
 vcG v1 false (
 bindV (still (aBin Pg .gtr 3 a0 (V.int .i64 2048) true) h2) fun v13 h14 =>
 Meet (Gz1 Q a0 v1 v13 h14)) (Meet (Gz1 Q a0 v1 hole h2))):ACalls Pg 13 [a0] h Q :=
 acalls_of_vc okP Try.func13 (show Try.f13.body=some B13 from by kernel_rfl) K13 (by rw [← S13 Q a0 h] at c;exact c)
noncomputable def B14:Code:=(Try.f14.body).getD .skip
def R14:List ResultVar:=[.tmp 6]
abbrev N14:Nat:=62
def K14:KT:=(.seq .leaf (.join (.join (.reg [[0,1,5,12,16]]) (.two (.seq .leaf .leaf [6]) .leaf) [0,1,5,17]) (.join (.join (.reg [[0,1,5,20,26]]) (.two (.seq .leaf .leaf [6]) .leaf) [0,1,5,27]) (.join (.seq .leaf (.seq .leaf (.two (.seq .leaf .leaf [6]) .leaf) [0,1,5,7,31]) [0,1,5,7]) (.join (.seq .leaf (.one (.loop (.seq .leaf (.join (.two .leaf .leaf) (.join (.one (.seq .leaf (.seq .leaf (.seq (.eff [8]) (.eff [6,7,10]) [0,1,5,9,33]) [0,1,5,9,33]) [0,1,5,8,33])) .leaf [0,1,5,33]) [0,1,5,33]) [0,1,5,33,34]) [0,1,5,33])) [0,1,5,33]) (.seq .leaf .leaf [6]) []) [0,1,5]) [0,1,5]) [0,1,5]) [0,1,5])
def Jz2k (Q:AEnd→AH→Prop) (n:Nat) (x0 x1 x5 x33:V) (h:AH):Prop:=vcAt Pg N14 B14 K14 [1,1,1,1,0,1,0,0,1,1,1] [n] (vcRet Pg R14 Q) [(0,x0),(1,x1),(5,x5),(33,x33)] h
def Jz2j (Q:AEnd→AH→Prop) (n:Nat) (x0 x1 x5 x33:V) (h:AH):Prop:=vcAt Pg N14 B14 K14 [1,1,1,1,0,1,0,0,1,1] [n] (vcRet Pg R14 Q) [(0,x0),(1,x1),(5,x5),(33,x33)] h
def Jz2l (Q:AEnd→AH→Prop) (h:AH):Prop:=vcAt Pg N14 B14 K14 [1,1,1,1,1] [] (vcRet Pg R14 Q) [] h
def Lz76 (Q:AEnd→AH→Prop) (n:Nat) (x0 x1 x5 x33:V) (h:AH):Prop:=loopAt Pg N14 B14 K14 [1,1,1,1,0,1,0] [] n (vcRet Pg R14 Q) [(0,x0),(1,x1),(5,x5),(33,x33)] h
def Jz2i (Q:AEnd→AH→Prop) (x0 x1 x5:V) (h:AH):Prop:=vcAt Pg N14 B14 K14 [1,1,1,1] [] (vcRet Pg R14 Q) [(0,x0),(1,x1),(5,x5)] h
def Jz2h (Q:AEnd→AH→Prop) (x0 x1 x5:V) (h:AH):Prop:=vcAt Pg N14 B14 K14 [1,1,1] [] (vcRet Pg R14 Q) [(0,x0),(1,x1),(5,x5)] h
def Jz2g (Q:AEnd→AH→Prop) (x0 x1 x5 x27:V) (h:AH):Prop:=vcAt Pg N14 B14 K14 [1,1,0,1] [] (vcRet Pg R14 Q) [(0,x0),(1,x1),(5,x5),(27,x27)] h
def Gz3 (Q:AEnd→AH→Prop) (x0 x1 x5 x20 x26:V) (h:AH):Prop:=segAt Pg N14 B14 K14 [1,1,0,0] 2 1 [] (vcRet Pg R14 Q) [(0,x0),(1,x1),(5,x5),(20,x20),(26,x26)] h
def Jz2f (Q:AEnd→AH→Prop) (x0 x1 x5:V) (h:AH):Prop:=vcAt Pg N14 B14 K14 [1,1] [] (vcRet Pg R14 Q) [(0,x0),(1,x1),(5,x5)] h
def Jz2e (Q:AEnd→AH→Prop) (x0 x1 x5 x17:V) (h:AH):Prop:=vcAt Pg N14 B14 K14 [1,0,1] [] (vcRet Pg R14 Q) [(0,x0),(1,x1),(5,x5),(17,x17)] h
def Gz2 (Q:AEnd→AH→Prop) (x0 x1 x5 x12 x16:V) (h:AH):Prop:=segAt Pg N14 B14 K14 [1,0,0] 2 1 [] (vcRet Pg R14 Q) [(0,x0),(1,x1),(5,x5),(12,x12),(16,x16)] h
theorem Jz2k_eq (Q:AEnd→AH→Prop) (n:Nat) (x0 x1 x5 x33:V) (h:AH):Jz2k Q n x0 x1 x5 x33 h=(
 bindV (still (aBin Pg .add 3 x33 (V.int .i64 1) true) h) fun v50 h51 =>
 Meet (Lz76 Q n x0 x1 x5 v50 h51)):=by kernel_rfl
theorem Jz2j_eq (Q:AEnd→AH→Prop) (n:Nat) (x0 x1 x5 x33:V) (h:AH):Jz2j Q n x0 x1 x5 x33 h=(
 bindV (still (aBuild Pg 121 [(0,x1),(1,x33)]) h) fun v17 h18 =>
 bindV (aLoadV Pg h18 56 x5) fun v19 h20 =>
 ACalls Pg 43 [v19,x33] h20 (aEnd (fun v21 h22 =>
 bindV (still (aBuild Pg 125 [(0,v17),(1,v21)]) h22) fun v23 h24 =>
 bindV (aAlloc Pg h24 125) fun v25 h26 =>
 bindV (aStoreV Pg h26 125 v25 v23) fun _ h28 =>
 bindO (fstV (aNil x0 h28)) fun v29 =>
 bindO (fstV (still (aFieldAddr Pg 119 v29 2) h28)) fun v30 =>
 bindO (fstV (aLoadV Pg h28 115 v30)) fun v31 =>
 (
 bindO (fstV (still (aFieldAddr Pg 125 v25 0) h28)) fun v32 =>
 bindO (fstV (aLoadV Pg h28 121 v32)) fun v33 =>
 (
 bindO (fstV (still (aFieldAddr Pg 125 v25 1) h28)) fun v34 =>
 bindO (fstV (aLoadV Pg h28 122 v34)) fun v35 =>
 (
 bindV (quietly (aMapSet Pg h28 115 v31 v33 v35)) fun _ h37=>(
 bindO (fstV (aNil x0 h37)) fun v38 =>
 bindO (fstV (still (aFieldAddr Pg 119 v38 3) h37)) fun v39 =>
 bindO (fstV (aLoadV Pg h37 116 v39)) fun v40 =>
 (
 bindO (fstV (aLoadV Pg h37 125 v25)) fun v41 =>
 (
 bindV (aBuildSlice Pg h37 116 1 [(0,v41)]) fun v42 h43=>(aLoadV Pg h43 116 v39=some (v40,h43))∧(
 bindV (aBuiltin Pg h43 .append [116,116] [v40,v42]) fun v44 h45=>(
 bindO (fstV (aNil x0 h45)) fun v46 =>
 bindO (fstV (still (aFieldAddr Pg 119 v46 3) h45)) fun v47 =>
 bindV (aStoreV Pg h45 116 v47 v44) fun _ h49=>(
 Meet (Jz2k Q n x0 x1 x5 x33 h49))))))))))) fun v h=>Q (.panic v) h)):=by kernel_rfl
theorem Jz2l_eq (Q:AEnd→AH→Prop) (h:AH):Jz2l Q h=(
 Q (.ret (V.int .i64 0)) h):=by kernel_rfl
theorem Lz76_eq (Q:AEnd→AH→Prop) (n:Nat) (x0 x1 x5 x33:V) (h:AH):Lz76 Q (n + 1) x0 x1 x5 x33 h=(
 bindV (still (aBin Pg .lss 3 x33 (V.int .i64 4) true) h) fun v15 h16 =>
 vcIf v15 (
 Meet (Jz2j Q n x0 x1 x5 x33 h16)) (
 Meet (Jz2l Q h16))):=by kernel_rfl
theorem Jz2i_eq (Q:AEnd→AH→Prop) (x0 x1 x5:V) (h:AH):Jz2i Q x0 x1 x5 h=(
 ∃ n,Meet (Lz76 Q n x0 x1 x5 (V.int .i64 0) h)):=by kernel_rfl
theorem Jz2h_eq (Q:AEnd→AH→Prop) (x0 x1 x5:V) (h:AH):Jz2h Q x0 x1 x5 h=(
 ACalls Pg 42 [x0] h (aEnd (fun v11 h12 =>
 bindV (still (aBin Pg .neq 39 v11 (V.int .i64 0) true) h12) fun v13 h14 =>
 vcIf v13 (
 Q (.ret v11) h14) (
 Meet (Jz2i Q x0 x1 x5 h14))) fun v h=>Q (.panic v) h)):=by kernel_rfl
theorem Jz2g_eq (Q:AEnd→AH→Prop) (x0 x1 x5 x27:V) (h:AH):Jz2g Q x0 x1 x5 x27 h=(
 vcIf x27 (
 Q (.ret (V.int .i64 1)) h) (
 Meet (Jz2h Q x0 x1 x5 h))):=by kernel_rfl
theorem Gz3_eq (Q:AEnd→AH→Prop) (x0 x1 x5 x20 x26:V) (h:AH):Gz3 Q x0 x1 x5 x20 x26 h=(
 bindV (aPick x20 (V.bool true) x26 h) fun v9 h10 =>
 Meet (Jz2g Q x0 x1 x5 v9 h10)):=by kernel_rfl
theorem Jz2f_eq (Q:AEnd→AH→Prop) (x0 x1 x5:V) (h:AH):Jz2f Q x0 x1 x5 h=(
 bindV (still (aBin Pg .lss 3 x1 (V.int .i64 0) true) h) fun v7 h8 =>
 vcG v7 false (
 bindV (aNil x0 h8) fun v52 h53 =>
 bindV (still (aFieldAddr Pg 119 v52 0) h53) fun v54 h55 =>
 bindV (aLoadV Pg h55 3 v54) fun v56 h57 =>
 bindV (still (aBin Pg .geq 3 x1 v56 false) h57) fun v58 h59 =>
 Meet (Gz3 Q x0 x1 x5 v7 v58 h59)) (Meet (Gz3 Q x0 x1 x5 v7 hole h8))):=by kernel_rfl
theorem Jz2e_eq (Q:AEnd→AH→Prop) (x0 x1 x5 x17:V) (h:AH):Jz2e Q x0 x1 x5 x17 h=(
 vcIf x17 (
 Q (.ret (V.int .i64 4)) h) (
 Meet (Jz2f Q x0 x1 x5 h))):=by kernel_rfl
theorem Gz2_eq (Q:AEnd→AH→Prop) (x0 x1 x5 x12 x16:V) (h:AH):Gz2 Q x0 x1 x5 x12 x16 h=(
 bindV (aPick x12 (V.bool true) x16 h) fun v5 h6 =>
 Meet (Jz2e Q x0 x1 x5 v5 h6)):=by kernel_rfl
theorem S14 (Q:AEnd→AH→Prop) (a0 a1 a2:V) (h:AH):vc Pg N14 B14 K14 (vcRet Pg R14 Q) (initEnv 0 [a0,a1,a2]) h=(
 bindV (aNew Pg h 56 a2) fun v1 h2 =>
 bindV (still (aBin Pg .eql 23 a0 (V.ptr none) true) h2) fun v3 h4 =>
 vcG v3 false (
 bindV (aNil a0 h4) fun v60 h61 =>
 bindV (still (aFieldAddr Pg 119 v60 7) h61) fun v62 h63 =>
 bindV (aLoadV Pg h63 4 v62) fun v64 h65 =>
 Meet (Gz2 Q a0 a1 v1 v3 v64 h65)) (Meet (Gz2 Q a0 a1 v1 v3 hole h4))):=by kernel_rfl
theorem C14 (Q:AEnd→AH→Prop) (a0 a1 a2:V) (h:AH) (c :
 bindV (aNew Pg h 56 a2) fun v1 h2 =>
 bindV (still (aBin Pg .eql 23 a0 (V.ptr none) true) h2) fun v3 h4 =>
 vcG v3 false (
 bindV (aNil a0 h4) fun v60 h61 =>
 bindV (still (aFieldAddr Pg 119 v60 7) h61) fun v62 h63 =>
 bindV (aLoadV Pg h63 4 v62) fun v64 h65 =>
 Meet (Gz2 Q a0 a1 v1 v3 v64 h65)) (Meet (Gz2 Q a0 a1 v1 v3 hole h4))):ACalls Pg 14 [a0,a1,a2] h Q :=
 acalls_of_vc okP Try.func14 (show Try.f14.body=some B14 from by kernel_rfl) K14 (by rw [← S14 Q a0 a1 a2 h] at c;exact c)
noncomputable def B18:Code:=(Try.f18.body).getD .skip
def R18:List ResultVar:=[.tmp 2]
abbrev N18:Nat:=19
def K18:KT:=(.seq .leaf (.join (.join (.reg [[0,6,10]]) (.two (.seq .leaf .leaf [2]) .leaf) [0,11]) (.join (.seq .leaf (.seq .leaf (.two (.seq .leaf .leaf [2]) .leaf) [0,3,15]) [0,3]) (.seq .leaf (.seq .leaf .leaf [2]) []) [0]) [0]) [0])
def Jz2v (Q:AEnd→AH→Prop) (x0:V) (h:AH):Prop:=vcAt Pg N18 B18 K18 [1,1,1] [] (vcRet Pg R18 Q) [(0,x0)] h
def Jz2u (Q:AEnd→AH→Prop) (x0:V) (h:AH):Prop:=vcAt Pg N18 B18 K18 [1,1] [] (vcRet Pg R18 Q) [(0,x0)] h
def Jz2t (Q:AEnd→AH→Prop) (x0 x11:V) (h:AH):Prop:=vcAt Pg N18 B18 K18 [1,0,1] [] (vcRet Pg R18 Q) [(0,x0),(11,x11)] h
def Gz4 (Q:AEnd→AH→Prop) (x0 x6 x10:V) (h:AH):Prop:=segAt Pg N18 B18 K18 [1,0,0] 2 1 [] (vcRet Pg R18 Q) [(0,x0),(6,x6),(10,x10)] h
theorem Jz2v_eq (Q:AEnd→AH→Prop) (x0:V) (h:AH):Jz2v Q x0 h=(
 ACalls Pg 46 [x0,(V.slc none 0),(V.bool true)] h (aEnd (fun v9 h10 =>
 Q (.ret (V.int .i64 0)) h10) fun v h=>Q (.panic v) h)):=by kernel_rfl
theorem Jz2u_eq (Q:AEnd→AH→Prop) (x0:V) (h:AH):Jz2u Q x0 h=(
 ACalls Pg 42 [x0] h (aEnd (fun v5 h6 =>
 bindV (still (aBin Pg .neq 39 v5 (V.int .i64 0) true) h6) fun v7 h8 =>
 vcIf v7 (
 Q (.ret v5) h8) (
 Meet (Jz2v Q x0 h8))) fun v h=>Q (.panic v) h)):=by kernel_rfl
theorem Jz2t_eq (Q:AEnd→AH→Prop) (x0 x11:V) (h:AH):Jz2t Q x0 x11 h=(
 vcIf x11 (
 Q (.ret (V.int .i64 4)) h) (
 Meet (Jz2u Q x0 h))):=by kernel_rfl
theorem Gz4_eq (Q:AEnd→AH→Prop) (x0 x6 x10:V) (h:AH):Gz4 Q x0 x6 x10 h=(
 bindV (aPick x6 (V.bool true) x10 h) fun v3 h4 =>
 Meet (Jz2t Q x0 v3 h4)):=by kernel_rfl
theorem S18 (Q:AEnd→AH→Prop) (a0:V) (h:AH):vc Pg N18 B18 K18 (vcRet Pg R18 Q) (initEnv 0 [a0]) h=(
 bindV (still (aBin Pg .eql 23 a0 (V.ptr none) true) h) fun v1 h2 =>
 vcG v1 false (
 bindV (aNil a0 h2) fun v11 h12 =>
 bindV (still (aFieldAddr Pg 119 v11 7) h12) fun v13 h14 =>
 bindV (aLoadV Pg h14 4 v13) fun v15 h16 =>
 Meet (Gz4 Q a0 v1 v15 h16)) (Meet (Gz4 Q a0 v1 hole h2))):=by kernel_rfl
theorem C18 (Q:AEnd→AH→Prop) (a0:V) (h:AH) (c :
 bindV (still (aBin Pg .eql 23 a0 (V.ptr none) true) h) fun v1 h2 =>
 vcG v1 false (
 bindV (aNil a0 h2) fun v11 h12 =>
 bindV (still (aFieldAddr Pg 119 v11 7) h12) fun v13 h14 =>
 bindV (aLoadV Pg h14 4 v13) fun v15 h16 =>
 Meet (Gz4 Q a0 v1 v15 h16)) (Meet (Gz4 Q a0 v1 hole h2))):ACalls Pg 18 [a0] h Q :=
 acalls_of_vc okP Try.func18 (show Try.f18.body=some B18 from by kernel_rfl) K18 (by rw [← S18 Q a0 h] at c;exact c)
noncomputable def B36:Code:=(Try.f36.body).getD .skip
def R36:List ResultVar:=[.cell 4 56,.tmp 5]
abbrev N36:Nat:=39
def K36:KT:=(.seq .leaf (.join (.join (.reg [[0,1,4,9,13]]) (.two (.seq .leaf .leaf [4,5]) .leaf) [0,1,4,14]) (.join (.join (.reg [[0,1,4,18,24]]) (.two (.seq .leaf .leaf [4,5]) .leaf) [0,1,4,25]) (.join (.seq .leaf (.seq .leaf (.two (.seq .leaf .leaf [4,5]) .leaf) [0,1,4,6,30]) [0,1,4,6]) (.seq .leaf .leaf [4,5]) [0,1,4]) [0,1,4]) [0,1,4]) [0,1,4])
def Jz3y (Q:AEnd→AH→Prop) (x0 x1 x4:V) (h:AH):Prop:=vcAt Pg N36 B36 K36 [1,1,1,1] [] (vcRet Pg R36 Q) [(0,x0),(1,x1),(4,x4)] h
def Jz3x (Q:AEnd→AH→Prop) (x0 x1 x4:V) (h:AH):Prop:=vcAt Pg N36 B36 K36 [1,1,1] [] (vcRet Pg R36 Q) [(0,x0),(1,x1),(4,x4)] h
def Jz3w (Q:AEnd→AH→Prop) (x0 x1 x4 x25:V) (h:AH):Prop:=vcAt Pg N36 B36 K36 [1,1,0,1] [] (vcRet Pg R36 Q) [(0,x0),(1,x1),(4,x4),(25,x25)] h
def Gzi (Q:AEnd→AH→Prop) (x0 x1 x4 x18 x24:V) (h:AH):Prop:=segAt Pg N36 B36 K36 [1,1,0,0] 2 1 [] (vcRet Pg R36 Q) [(0,x0),(1,x1),(4,x4),(18,x18),(24,x24)] h
def Jz3v (Q:AEnd→AH→Prop) (x0 x1 x4:V) (h:AH):Prop:=vcAt Pg N36 B36 K36 [1,1] [] (vcRet Pg R36 Q) [(0,x0),(1,x1),(4,x4)] h
def Jz3u (Q:AEnd→AH→Prop) (x0 x1 x4 x14:V) (h:AH):Prop:=vcAt Pg N36 B36 K36 [1,0,1] [] (vcRet Pg R36 Q) [(0,x0),(1,x1),(4,x4),(14,x14)] h
def Gzh (Q:AEnd→AH→Prop) (x0 x1 x4 x9 x13:V) (h:AH):Prop:=segAt Pg N36 B36 K36 [1,0,0] 2 1 [] (vcRet Pg R36 Q) [(0,x0),(1,x1),(4,x4),(9,x9),(13,x13)] h
theorem Jz3y_eq (Q:AEnd→AH→Prop) (x0 x1 x4:V) (h:AH):Jz3y Q x0 x1 x4 h=(
 bindV (aNil x0 h) fun v27 h28 =>
 bindV (still (aFieldAddr Pg 119 v27 2) h28) fun v29 h30 =>
 bindV (aLoadV Pg h30 115 v29) fun v31 h32 =>
 ACalls Pg 67 [v31,x1] h32 (aEnd (fun v33 h34 =>
 bindV (aStoreV Pg h34 56 x4 v33) fun _ h36 =>
 bindR (aRes Pg [(4,x4),(5,(V.int .i64 0))] h36 R36) fun v=>Q (.ret v) h36) fun v h=>Q (.panic v) h)):=by kernel_rfl
theorem Jz3x_eq (Q:AEnd→AH→Prop) (x0 x1 x4:V) (h:AH):Jz3x Q x0 x1 x4 h=(
 ACalls Pg 42 [x0] h (aEnd (fun v19 h20 =>
 bindV (still (aBin Pg .neq 39 v19 (V.int .i64 0) true) h20) fun v21 h22 =>
 vcIf v21 (
 bindV (still (aBuild Pg 56 []) h22) fun v23 h24 =>
 bindV (aStoreV Pg h24 56 x4 v23) fun _ h26 =>
 bindR (aRes Pg [(4,x4),(5,v19)] h26 R36) fun v=>Q (.ret v) h26) (
 Meet (Jz3y Q x0 x1 x4 h22))) fun v h=>Q (.panic v) h)):=by kernel_rfl
theorem Jz3w_eq (Q:AEnd→AH→Prop) (x0 x1 x4 x25:V) (h:AH):Jz3w Q x0 x1 x4 x25 h=(
 vcIf x25 (
 bindV (still (aBuild Pg 56 []) h) fun v15 h16 =>
 bindV (aStoreV Pg h16 56 x4 v15) fun _ h18 =>
 bindR (aRes Pg [(4,x4),(5,(V.int .i64 1))] h18 R36) fun v=>Q (.ret v) h18) (
 Meet (Jz3x Q x0 x1 x4 h))):=by kernel_rfl
theorem Gzi_eq (Q:AEnd→AH→Prop) (x0 x1 x4 x18 x24:V) (h:AH):Gzi Q x0 x1 x4 x18 x24 h=(
 bindV (aPick x18 (V.bool true) x24 h) fun v13 h14 =>
 Meet (Jz3w Q x0 x1 x4 v13 h14)):=by kernel_rfl
theorem Jz3v_eq (Q:AEnd→AH→Prop) (x0 x1 x4:V) (h:AH):Jz3v Q x0 x1 x4 h=(
 bindV (still (aBin Pg .lss 3 x1 (V.int .i64 0) true) h) fun v11 h12 =>
 vcG v11 false (
 bindV (aNil x0 h12) fun v37 h38 =>
 bindV (still (aFieldAddr Pg 119 v37 0) h38) fun v39 h40 =>
 bindV (aLoadV Pg h40 3 v39) fun v41 h42 =>
 bindV (still (aBin Pg .geq 3 x1 v41 false) h42) fun v43 h44 =>
 Meet (Gzi Q x0 x1 x4 v11 v43 h44)) (Meet (Gzi Q x0 x1 x4 v11 hole h12))):=by kernel_rfl
theorem Jz3u_eq (Q:AEnd→AH→Prop) (x0 x1 x4 x14:V) (h:AH):Jz3u Q x0 x1 x4 x14 h=(
 vcIf x14 (
 bindV (still (aBuild Pg 56 []) h) fun v7 h8 =>
 bindV (aStoreV Pg h8 56 x4 v7) fun _ h10 =>
 bindR (aRes Pg [(4,x4),(5,(V.int .i64 4))] h10 R36) fun v=>Q (.ret v) h10) (
 Meet (Jz3v Q x0 x1 x4 h))):=by kernel_rfl
theorem Gzh_eq (Q:AEnd→AH→Prop) (x0 x1 x4 x9 x13:V) (h:AH):Gzh Q x0 x1 x4 x9 x13 h=(
 bindV (aPick x9 (V.bool true) x13 h) fun v5 h6 =>
 Meet (Jz3u Q x0 x1 x4 v5 h6)):=by kernel_rfl
theorem S36 (Q:AEnd→AH→Prop) (a0 a1:V) (h:AH):vc Pg N36 B36 K36 (vcRet Pg R36 Q) (initEnv 0 [a0,a1]) h=(
 bindV (aAlloc Pg h 56) fun v1 h2 =>
 bindV (still (aBin Pg .eql 23 a0 (V.ptr none) true) h2) fun v3 h4 =>
 vcG v3 false (
 bindV (aNil a0 h4) fun v45 h46 =>
 bindV (still (aFieldAddr Pg 119 v45 7) h46) fun v47 h48 =>
 bindV (aLoadV Pg h48 4 v47) fun v49 h50 =>
 Meet (Gzh Q a0 a1 v1 v3 v49 h50)) (Meet (Gzh Q a0 a1 v1 v3 hole h4))):=by kernel_rfl
theorem C36 (Q:AEnd→AH→Prop) (a0 a1:V) (h:AH) (c :
 bindV (aAlloc Pg h 56) fun v1 h2 =>
 bindV (still (aBin Pg .eql 23 a0 (V.ptr none) true) h2) fun v3 h4 =>
 vcG v3 false (
 bindV (aNil a0 h4) fun v45 h46 =>
 bindV (still (aFieldAddr Pg 119 v45 7) h46) fun v47 h48 =>
 bindV (aLoadV Pg h48 4 v47) fun v49 h50 =>
 Meet (Gzh Q a0 a1 v1 v3 v49 h50)) (Meet (Gzh Q a0 a1 v1 v3 hole h4))):ACalls Pg 36 [a0,a1] h Q :=
 acalls_of_vc okP Try.func36 (show Try.f36.body=some B36 from by kernel_rfl) K36 (by rw [← S36 Q a0 a1 h] at c;exact c)
noncomputable def B42:Code:=(Try.f42.body).getD .skip
def R42:List ResultVar:=[.tmp 2]
abbrev N42:Nat:=38
def K42:KT:=(.seq .leaf (.seq .leaf (.join (.join (.reg [[0,15,24]]) (.two (.seq .leaf (.seq .leaf .leaf [2]) []) .leaf) [0,25]) (.join (.seq .leaf (.two (.seq .leaf .leaf [2]) .leaf) [37]) (.seq .leaf .leaf [2]) []) [0]) [0]) [0])
def Jz4u (Q:AEnd→AH→Prop) (h:AH):Prop:=vcAt Pg N42 B42 K42 [1,1,1,1] [] (vcRet Pg R42 Q) [] h
def Jz4t (Q:AEnd→AH→Prop) (x0:V) (h:AH):Prop:=vcAt Pg N42 B42 K42 [1,1,1] [] (vcRet Pg R42 Q) [(0,x0)] h
def Jz4s (Q:AEnd→AH→Prop) (x0 x25:V) (h:AH):Prop:=vcAt Pg N42 B42 K42 [1,1,0,1] [] (vcRet Pg R42 Q) [(0,x0),(25,x25)] h
def Gzw (Q:AEnd→AH→Prop) (x0 x15 x24:V) (h:AH):Prop:=segAtD Pg N42 B42 K42 [1,1,0,0] 2 1 15 [] (vcRet Pg R42 Q) [(0,x0),(15,x15),(24,x24)] h
theorem Jz4u_eq (Q:AEnd→AH→Prop) (h:AH):Jz4u Q h=(
 Q (.ret (V.int .i64 0)) h):=by kernel_rfl
theorem Jz4t_eq (Q:AEnd→AH→Prop) (x0:V) (h:AH):Jz4t Q x0 h=(
 bindO (fstV (aNil x0 h)) fun v26 =>
 bindO (fstV (still (aFieldAddr Pg 119 v26 4) h)) fun v27 =>
 bindO (fstV (aLoadV Pg h 117 v27)) fun v28 =>
 bindO (fstV (aNil x0 h)) fun v29 =>
 bindO (fstV (still (aFieldAddr Pg 119 v29 6) h)) fun v30 =>
 bindO (fstV (aLoadV Pg h 3 v30)) fun v31 =>
 bindO (fstV (still (aLookup Pg h 117 v28 v31 false) h)) fun v32 =>
 vcIf v32 (
 Q (.ret (V.int .i64 3)) h) (
 Meet (Jz4u Q h))):=by kernel_rfl
theorem Jz4s_eq (Q:AEnd→AH→Prop) (x0 x25:V) (h:AH):Jz4s Q x0 x25 h=(
 vcIf x25 (
 bindV (aNil x0 h) fun v20 h21 =>
 bindV (still (aFieldAddr Pg 119 v20 7) h21) fun v22 h23 =>
 bindV (aStoreV Pg h23 4 v22 (V.bool true)) fun _ h25 =>
 Q (.ret (V.int .i64 4)) h25) (
 Meet (Jz4t Q x0 h))):=by kernel_rfl
theorem Gzw_eq (Q:AEnd→AH→Prop) (x0 x15 x24:V) (h:AH):Gzw Q x0 x15 x24 h=(
 bindO (fstV (aPick x15 x24 (V.bool false) h)) fun v19 =>
 Meet (Jz4s Q x0 v19 h)):=by kernel_rfl
theorem S42 (Q:AEnd→AH→Prop) (a0:V) (h:AH):vc Pg N42 B42 K42 (vcRet Pg R42 Q) (initEnv 0 [a0]) h=(
 bindV (aNil a0 h) fun v1 h2 =>
 bindV (still (aFieldAddr Pg 119 v1 6) h2) fun v3 h4 =>
 bindV (aLoadV Pg h4 3 v3) fun v5 h6 =>
 bindV (still (aBin Pg .add 3 v5 (V.int .i64 1) true) h6) fun v7 h8 =>
 bindV (aNil a0 h8) fun v9 h10 =>
 bindV (still (aFieldAddr Pg 119 v9 6) h10) fun v11 h12 =>
 bindV (aStoreV Pg h12 3 v11 v7) fun _ h14 =>
 bindO (fstV (aNil a0 h14)) fun v15 =>
 bindO (fstV (still (aFieldAddr Pg 119 v15 5) h14)) fun v16 =>
 bindO (fstV (aLoadV Pg h14 3 v16)) fun v17 =>
 bindO (fstV (still (aBin Pg .geq 3 v17 (V.int .i64 1) true) h14)) fun v18 =>
 vcG v18 true (
 bindO (fstV (aNil a0 h14)) fun v33 =>
 bindO (fstV (still (aFieldAddr Pg 119 v33 6) h14)) fun v34 =>
 bindO (fstV (aLoadV Pg h14 3 v34)) fun v35 =>
 bindO (fstV (aNil a0 h14)) fun v36 =>
 bindO (fstV (still (aFieldAddr Pg 119 v36 5) h14)) fun v37 =>
 bindO (fstV (aLoadV Pg h14 3 v37)) fun v38 =>
 bindO (fstV (still (aBin Pg .eql 3 v35 v38 false) h14)) fun v39 =>
 Meet (Gzw Q a0 v18 v39 h14)) (Meet (Gzw Q a0 v18 hole h14))):=by kernel_rfl
theorem C42 (Q:AEnd→AH→Prop) (a0:V) (h:AH) (c :
 bindV (aNil a0 h) fun v1 h2 =>
 bindV (still (aFieldAddr Pg 119 v1 6) h2) fun v3 h4 =>
 bindV (aLoadV Pg h4 3 v3) fun v5 h6 =>
 bindV (still (aBin Pg .add 3 v5 (V.int .i64 1) true) h6) fun v7 h8 =>
 bindV (aNil a0 h8) fun v9 h10 =>
 bindV (still (aFieldAddr Pg 119 v9 6) h10) fun v11 h12 =>
 bindV (aStoreV Pg h12 3 v11 v7) fun _ h14 =>
 bindO (fstV (aNil a0 h14)) fun v15 =>
 bindO (fstV (still (aFieldAddr Pg 119 v15 5) h14)) fun v16 =>
 bindO (fstV (aLoadV Pg h14 3 v16)) fun v17 =>
 bindO (fstV (still (aBin Pg .geq 3 v17 (V.int .i64 1) true) h14)) fun v18 =>
 vcG v18 true (
 bindO (fstV (aNil a0 h14)) fun v33 =>
 bindO (fstV (still (aFieldAddr Pg 119 v33 6) h14)) fun v34 =>
 bindO (fstV (aLoadV Pg h14 3 v34)) fun v35 =>
 bindO (fstV (aNil a0 h14)) fun v36 =>
 bindO (fstV (still (aFieldAddr Pg 119 v36 5) h14)) fun v37 =>
 bindO (fstV (aLoadV Pg h14 3 v37)) fun v38 =>
 bindO (fstV (still (aBin Pg .eql 3 v35 v38 false) h14)) fun v39 =>
 Meet (Gzw Q a0 v18 v39 h14)) (Meet (Gzw Q a0 v18 hole h14))):ACalls Pg 42 [a0] h Q :=
 acalls_of_vc okP Try.func42 (show Try.f42.body=some B42 from by kernel_rfl) K42 (by rw [← S42 Q a0 h] at c;exact c)
noncomputable def B46:Code:=(Try.f46.body).getD .skip
def R46:List ResultVar:=[]
abbrev N46:Nat:=43
def K46:KT:=(.join (.seq .leaf (.one (.loop (.seq .leaf (.join (.two .leaf .leaf) (.join (.one (.seq .leaf (.join (.reg [[0,1,2,6,7,11,12,13,19,24],[0,1,2,7,11,12,13,19,24,28],[0,1,2,7,11,12,13,19,29]]) (.two (.eff [8]) .leaf) [0,1,2,7,11,12,13,30]) [0,1,2,6,7,11,12,13])) .leaf [0,1,2,11,12,13]) [0,1,2,11,12,13]) [0,1,2,11,12,13,14]) [0,1,2,11,12,13])) [0,1,2,11,12,13]) .leaf [0])
def Jz54 (Q:AEnd→AH→Prop) (n:Nat) (x0 x1 x2 x11 x12 x13:V) (h:AH):Prop:=vcAt Pg N46 B46 K46 [0,1,0,0,1,1,1] [n] (vcRet Pg R46 Q) [(0,x0),(1,x1),(2,x2),(11,x11),(12,x12),(13,x13)] h
def Jz53 (Q:AEnd→AH→Prop) (n:Nat) (x0 x1 x2 x7 x11 x12 x13 x30:V) (h:AH):Prop:=vcAt Pg N46 B46 K46 [0,1,0,0,1,1,0,0,1,1] [n] (vcRet Pg R46 Q) [(0,x0),(1,x1),(2,x2),(7,x7),(11,x11),(12,x12),(13,x13),(30,x30)] h
def Gz10 (Q:AEnd→AH→Prop) (n:Nat) (x0 x1 x2 x7 x11 x12 x13 x19 x29:V) (h:AH):Prop:=segAt Pg N46 B46 K46 [0,1,0,0,1,1,0,0,1,0] 4 3 [n] (vcRet Pg R46 Q) [(0,x0),(1,x1),(2,x2),(7,x7),(11,x11),(12,x12),(13,x13),(19,x19),(29,x29)] h
def Gzz (Q:AEnd→AH→Prop) (n:Nat) (x0 x1 x2 x7 x11 x12 x13 x19 x24 x28:V) (h:AH):Prop:=segAt Pg N46 B46 K46 [0,1,0,0,1,1,0,0,1,0] 3 2 [n] (vcRet Pg R46 Q) [(0,x0),(1,x1),(2,x2),(7,x7),(11,x11),(12,x12),(13,x13),(19,x19),(24,x24),(28,x28)] h
def Gzy (Q:AEnd→AH→Prop) (n:Nat) (x0 x1 x2 x6 x7 x11 x12 x13 x19 x24:V) (h:AH):Prop:=segAt Pg N46 B46 K46 [0,1,0,0,1,1,0,0,1,0] 2 1 [n] (vcRet Pg R46 Q) [(0,x0),(1,x1),(2,x2),(6,x6),(7,x7),(11,x11),(12,x12),(13,x13),(19,x19),(24,x24)] h
def Jz52 (Q:AEnd→AH→Prop) (n:Nat) (x0 x1 x2 x11 x12 x13:V) (h:AH):Prop:=vcAt Pg N46 B46 K46 [0,1,0,0,1,1] [n] (vcRet Pg R46 Q) [(0,x0),(1,x1),(2,x2),(11,x11),(12,x12),(13,x13)] h
def Jz55 (Q:AEnd→AH→Prop) (x0:V) (h:AH):Prop:=vcAt Pg N46 B46 K46 [1] [] (vcRet Pg R46 Q) [(0,x0)] h
def Lz7i (Q:AEnd→AH→Prop) (n:Nat) (x0 x1 x2 x11 x12 x13:V) (h:AH):Prop:=loopAt Pg N46 B46 K46 [0,1,0] [] n (vcRet Pg R46 Q) [(0,x0),(1,x1),(2,x2),(11,x11),(12,x12),(13,x13)] h
theorem Jz54_eq (Q:AEnd→AH→Prop) (n:Nat) (x0 x1 x2 x11 x12 x13:V) (h:AH):Jz54 Q n x0 x1 x2 x11 x12 x13 h=(
 bindV (still (aBin Pg .add 3 x13 (V.int .i64 1) true) h) fun v30 h31 =>
 Meet (Lz7i Q n x0 x1 x2 x11 x12 v30 h31)):=by kernel_rfl
theorem Jz53_eq (Q:AEnd→AH→Prop) (n:Nat) (x0 x1 x2 x7 x11 x12 x13 x30:V) (h:AH):Jz53 Q n x0 x1 x2 x7 x11 x12 x13 x30 h=(
 vcIf x30 (
 bindO (fstV (aNil x0 h)) fun v21 =>
 bindO (fstV (still (aFieldAddr Pg 119 v21 1) h)) fun v22 =>
 bindO (fstV (aLoadV Pg h 115 v22)) fun v23 =>
 (
 bindO (fstV (still (aFieldAddr Pg 125 x7 0) h)) fun v24 =>
 bindO (fstV (aLoadV Pg h 121 v24)) fun v25 =>
 (
 bindO (fstV (still (aFieldAddr Pg 125 x7 1) h)) fun v26 =>
 bindO (fstV (aLoadV Pg h 122 v26)) fun v27 =>
 (
 bindV (quietly (aMapSet Pg h 115 v23 v25 v27)) fun _ h29=>(
 Meet (Jz54 Q n x0 x1 x2 x11 x12 x13 h29)))))) (
 Meet (Jz54 Q n x0 x1 x2 x11 x12 x13 h))):=by kernel_rfl
theorem Gz10_eq (Q:AEnd→AH→Prop) (n:Nat) (x0 x1 x2 x7 x11 x12 x13 x19 x29:V) (h:AH):Gz10 Q n x0 x1 x2 x7 x11 x12 x13 x19 x29 h=(
 bindV (aPick x19 (V.bool true) x29 h) fun v19 h20 =>
 Meet (Jz53 Q n x0 x1 x2 x7 x11 x12 x13 v19 h20)):=by kernel_rfl
theorem Gzz_eq (Q:AEnd→AH→Prop) (n:Nat) (x0 x1 x2 x7 x11 x12 x13 x19 x24 x28:V) (h:AH):Gzz Q n x0 x1 x2 x7 x11 x12 x13 x19 x24 x28 h=(
 vcG x19 false (
 bindV (aPick x24 x28 (V.bool false) h) fun v32 h33 =>
 Meet (Gz10 Q n x0 x1 x2 x7 x11 x12 x13 x19 v32 h33)) (Meet (Gz10 Q n x0 x1 x2 x7 x11 x12 x13 x19 hole h))):=by kernel_rfl
theorem Gzy_eq (Q:AEnd→AH→Prop) (n:Nat) (x0 x1 x2 x6 x7 x11 x12 x13 x19 x24:V) (h:AH):Gzy Q n x0 x1 x2 x6 x7 x11 x12 x13 x19 x24 h=(
 vcG x24 true (
 bindV (still (aIndexAddr Pg 150 x1 x6) h) fun v34 h35 =>
 bindV (aLoadV Pg h35 4 v34) fun v36 h37 =>
 Meet (Gzz Q n x0 x1 x2 x7 x11 x12 x13 x19 x24 v36 h37)) (Meet (Gzz Q n x0 x1 x2 x7 x11 x12 x13 x19 x24 hole h))):=by kernel_rfl
theorem Jz52_eq (Q:AEnd→AH→Prop) (n:Nat) (x0 x1 x2 x11 x12 x13:V) (h:AH):Jz52 Q n x0 x1 x2 x11 x12 x13 h=(
 bindV (still (aIndexAddr Pg 116 x11 x13) h) fun v11 h12 =>
 bindV (aLoadV Pg h12 125 v11) fun v13 h14 =>
 bindV (aAlloc Pg h14 125) fun v15 h16 =>
 bindV (aStoreV Pg h16 125 v15 v13) fun _ h18 =>
 vcG x2 false (
 bindV (aBuiltin Pg h18 .len [150] [x1]) fun v38 h39 =>
 bindV (still (aBin Pg .lss 3 x13 v38 false) h39) fun v40 h41 =>
 Meet (Gzy Q n x0 x1 x2 x13 v15 x11 x12 x13 x2 v40 h41)) (Meet (Gzy Q n x0 x1 x2 x13 v15 x11 x12 x13 x2 hole h18))):=by kernel_rfl
theorem Jz55_eq (Q:AEnd→AH→Prop) (x0:V) (h:AH):Jz55 Q x0 h=(
 bindV (aNil x0 h) fun v42 h43 =>
 bindV (still (aFieldAddr Pg 119 v42 3) h43) fun v44 h45 =>
 bindV (aStoreV Pg h45 116 v44 (V.slc none 0)) fun _ h47 =>
 Q (.ret (V.tup [])) h47):=by kernel_rfl
theorem Lz7i_eq (Q:AEnd→AH→Prop) (n:Nat) (x0 x1 x2 x11 x12 x13:V) (h:AH):Lz7i Q (n + 1) x0 x1 x2 x11 x12 x13 h=(
 bindV (still (aBin Pg .lss 3 x13 x12 false) h) fun v9 h10 =>
 vcIf v9 (
 Meet (Jz52 Q n x0 x1 x2 x11 x12 x13 h10)) (
 Meet (Jz55 Q x0 h10))):=by kernel_rfl
theorem S46 (Q:AEnd→AH→Prop) (a0 a1 a2:V) (h:AH):vc Pg N46 B46 K46 (vcRet Pg R46 Q) (initEnv 0 [a0,a1,a2]) h=(
 bindV (aNil a0 h) fun v1 h2 =>
 bindV (still (aFieldAddr Pg 119 v1 3) h2) fun v3 h4 =>
 bindV (aLoadV Pg h4 116 v3) fun v5 h6 =>
 bindV (aBuiltin Pg h6 .len [116] [v5]) fun v7 h8 =>
 ∃ n,Meet (Lz7i Q n a0 a1 a2 v5 v7 (V.int .i64 0) h8)):=by kernel_rfl
theorem C46 (Q:AEnd→AH→Prop) (a0 a1 a2:V) (h:AH) (c :
 bindV (aNil a0 h) fun v1 h2 =>
 bindV (still (aFieldAddr Pg 119 v1 3) h2) fun v3 h4 =>
 bindV (aLoadV Pg h4 116 v3) fun v5 h6 =>
 bindV (aBuiltin Pg h6 .len [116] [v5]) fun v7 h8 =>
 ∃ n,Meet (Lz7i Q n a0 a1 a2 v5 v7 (V.int .i64 0) h8)):ACalls Pg 46 [a0,a1,a2] h Q :=
 acalls_of_vc okP Try.func46 (show Try.f46.body=some B46 from by kernel_rfl) K46 (by rw [← S46 Q a0 a1 a2 h] at c;exact c)
noncomputable def B67:Code:=(Try.f67.body).getD .skip
def R67:List ResultVar:=[.cell 4 56]
abbrev N67:Nat:=20
def K67:KT:=(.seq .leaf (.seq .leaf (.join (.seq .leaf (.one (.loop (.seq .leaf (.join (.two .leaf .leaf) (.join (.one (.seq .leaf (.eff [8]) [0,1,4,5,6,7])) .leaf [0,1,4,5,7]) [0,1,4,5,7]) [0,1,4,5,7,8]) [0,1,4,5,7])) [0,1,4,5,7]) (.seq .leaf .leaf [4]) [4,5]) [0,1,4,5]) [0,1,4])
def Jz6a (Q:AEnd→AH→Prop) (n:Nat) (x0 x1 x4 x5 x7:V) (h:AH):Prop:=vcAt Pg N67 B67 K67 [1,1,0,1,0,0,1,1,1] [n] (vcRet Pg R67 Q) [(0,x0),(1,x1),(4,x4),(5,x5),(7,x7)] h
def Jz69 (Q:AEnd→AH→Prop) (n:Nat) (x0 x1 x4 x5 x7:V) (h:AH):Prop:=vcAt Pg N67 B67 K67 [1,1,0,1,0,0,1,1] [n] (vcRet Pg R67 Q) [(0,x0),(1,x1),(4,x4),(5,x5),(7,x7)] h
def Jz6b (Q:AEnd→AH→Prop) (x4 x5:V) (h:AH):Prop:=vcAt Pg N67 B67 K67 [1,1,1] [] (vcRet Pg R67 Q) [(4,x4),(5,x5)] h
def Lz7l (Q:AEnd→AH→Prop) (n:Nat) (x0 x1 x4 x5 x7:V) (h:AH):Prop:=loopAt Pg N67 B67 K67 [1,1,0,1,0] [] n (vcRet Pg R67 Q) [(0,x0),(1,x1),(4,x4),(5,x5),(7,x7)] h
theorem Jz6a_eq (Q:AEnd→AH→Prop) (n:Nat) (x0 x1 x4 x5 x7:V) (h:AH):Jz6a Q n x0 x1 x4 x5 x7 h=(
 bindV (still (aBin Pg .add 3 x7 (V.int .i64 1) true) h) fun v13 h14 =>
 Meet (Lz7l Q n x0 x1 x4 x5 v13 h14)):=by kernel_rfl
theorem Jz69_eq (Q:AEnd→AH→Prop) (n:Nat) (x0 x1 x4 x5 x7:V) (h:AH):Jz69 Q n x0 x1 x4 x5 x7 h=(
 bindO (fstV (aLoadV Pg h 56 x5)) fun v7 =>
 (
 bindO (fstV (still (aBuild Pg 121 [(0,x1),(1,x7)]) h)) fun v8 =>
 bindO (fstV (still (aLookup Pg h 115 x0 v8 false) h)) fun v9 =>
 (
 ∃ v10,ACalls Pg 82 [v7,x7,v9] h (pureE v10 h)∧(
 (
 bindV (aStoreV Pg h 56 x5 v10) fun _ h12=>(
 Meet (Jz6a Q n x0 x1 x4 x5 x7 h12))))))):=by kernel_rfl
theorem Jz6b_eq (Q:AEnd→AH→Prop) (x4 x5:V) (h:AH):Jz6b Q x4 x5 h=(
 bindV (aLoadV Pg h 56 x5) fun v15 h16 =>
 bindV (aStoreV Pg h16 56 x4 v15) fun _ h18 =>
 bindR (aRes Pg [(4,x4)] h18 R67) fun v=>Q (.ret v) h18):=by kernel_rfl
theorem Lz7l_eq (Q:AEnd→AH→Prop) (n:Nat) (x0 x1 x4 x5 x7:V) (h:AH):Lz7l Q (n + 1) x0 x1 x4 x5 x7 h=(
 bindV (still (aBin Pg .lss 3 x7 (V.int .i64 4) true) h) fun v5 h6 =>
 vcIf v5 (
 Meet (Jz69 Q n x0 x1 x4 x5 x7 h6)) (
 Meet (Jz6b Q x4 x5 h6))):=by kernel_rfl
theorem S67 (Q:AEnd→AH→Prop) (a0 a1:V) (h:AH):vc Pg N67 B67 K67 (vcRet Pg R67 Q) (initEnv 0 [a0,a1]) h=(
 bindV (aAlloc Pg h 56) fun v1 h2 =>
 bindV (aAlloc Pg h2 56) fun v3 h4 =>
 ∃ n,Meet (Lz7l Q n a0 a1 v1 v3 (V.int .i64 0) h4)):=by kernel_rfl
theorem C67 (Q:AEnd→AH→Prop) (a0 a1:V) (h:AH) (c :
 bindV (aAlloc Pg h 56) fun v1 h2 =>
 bindV (aAlloc Pg h2 56) fun v3 h4 =>
 ∃ n,Meet (Lz7l Q n a0 a1 v1 v3 (V.int .i64 0) h4)):ACalls Pg 67 [a0,a1] h Q :=
 acalls_of_vc okP Try.func67 (show Try.f67.body=some B67 from by kernel_rfl) K67 (by rw [← S67 Q a0 a1 h] at c;exact c)
noncomputable def B71:Code:=(Try.f71.body).getD .skip
def R71:List ResultVar:=[.tmp 2]
abbrev N71:Nat:=9
def K71:KT:=(.seq .leaf (.join (.seq .leaf (.two (.seq .leaf .leaf [2]) .leaf) [0,4]) (.seq .leaf .leaf [2]) [0]) [0])
def Jz6l (Q:AEnd→AH→Prop) (x0:V) (h:AH):Prop:=vcAt Pg N71 B71 K71 [1,1] [] (vcRet Pg R71 Q) [(0,x0)] h
theorem Jz6l_eq (Q:AEnd→AH→Prop) (x0:V) (h:AH):Jz6l Q x0 h=(
 bindV (aNil x0 h) fun v3 h4 =>
 bindV (still (aFieldAddr Pg 119 v3 0) h4) fun v5 h6 =>
 bindV (aLoadV Pg h6 3 v5) fun v7 h8 =>
 Q (.ret v7) h8):=by kernel_rfl
theorem S71 (Q:AEnd→AH→Prop) (a0:V) (h:AH):vc Pg N71 B71 K71 (vcRet Pg R71 Q) (initEnv 0 [a0]) h=(
 bindV (still (aBin Pg .eql 23 a0 (V.ptr none) true) h) fun v1 h2 =>
 vcIf v1 (
 Q (.ret (V.int .i64 0)) h2) (
 Meet (Jz6l Q a0 h2))):=by kernel_rfl
theorem C71 (Q:AEnd→AH→Prop) (a0:V) (h:AH) (c :
 bindV (still (aBin Pg .eql 23 a0 (V.ptr none) true) h) fun v1 h2 =>
 vcIf v1 (
 Q (.ret (V.int .i64 0)) h2) (
 Meet (Jz6l Q a0 h2))):ACalls Pg 71 [a0] h Q :=
 acalls_of_vc okP Try.func71 (show Try.f71.body=some B71 from by kernel_rfl) K71 (by rw [← S71 Q a0 h] at c;exact c)
end Go.Proofs.Ytdfgfbammkojoaa.Sh
namespace Go.Proofs.Ytdfgfbammkojoaa.Sh
open Go Go.Ab Go.RowKit
open Go.Proofs.Ytdfgfbammkojoaa.Ru (Pg okP)
set_option maxRecDepth 10000
set_option linter.unusedSectionVars false
def EndsO (v:V) (h0:AH):AEnd→AH→Prop:=fun e h'=>e=.ret v∧∀ n,n < h0.next→h'.m n=h0.m n
theorem old_bytes (m:Nat→Bool) (l:List UInt8):oldV m (.agg (bytesV l))=true:=by
 show oldVs m (bytesV l)=true
 induction l with
 | nil=>rfl
 | cons b l ih=>exact ih
abbrev Sm:=List ((Nat × Nat) × List UInt8)
def plV (b i:Nat):V:=.agg [.int .i64 b,.int .i64 i]
def smV (l:Sm):List (V × V):=l.map fun x=>(plV x.1.1 x.1.2,.agg (bytesV x.2))
def smFind:Sm→Nat × Nat→Option (Nat × List UInt8)
 | [],_=>none
 | (k',s) :: l,k=>if k'=k then some (0,s) else (smFind l k).map fun x=>(x.1 + 1,x.2)
def smGet (l:Sm) (k:Nat × Nat):Option (List UInt8):=(smFind l k).map (·.2)
def smSet:Sm→Nat × Nat→List UInt8→Sm
 | [],k,s=>[(k,s)]
 | (k',s') :: l,k,s=>if k'=k then (k,s) :: l else (k',s') :: smSet l k s
theorem beq_pl (b i b' i':Nat):beqV (plV b i) (plV b' i')=some (decide ((b',i')=(b,i))):=by
 simp only [plV,beqV,beqVs,if_true]
 by_cases h1:b=b'
 · by_cases h2:i=i'
   · subst h1 h2;simp
   · subst h1
     have:((i:Int) == (i':Int))=false:=beq_eq_false_iff_ne.2 (by omega)
     simp [this,Ne.symm h2]
 · have:((b:Int) == (b':Int))=false:=beq_eq_false_iff_ne.2 (by omega)
   simp [this,Ne.symm h1]
theorem aFind_sm (b i:Nat):∀ l:Sm,aFind (plV b i) (smV l)=some ((smFind l (b,i)).map fun x=>(x.1,.agg (bytesV x.2)))
 | []=>rfl
 | ((b',i'),s) :: l=>by
   have e:smV (((b',i'),s) :: l)=(plV b' i',.agg (bytesV s)) :: smV l:=rfl
   rw [e,aFind,beq_pl]
   by_cases h:(b',i')=(b,i)
   · rw [decide_eq_true h,smFind,if_pos h];rfl
   · rw [decide_eq_false h,smFind,if_neg h]
     simp only [aFind_sm b i l]
     cases smFind l (b,i) with
     | none=>rfl
     | some x=>rfl
theorem smSet_some {k:Nat × Nat} {s s0:List UInt8}:∀ {l:Sm} {j:Nat},smFind l k=some (j,s0)→(smV l).set j (plV k.1 k.2,.agg (bytesV s))=smV (smSet l k s)
 | [],j,h=>by cases h
 | (k',s') :: l,j,h=>by
   unfold smFind at h
   by_cases q:k'=k
   · rw [if_pos q] at h
     simp only [Option.some.injEq,Prod.mk.injEq] at h
     obtain ⟨rfl,rfl⟩:=h
     rw [smSet,if_pos q];rfl
   · rw [if_neg q] at h
     cases hf:smFind l k with
     | none=>rw [hf] at h;cases h
     | some x =>
       rw [hf] at h
       simp only [Option.map_some,Option.some.injEq,Prod.mk.injEq] at h
       obtain ⟨rfl,rfl⟩:=h
       rw [smSet,if_neg q]
       have:=smSet_some (s:=s) hf
       show (plV k'.1 k'.2,V.agg (bytesV s')) :: (smV l).set x.1 _=_
       rw [this];rfl
theorem smSet_none {k:Nat × Nat} {s:List UInt8}:∀ {l:Sm},smFind l k=none→smV l++[(plV k.1 k.2,.agg (bytesV s))]=smV (smSet l k s)
 | [],h=>rfl
 | (k',s') :: l,h=>by
   unfold smFind at h
   by_cases q:k'=k
   · rw [if_pos q] at h;cases h
   · rw [if_neg q] at h
     have h2:smFind l k=none:=by
       cases hf:smFind l k with
       | none=>rfl
       | some x=>rw [hf] at h;cases h
     rw [smSet,if_neg q]
     have:=smSet_none (s:=s) h2
     show (plV k'.1 k'.2,V.agg (bytesV s')) :: (smV l++_)=_
     rw [this];rfl
def SmOk (l:Sm):Prop:=∀ x∈l,x.2.length=64
theorem smSet_ok {l:Sm} {k:Nat × Nat} {s:List UInt8} (h:SmOk l) (hs:s.length=64):SmOk (smSet l k s):=by
 induction l with
 | nil=>intro x hx;simp [smSet] at hx;subst hx;exact hs
 | cons y l ih =>
   intro x hx
   unfold smSet at hx
   split at hx
   · rcases List.mem_cons.1 hx with rfl | q
     · exact hs
     · exact h x (List.mem_cons_of_mem _ q)
   · rcases List.mem_cons.1 hx with rfl | q
     · exact h _ List.mem_cons_self
     · exact ih (fun z hz=>h z (List.mem_cons_of_mem _ hz)) x q
theorem smFind_mem {k:Nat × Nat}:∀ {l:Sm} {x:Nat × List UInt8},smFind l k=some x→(k,x.2)∈l
 | [],x,h=>by cases h
 | (k',s') :: l,x,h=>by
   unfold smFind at h
   by_cases q:k'=k
   · rw [if_pos q] at h;cases h;subst q;exact List.mem_cons_self
   · rw [if_neg q] at h
     cases hf:smFind l k with
     | none=>rw [hf] at h;cases h
     | some y=>rw [hf] at h;cases h;exact List.mem_cons_of_mem _ (smFind_mem (x:=y) hf)
def secAt (l:Sm) (b i:Nat):List UInt8:=(smGet l (b,i)).getD (zer 64)
theorem secAt_len {l:Sm} (h:SmOk l) (b i:Nat):(secAt l b i).length=64:=by
 unfold secAt smGet
 cases hf:smFind l (b,i) with
 | none=>exact zer_len 64
 | some x=>exact h _ (smFind_mem hf)
def blkTo (l:Sm) (b:Nat) (i:Nat):List UInt8:=(List.range i).flatMap (secAt l b)
def blkAt (l:Sm) (b:Nat):List UInt8:=blkTo l b 4
theorem blkTo_len {l:Sm} (h:SmOk l) (b:Nat):∀ i:Nat,(blkTo l b i).length=64 * i
 | 0=>rfl
 | i + 1=>by
   have ih:=blkTo_len h b i
   unfold blkTo at *
   rw [List.range_succ,List.flatMap_append,List.length_append,ih]
   simp [secAt_len h b i];omega
theorem blkAt_len {l:Sm} (h:SmOk l) (b:Nat):(blkAt l b).length=256:=blkTo_len h b 4
theorem mapLk {h:AH} {n:Nat} {l:Sm} (hm:h.m n=some (.mp 121 122 (smV l))) (b i:Nat):aLookup Pg h 115 (.map (some n)) (plV b i) false=some (.agg (bytesV (secAt l b i))):=by
 have hu:ul Pg 115=some (.map 121 122):=by kernel_rfl
 have hp:(plainT Pg 20 121 && hasShape Pg (plV b i) 121)=true:=by kernel_rfl
 unfold aLookup
 rw [hu]
 simp only [hp,if_true,hm,and_self]
 rw [aFind_sm]
 unfold secAt smGet
 cases smFind l (b,i) with
 | none=>simp only [Option.map_none,zSec];rfl
 | some x=>rfl
theorem mapSt {h:AH} {n:Nat} {l:Sm} (hm:h.m n=some (.mp 121 122 (smV l))) (b i:Nat) {s:List UInt8} (hs:s.length=64) :
   ∃ h',quietly (aMapSet Pg h 115 (.map (some n)) (plV b i) (.agg (bytesV s)))=some (hole,h')∧Upd h h' n (.mp 121 122 (smV (smSet l (b,i) s))):=by
 have hu:ul Pg 115=some (.map 121 122):=by kernel_rfl
 have hp:(plainT Pg 20 121 && hasShape Pg (plV b i) 121)=true:=by kernel_rfl
 unfold aMapSet
 rw [hu]
 simp only [hp,shSec hs,Bool.and_self,if_true,hm,and_self]
 rw [aFind_sm]
 cases hf:smFind l (b,i) with
 | none =>
   simp only [Option.map_none]
   rw [smSet_none hf]
   exact ⟨_,rfl,upd_put _ _ _⟩
 | some x =>
   simp only [Option.map_some]
   rw [smSet_some hf]
   exact ⟨_,rfl,upd_put _ _ _⟩
section
variable {l:Sm} {b:Nat}
theorem lay_to (hl:SmOk l) {i:Nat} (hi:i < 4):layS (blkTo l b i++zer (256 - 64 * i)) i (secAt l b i)=blkTo l b (i + 1)++zer (256 - 64 * (i + 1)):=by
 have h1:=blkTo_len hl b i
 unfold layS
 rw [List.take_append_of_le_length (by omega),List.take_of_length_le (by omega),List.drop_append,List.drop_eq_nil_of_le (by omega),List.nil_append,h1]
 have e1:(zer (256 - 64 * i)).drop (64 * i + 64 - 64 * i)=zer (256 - 64 * (i + 1)):=by
   unfold zer
   rw [List.drop_replicate]
   congr 1;omega
 rw [e1]
 unfold blkTo
 rw [List.range_succ,List.flatMap_append]
 simp
theorem gatherL (hl:SmOk l) {h0:AH} {n nO nR:Nat} (hR:nR ≥ h0.next) (hO:nO ≥ h0.next) (hne:nO≠nR):∀ (j i m:Nat) (h:AH),i + j=4→j < m→h.m n=some (.mp 121 122 (smV l))→(∃ w,h.m nR=some (.cells true (.one 56) w))→h.m nO=some (.cells true (.one 56) (.agg (bytesV (blkTo l b i++zer (256 - 64 * i))))) →
   (∀ q,q < h0.next→h.m q=h0.m q)→Lz7l (EndsO (.agg (bytesV (blkAt l b))) h0) m (.map (some n)) (.int .i64 b) (blP nR) (blP nO) (.int .i64 i) h
 | j,i,0,h,hij,hm,_,_,_,_=>by omega
 | 0,i,m + 1,h,hij,hm,fm,⟨w,fR⟩,fO,fr=>by
   obtain rfl:i=4:=by omega
   rw [Lz7l_eq]
   refine bindS_mk b_lss ?_
   rw [decide_eq_false (by omega)]
   refine i_f ?_
   have e0:blkTo l b 4++zer (256 - 64 * 4)=blkAt l b:=by show blkTo l b 4++[]=_;rw [List.append_nil];rfl
   rw [e0] at fO
   refine Meet.of (cast_p (Jz6b_eq _ _ _ _) ?_)
   refine bindV_mk (ld_mk (p:=[]) fO (by kernel_rfl) rfl) ?_
   refine bindE (st_at (p:=[]) fR (by kernel_rfl) rfl (shBlk (blkAt_len hl b)) rfl) fun h1 u1=>?_
   have q1:=ld_mk (P:=Pg) (t:=56) (p:=[]) u1.at_ (by kernel_rfl) (w:=.agg (bytesV (blkAt l b))) rfl
   simp only [aLoadV] at q1
   have q2:=(still_some q1).1
   refine bindR_mk (show aRes Pg _ _ R67=some [.agg (bytesV (blkAt l b))] by simp [R67,aRes,Env.get,q2]) ?_
   exact ⟨rfl,fun q hq=>(u1.other _ (by omega)).trans (fr q hq)⟩
 | j + 1,i,m + 1,h,hij,hm,fm,⟨w,fR⟩,fO,fr=>by
   rw [Lz7l_eq]
   refine bindS_mk b_lss ?_
   rw [decide_eq_true (by omega)]
   refine i_t ?_
   refine Meet.of (cast_p (Jz69_eq _ _ _ _ _ _ _ _) ?_)
   refine bindVO_mk (ld_mk (p:=[]) fO (by kernel_rfl) rfl) ?_
   refine bindSO_mk (show aBuild Pg 121 [(0,.int .i64 b),(1,.int .i64 i)]=some (plV b i) by kernel_rfl) ?_
   refine bindSO_mk (mapLk fm b i) ?_
   have hlen:(blkTo l b i++zer (256 - 64 * i)).length=256:=by rw [List.length_append,blkTo_len hl,zer_len];omega
   refine ⟨_,layP hlen (secAt_len hl b i) (by omega) h,?_⟩
   rw [lay_to hl (by omega)]
   have hlen2:(blkTo l b (i + 1)++zer (256 - 64 * (i + 1))).length=256:=by rw [List.length_append,blkTo_len hl,zer_len];omega
   refine bindE (st_at (p:=[]) fO (by kernel_rfl) rfl (shBlk hlen2) rfl) fun h1 u1=>?_
   refine Meet.of (cast_p (Jz6a_eq _ _ _ _ _ _ _ _) ?_)
   refine bindS_mk (w_add (wrap_i64 (by omega) (by omega))) ?_
   have hno:n≠nO:=ne_tag fm fO (by simp [AO.tag])
   exact Meet.of (gatherL hl hR hO hne j (i + 1) m h1 (by omega) (by omega) ((u1.other _ hno).trans fm) ⟨w,(u1.other _ hne.symm).trans fR⟩ u1.at_ fun q hq=>(u1.other _ (by omega)).trans (fr q hq))
end
theorem gatherP {h:AH} {n:Nat} {l:Sm} (hl:SmOk l) (hn:n < h.next) (fm:h.m n=some (.mp 121 122 (smV l))) (b:Nat):ACalls Pg 67 [.map (some n),.int .i64 b] h (pureE (.agg (bytesV (blkAt l b))) h):=by
 refine acalls_forget (show oldV _ (V.agg (bytesV (blkAt l b)))=true from old_bytes _ _) ?_
 show ACalls Pg 67 _ h (EndsO _ h)
 refine C67 _ _ _ _ ?_
 refine bindE (al_at zBlk (shBlk (zer_len 256))) fun h1 u1=>?_
 have n1:=u1.next
 refine bindE (al_at zBlk (shBlk (zer_len 256))) fun h2 u2=>?_
 have n2:=u2.next
 exact ⟨5,Meet.of (gatherL hl (Nat.le_refl _) (by omega) (by omega) 4 0 5 h2 (by omega) (by omega) ((u2.other _ (by omega)).trans ((u1.other _ (by omega)).trans fm)) ⟨_,(u2.other _ (by omega)).trans u1.at_⟩ u2.at_ fun q hq=>(u2.other _ (by omega)).trans (u1.other _ (by omega)))⟩
end Go.Proofs.Ytdfgfbammkojoaa.Sh
namespace Go.Proofs.Ytdfgfbammkojoaa.Sh
open Go Go.Ab Go.RowKit
open Go.Proofs.Ytdfgfbammkojoaa.Ru (Pg okP)
set_option maxRecDepth 10000
set_option linter.unusedSectionVars false
def RwB (e:TypeId) (h:AH) (x:V) (xs:List V):Prop :=
 (x=.slc none 0∧xs=[])∨∃ n,n < h.next∧x=.slc (some (⟨n,.row e,[]⟩,0)) xs.length∧h.m n=some (.cells true (.row e) (.agg xs))
theorem RwB.keep {T:Tags} {e:TypeId} {h h':AH} {x:V} {xs:List V} (b:RwB e h x xs) (q:Keeps T h h') (ht:T.contains (1,e,0)=false):RwB e h' x xs:=by
 rcases b with ⟨rfl,rfl⟩ | ⟨n,h1,rfl,h3⟩
 · exact .inl ⟨rfl,rfl⟩
 · exact .inr ⟨n,by have:=q.next;omega,rfl,q.at h3 h1 ht⟩
theorem RwB.elems {e:TypeId} {h:AH} {x:V} {xs:List V} (b:RwB e h x xs):aElems Pg h e x=some xs:=by
 rcases b with ⟨rfl,rfl⟩ | ⟨n,h1,rfl,h3⟩
 · rfl
 · exact elems_row h3
theorem RwB.shape {e:TypeId} {h:AH} {x:V} {xs:List V} (b:RwB e h x xs):∃ a,x=.slc a xs.length:=by
 rcases b with ⟨rfl,rfl⟩ | ⟨n,h1,rfl,h3⟩ <;> exact ⟨_,rfl⟩
theorem RwB.app {e t xt:TypeId} {h:AH} {x y:V} {xs ws:List V} (b:RwB e h x xs) (hc:apOk Pg t xt e=true) (hy:aElems Pg h e y=some ws) (hw:ws≠[]) (hl:(xs.length + ws.length) * Pg.bytesOf e≤140737488355328) :
   ∃ v h',aBuiltin Pg h .append [t,xt] [x,y]=some (v,h')∧RwB e h' v (xs++ws)∧Keeps [(1,e,0)] h h':=by
 rcases b with ⟨rfl,rfl⟩ | ⟨n,h1,rfl,h3⟩
 · obtain ⟨h',e1,u⟩:=apN_at (n:=0) hc hy hw (by simpa using hl)
   exact ⟨_,h',e1,.inr ⟨h.next,by rw [u.next];omega,rfl,u.at_⟩,Keeps.new u⟩
 · obtain ⟨h',e1,u⟩:=apR_at (i:=0) (n:=xs.length) hc h1 h3 (by omega) hy hw hl
   refine ⟨_,h',e1,.inr ⟨h.next,by rw [u.next];omega,by rw [List.length_append],?_⟩,Keeps.rep u h3 (by simp [AO.tag])⟩
   rw [u.at_,List.drop_zero,List.take_of_length_le (by omega)]
structure Dk where
 n:Nat
 sure:Sm
 seen:Sm
 pend:Sm
 fails:Int→Bool
 fuse:Int
 ops:Nat
 down:Bool
structure Dk.ok (d:Dk):Prop where
 n:1≤d.n∧d.n≤2048
 sure:SmOk d.sure
 seen:SmOk d.seen
 pend:SmOk d.pend
 fuse:-9223372036854775808≤d.fuse∧d.fuse < 9223372036854775808
def wrV (x:(Nat × Nat) × List UInt8):V:=.agg [plV x.1.1 x.1.2,.agg (bytesV x.2)]
def FailsA (h:AH) (v:V) (f:Int→Bool):Prop :=
 (v=.map none∧∀ i,f i=false)∨∃ n es,n < h.next∧v=.map (some n)∧h.m n=some (.mp 3 4 es)∧∀ i:Int,(aFind (.int .i64 i) es=some none∧f i=false)∨∃ j,aFind (.int .i64 i) es=some (some (j,.bool (f i)))
theorem FailsA.keep {T:Tags} {h h':AH} {v:V} {f:Int→Bool} (b:FailsA h v f) (q:Keeps T h h') (ht:T.contains (2,3,4)=false):FailsA h' v f:=by
 rcases b with ⟨rfl,g⟩ | ⟨n,es,h1,rfl,h3,h4⟩
 · exact .inl ⟨rfl,g⟩
 · exact .inr ⟨n,es,by have:=q.next;omega,rfl,q.at h3 h1 ht,h4⟩
theorem FailsA.look {h:AH} {v:V} {f:Int→Bool} (b:FailsA h v f) (i:Int):aLookup Pg h 117 v (.int .i64 i) false=some (.bool (f i)):=by
 have hu:ul Pg 117=some (.map 3 4):=by kernel_rfl
 have hp:(plainT Pg 20 3 && hasShape Pg (.int .i64 i) 3)=true:=by kernel_rfl
 have hz:zeroV Pg 4=some (.bool false):=by kernel_rfl
 unfold aLookup
 rw [hu]
 rcases b with ⟨rfl,g⟩ | ⟨n,es,h1,rfl,h3,h4⟩
 · simp only [hp,if_true,hz,g];rfl
 · simp only [hp,if_true,h3,and_self]
   rcases h4 i with ⟨g1,g2⟩ | ⟨j,g1⟩
   · simp only [g1,hz,g2];rfl
   · simp only [g1];rfl
def dkV (d:Dk) (a b:Nat) (pv fv:V):V:=.agg [.int .i64 d.n,.map (some a),.map (some b),pv,fv,.int .i64 d.fuse,.int .i64 d.ops,.bool d.down]
structure DkB (h:AH) (p a b:Nat) (pv fv:V) (d:Dk):Prop where
 disk:h.m p=some (.cells true (.one 119) (dkV d a b pv fv))
 fsure:h.m a=some (.mp 121 122 (smV d.sure))
 fseen:h.m b=some (.mp 121 122 (smV d.seen))
 fpend:RwB 125 h pv (d.pend.map wrV)
 ffails:FailsA h fv d.fails
 o:p < h.next∧a < h.next∧b < h.next∧a≠b
 ok:d.ok
def DkA (h:AH) (p:Nat) (d:Dk):Prop:=∃ a b pv fv,DkB h p a b pv fv d
abbrev dkP (p:Nat):V:=.ptr (some ⟨p,.one 119,[]⟩)
abbrev TD1:Tags:=[(0,119,0)]
abbrev TDs:Tags:=[(0,119,0),(2,121,122),(1,125,0)]
theorem DkB.keep {T:Tags} {h h':AH} {p a b:Nat} {pv fv:V} {d:Dk} (k:DkB h p a b pv fv d) (q:Keeps T h h') (h1:T.contains (0,119,0)=false) (h2:T.contains (2,121,122)=false) (h3:T.contains (1,125,0)=false) (h4:T.contains (2,3,4)=false):DkB h' p a b pv fv d:=by
 obtain ⟨k1,k2,k3,k4,k5,⟨o1,o2,o3,o4⟩,ok⟩:=k
 have:=q.next
 exact ⟨q.at k1 o1 h1,q.at k2 o2 h2,q.at k3 o3 h2,k4.keep q h3,k5.keep q h4,⟨by omega,by omega,by omega,o4⟩,ok⟩
theorem DkA.keep {T:Tags} {h h':AH} {p:Nat} {d:Dk} (k:DkA h p d) (q:Keeps T h h') (h1:T.contains (0,119,0)=false) (h2:T.contains (2,121,122)=false) (h3:T.contains (1,125,0)=false) (h4:T.contains (2,3,4)=false):DkA h' p d:=by
 obtain ⟨a,b,pv,fv,k⟩:=k
 exact ⟨a,b,pv,fv,k.keep q h1 h2 h3 h4⟩
theorem DkB.set {h h':AH} {p a b:Nat} {pv fv:V} {d d':Dk} (k:DkB h p a b pv fv d) (u:Upd h h' p (.cells true (.one 119) (dkV d' a b pv fv))) (e1:d'.sure=d.sure) (e2:d'.seen=d.seen) (e3:d'.pend=d.pend) (e4:d'.fails=d.fails) (ok:d'.ok):DkB h' p a b pv fv d':=by
 obtain ⟨k1,k2,k3,k4,k5,⟨o1,o2,o3,o4⟩,_⟩:=k
 have q:Keeps TD1 h h':=Keeps.upd u k1 rfl rfl
 have:=q.next
 refine ⟨u.at_,?_,?_,?_,?_,⟨by omega,by omega,by omega,o4⟩,ok⟩
 · rw [e1];exact q.at k2 o2 rfl
 · rw [e2];exact q.at k3 o3 rfl
 · rw [e3];exact k4.keep q rfl
 · rw [e4];exact k5.keep q rfl
def Dk.op (d:Dk):Int × Dk :=
 if 1≤d.fuse∧((d.ops + 1:Nat):Int)=d.fuse then (4,{ d with ops:=d.ops + 1,down:=true })
 else if d.fails ((d.ops + 1:Nat):Int) then (3,{ d with ops:=d.ops + 1 }) else (0,{ d with ops:=d.ops + 1 })
section
variable {h:AH} {p:Nat} {d:Dk}
theorem dkOpB {a b:Nat} {pv fv:V} (k:DkB h p a b pv fv d) (ho:d.ops < 1000000000000):ACalls Pg 42 [dkP p] h (Gives TD1 h (.int .i64 d.op.1) fun h'=>DkB h' p a b pv fv d.op.2∧Only p h h'):=by
 refine C42 _ _ _ ?_
 refine bindV_mk rfl ?_
 refine bindS_mk (fa_mk (by kernel_rfl)) ?_
 refine bindV_mk (ld_mk k.disk (by kernel_rfl) (w:=.int .i64 d.ops) rfl) ?_
 refine bindS_mk (w_add (wrap_i64 (by omega) (by omega))) ?_
 refine bindV_mk rfl ?_
 refine bindS_mk (fa_mk (by kernel_rfl)) ?_
 refine bindE (st_at k.disk (by kernel_rfl) (w:=.int .i64 d.ops) rfl (by kernel_rfl) (v':=dkV { d with ops:=d.ops + 1 } a b pv fv) rfl) fun h1 u1=>?_
 have k1:=k.set u1 rfl rfl rfl rfl ⟨k.ok.n,k.ok.sure,k.ok.seen,k.ok.pend,k.ok.fuse⟩
 have q1:Keeps TD1 h h1:=Keeps.upd u1 k.disk rfl rfl
 have oo:Only p h h1:=Only.upd u1
 have rest:¬ (1≤d.fuse∧((d.ops + 1:Nat):Int)=d.fuse)→∀ c,c=false→Jz4s (Gives TD1 h (.int .i64 d.op.1) fun h'=>DkB h' p a b pv fv d.op.2∧Only p h h') (dkP p) (.bool c) h1:=by
   intro hn c hc
   subst hc
   rw [Jz4s_eq]
   refine i_f ?_
   refine Meet.of (cast_p (Jz4t_eq _ _ _) ?_)
   refine bindVO_mk rfl ?_
   refine bindSO_mk (fa_mk (by kernel_rfl)) ?_
   refine bindVO_mk (ld_mk k1.disk (by kernel_rfl) (w:=fv) rfl) ?_
   refine bindVO_mk rfl ?_
   refine bindSO_mk (fa_mk (by kernel_rfl)) ?_
   refine bindVO_mk (ld_mk k1.disk (by kernel_rfl) (w:=.int .i64 ((d.ops + 1:Nat):Int)) rfl) ?_
   refine bindSO_mk (k1.ffails.look _) ?_
   have e0:d.op=if d.fails ((d.ops + 1:Nat):Int) then (3,{ d with ops:=d.ops + 1 }) else (0,{ d with ops:=d.ops + 1 }):=by unfold Dk.op;rw [if_neg hn]
   rw [e0]
   refine i_split (fun c=>?_) (fun c=>?_)
   · replace c:d.fails ((d.ops + 1:Nat):Int)=true:=c
     rw [if_pos c]
     exact ⟨rfl,q1,k1,oo⟩
   · replace c:d.fails ((d.ops + 1:Nat):Int)=false:=c
     rw [if_neg (by rw [c];decide)]
     refine Meet.of (cast_p (Jz4u_eq _ _) ?_)
     exact ⟨rfl,q1,k1,oo⟩
 refine bindVO_mk rfl ?_
 refine bindSO_mk (fa_mk (by kernel_rfl)) ?_
 refine bindVO_mk (ld_mk k1.disk (by kernel_rfl) (w:=.int .i64 d.fuse) rfl) ?_
 refine bindSO_mk b_geq ?_
 refine g_split_t (fun c=>?_) (fun c=>?_)
 · rw [c]
   replace c:=of_decide_eq_true c
   refine bindVO_mk rfl ?_
   refine bindSO_mk (fa_mk (by kernel_rfl)) ?_
   refine bindVO_mk (ld_mk k1.disk (by kernel_rfl) (w:=.int .i64 ((d.ops + 1:Nat):Int)) rfl) ?_
   refine bindVO_mk rfl ?_
   refine bindSO_mk (fa_mk (by kernel_rfl)) ?_
   refine bindVO_mk (ld_mk k1.disk (by kernel_rfl) (w:=.int .i64 d.fuse) rfl) ?_
   refine bindSO_mk b_eql ?_
   refine Meet.of (cast_p (Gzw_eq _ _ _ _ _) ?_)
   refine bindVO_mk p_t ?_
   by_cases e:((d.ops + 1:Nat):Int)=d.fuse
   · rw [show (((d.ops + 1:Nat):Int) == d.fuse)=true from beq_iff_eq.2 e]
     have e0:d.op=(4,{ d with ops:=d.ops + 1,down:=true }):=by unfold Dk.op;rw [if_pos ⟨by omega,e⟩]
     rw [e0]
     refine Meet.of (cast_p (Jz4s_eq _ _ _ _) ?_)
     refine i_t ?_
     refine bindV_mk rfl ?_
     refine bindS_mk (fa_mk (by kernel_rfl)) ?_
     refine bindE (st_at k1.disk (by kernel_rfl) (w:=.bool d.down) rfl (by kernel_rfl) (v':=dkV { d with ops:=d.ops + 1,down:=true } a b pv fv) rfl) fun h2 u2=>?_
     have k2:=k1.set u2 rfl rfl rfl rfl ⟨k.ok.n,k.ok.sure,k.ok.seen,k.ok.pend,k.ok.fuse⟩
     exact ⟨rfl,q1.trans (Keeps.upd u2 k1.disk rfl rfl),k2,oo.trans (Only.upd u2)⟩
   · exact Meet.of (rest (fun q=>e q.2) _ (beq_eq_false_iff_ne.2 e))
 · rw [c]
   replace c:=of_decide_eq_false c
   refine Meet.of (cast_p (Gzw_eq _ _ _ _ _) ?_)
   refine bindVO_mk p_f ?_
   exact Meet.of (rest (fun q=>by omega) _ rfl)
theorem dkOp (k:DkA h p d) (ho:d.ops < 1000000000000):ACalls Pg 42 [dkP p] h (Gives TD1 h (.int .i64 d.op.1) fun h'=>DkA h' p d.op.2):=by
 obtain ⟨a,b,pv,fv,k⟩:=k
 exact (dkOpB k ho).mono fun e h' q=>⟨q.1,q.2.1,a,b,pv,fv,q.2.2.1⟩
theorem dkSize (k:DkA h p d):ACalls Pg 71 [dkP p] h (pureE (.int .i64 d.n) h):=by
 obtain ⟨a,b,pv,fv,k⟩:=k
 refine C71 _ _ _ ?_
 refine bindS_mk (show aBin Pg .eql 23 (.ptr (some _)) (.ptr none) true=some (.bool false) by kernel_rfl) ?_
 refine i_f ?_
 refine Meet.of (cast_p (Jz6l_eq _ _ _) ?_)
 refine bindV_mk rfl ?_
 refine bindS_mk (fa_mk (by kernel_rfl)) ?_
 refine bindV_mk (ld_mk k.disk (by kernel_rfl) rfl) ?_
 exact ⟨rfl,rfl⟩
end
end Go.Proofs.Ytdfgfbammkojoaa.Sh
namespace Go.Proofs.Ytdfgfbammkojoaa.Sh
open Go Go.Ab Go.RowKit
open Go.Proofs.Ytdfgfbammkojoaa.Ru (Pg okP)
set_option maxRecDepth 10000
set_option maxHeartbeats 4000000
set_option linter.unusedSectionVars false
noncomputable def frameF (s:List UInt8):List UInt8:=if s.length < 1∨400 < s.length then [] else putL s.length 2++putL (crcS s) 4++s
theorem frame_len {s:List UInt8} (h:1≤s.length) (h2:s.length≤400):(frameF s).length=s.length + 6:=by
 unfold frameF
 rw [if_neg (by omega)]
 simp only [List.length_append,putL_len]
 omega
theorem frameP (s:List UInt8) (hs:s.length < 1000000) (h:AH):ACalls Pg 57 [.str s] h (pureE (.str (frameF s)) h):=by
 refine C57 _ _ _ ?_
 by_cases c1:s.length < 1
 · have e:frameF s=[]:=by unfold frameF;rw [if_pos (.inl c1)]
   rw [e]
   have:(s.length:Int) < 1:=by omega
   refine fV_lenS (by kernel_rfl) ?_
   refine fS_lss_t (by omega) ?_
   refine g_tf ?_
   refine Meet.of (cast_p (Gz1c_eq ..) ?_)
   refine fV_pt ?_
   refine Meet.of (cast_p (Jz5y_eq ..) ?_)
   refine i_t ?_
   exact ⟨rfl,rfl⟩
 have h1:¬ (s.length:Int) < 1:=by omega
 by_cases c2:400 < s.length
 · have e:frameF s=[]:=by unfold frameF;rw [if_pos (.inr c2)]
   rw [e]
   refine fV_lenS (by kernel_rfl) ?_
   refine fS_lss_f (by omega) ?_
   refine g_ff ?_
   refine fV_lenS (by kernel_rfl) ?_
   refine fS_gtr_t (by omega) ?_
   refine Meet.of (cast_p (Gz1c_eq ..) ?_)
   refine fV_pf ?_
   refine Meet.of (cast_p (Jz5y_eq ..) ?_)
   refine i_t ?_
   exact ⟨rfl,rfl⟩
 have e:frameF s=putL s.length 2++putL (crcS s) 4++s:=by unfold frameF;rw [if_neg (by omega)]
 rw [e]
 have cl:=crcS_lt s
 refine fV_lenS (by kernel_rfl) ?_
 refine fS_lss_f (by omega) ?_
 refine g_ff ?_
 refine fV_lenS (by kernel_rfl) ?_
 refine fS_gtr_f (by omega) ?_
 refine Meet.of (cast_p (Gz1c_eq ..) ?_)
 refine fV_pf ?_
 refine Meet.of (cast_p (Jz5y_eq ..) ?_)
 refine i_f ?_
 refine Meet.of (cast_p (Jz5z_eq ..) ?_)
 refine fV_lenS (by kernel_rfl) ?_
 refine fS_cv_u64 (by decide +kernel) (by omega) (by omega) ?_
 refine call_mk (putP2 _ _) ?_
 refine call_mk (sumP _ (by omega) _) ?_
 refine fS_cv_u64 (by decide +kernel) (by omega) (by omega) ?_
 refine call_mk (putP4 _ _) ?_
 refine bindS_mk (t_add (by simp only [List.length_append,putL_len];omega)) ?_
 refine bindS_mk (t_add (by simp only [List.length_append,putL_len];omega)) ?_
 exact ⟨rfl,rfl⟩
structure Ch where
 ep:Nat
 num:Nat
 off:Nat
 bs:List UInt8
def chV (c:Ch):V:=.agg [.int .u32 c.ep,.int .u32 c.num,.int .u64 c.off,.str c.bs]
theorem shCh (c:Ch):hasShape Pg (chV c) 172=true:=by kernel_rfl
theorem zCh:zeroV Pg 172=some (chV ⟨0,0,0,[]⟩):=by kernel_rfl
theorem bldCh (a b c:Nat) (s:List UInt8):aBuild Pg 172 [(0,.int .u32 a),(1,.int .u32 b),(2,.int .u64 c),(3,.str s)]=some (chV ⟨a,b,c,s⟩):=by kernel_rfl
def stV (x:Nat × Nat):V:=.agg [.int .u32 x.1,.int .u64 x.2]
structure Lg where
 d:Nat
 at_:Nat
 size:Nat
 ep:Nat
 starts:List (Nat × Nat)
 sealed:List Ch
 opn:List UInt8
 num:Nat
 fin:Nat
 dur:Nat
 fresh:Bool
structure Lg.ok (l:Lg):Prop where
 at_:l.at_≤1000000
 size:l.size≤1000000
 ep:l.ep < 4294967296
 starts:l.starts.length≤1000000
 sealed:l.sealed.length≤1000000
 opn:l.opn.length≤1000000
 num:l.num < 4294967296
 fin:l.fin < 18446744073709551616
 dur:l.dur < 18446744073709551616
 op:l.opn.length≤l.fin
def lgV (l:Lg) (sv pv:V):V:=.agg [dkP l.d,.int .i64 l.at_,.int .i64 l.size,.int .u32 l.ep,sv,pv,.str l.opn,.int .u32 l.num,.int .u64 l.fin,.int .u64 l.dur,.bool l.fresh]
structure LgB (h:AH) (p:Nat) (sv pv:V) (l:Lg):Prop where
 log:h.m p=some (.cells true (.one 89) (lgV l sv pv))
 starts:RwB 160 h sv (l.starts.map stV)
 sealed:RwB 172 h pv (l.sealed.map chV)
 o:p < h.next
 ok:l.ok
def LgA (h:AH) (p:Nat) (l:Lg):Prop:=∃ sv pv,LgB h p sv pv l
abbrev lgP (p:Nat):V:=.ptr (some ⟨p,.one 89,[]⟩)
abbrev TL:Tags:=[(0,89,0),(1,172,0)]
theorem LgB.keep {T:Tags} {h h':AH} {p:Nat} {sv pv:V} {l:Lg} (k:LgB h p sv pv l) (q:Keeps T h h') (h1:T.contains (0,89,0)=false) (h2:T.contains (1,160,0)=false) (h3:T.contains (1,172,0)=false):LgB h' p sv pv l:=by
 obtain ⟨k1,k2,k3,o,ok⟩:=k
 have:=q.next
 exact ⟨q.at k1 o h1,k2.keep q h2,k3.keep q h3,by omega,ok⟩
theorem LgA.keep {T:Tags} {h h':AH} {p:Nat} {l:Lg} (k:LgA h p l) (q:Keeps T h h') (h1:T.contains (0,89,0)=false) (h2:T.contains (1,160,0)=false) (h3:T.contains (1,172,0)=false):LgA h' p l:=by
 obtain ⟨sv,pv,k⟩:=k
 exact ⟨sv,pv,k.keep q h1 h2 h3⟩
theorem LgB.set {h h':AH} {p:Nat} {sv pv:V} {l l':Lg} (k:LgB h p sv pv l) (u:Upd h h' p (.cells true (.one 89) (lgV l' sv pv))) (e1:l'.starts=l.starts) (e2:l'.sealed=l.sealed) (ok:l'.ok):LgB h' p sv pv l':=by
 obtain ⟨k1,k2,k3,o,_⟩:=k
 have q:Keeps [(0,89,0)] h h':=Keeps.upd u k1 rfl rfl
 have:=q.next
 refine ⟨u.at_,?_,?_,by omega,ok⟩
 · rw [e1];exact k2.keep q rfl
 · rw [e2];exact k3.keep q rfl
def Lg.seal (l:Lg) (n:Nat):Lg:={ l with sealed:=l.sealed++[⟨l.ep,l.num,l.fin - l.opn.length,l.opn.take n⟩],opn:=l.opn.drop n,num:=l.num + 1 }
theorem byCh:Pg.bytesOf 172≤1000:=by decide +kernel
section
variable {h:AH} {p:Nat} {l:Lg}
theorem lgSeal (k:LgA h p l) {n:Nat} (hn:n≤l.opn.length) (hnum:l.num + 1 < 4294967296) (hsl:l.sealed.length < 1000000):ACalls Pg 58 [lgP p,.int .i64 n] h (Gives TL h (.tup []) fun h'=>LgA h' p (l.seal n)):=by
 obtain ⟨sv,pv,k⟩:=k
 have o1:=k.ok.opn
 have o2:=k.ok.op
 have o3:=k.ok.fin
 have o4:=k.ok.num
 have o5:=k.ok.ep
 have f0:=k.log
 refine C58 _ _ _ _ ?_
 refine fW_nil ?_
 refine fO_fa (by kernel_rfl) ?_
 refine fW_ld (by assumption) (by kernel_rfl) rfl ?_
 refine fW_nil ?_
 refine fO_fa (by kernel_rfl) ?_
 refine fW_ld (by assumption) (by kernel_rfl) rfl ?_
 refine fW_nil ?_
 refine fO_fa (by kernel_rfl) ?_
 refine fW_ld (by assumption) (by kernel_rfl) rfl ?_
 refine fW_nil ?_
 refine fO_fa (by kernel_rfl) ?_
 refine fW_ld (by assumption) (by kernel_rfl) rfl ?_
 refine fW_lenS (by kernel_rfl) ?_
 refine fO_cv_u64 (by decide +kernel) (by omega) (by omega) ?_
 refine bindSO_mk (w_sub (wr_u64 (by omega) (by omega))) ?_
 refine fW_nil ?_
 refine fO_fa (by kernel_rfl) ?_
 refine fW_ld (by assumption) (by kernel_rfl) rfl ?_
 refine bindSO_mk (sl_str (by kernel_rfl) rfl (bnd_i (by omega)) (by omega) (by omega)) ?_
 have el:(l.opn.drop 0).take ((n:Int).toNat - 0)=l.opn.take n:=by rw [show (n:Int).toNat - 0=n by omega,List.drop_zero]
 rw [el,show (l.fin:Int) - l.opn.length=((l.fin - l.opn.length:Nat):Int) by omega]
 refine bindSO_mk (bldCh _ _ _ _) ?_
 refine bindE (al_at zCh (shCh _)) fun h1 u1=>?_
 have n1:=u1.next
 have q1:Keeps [] h h1:=Keeps.new u1
 have f1:=q1.at f0 k.o rfl
 refine And.intro (still_of (by rw [← el];exact sl_str (by kernel_rfl) rfl (bnd_i (by omega)) (by omega) (by omega))) ?_
 clear f0
 refine fA_ld (by assumption) (by kernel_rfl) rfl ?_
 refine fA_cv (by decide +kernel) (by omega) (by omega) ?_
 refine fA_lenS (by kernel_rfl) ?_
 refine fA_ld (by assumption) (by kernel_rfl) rfl ?_
 refine fA_ld (by assumption) (by kernel_rfl) rfl ?_
 refine fA_ld (by assumption) (by kernel_rfl) rfl ?_
 refine fA_ld (by assumption) (by kernel_rfl) rfl ?_
 refine bindE (st_at (p:=[]) u1.at_ (by kernel_rfl) rfl (shCh ⟨l.ep,l.num,l.fin - l.opn.length,l.opn.take n⟩) rfl) fun h2 u2=>?_
 have n2:=u2.next
 have q2:Keeps [(0,172,0)] h1 h2:=Keeps.upd u2 u1.at_ rfl rfl
 have f2:=q2.at f1 (by have:=k.o;omega) rfl
 have fc:=u2.at_
 clear f1
 refine bindVO_mk nil_p ?_
 refine bindSO_mk (fa_mk (by kernel_rfl)) ?_
 refine bindVO_mk (ld_mk f2 (by kernel_rfl) (w:=pv) rfl) ?_
 refine bindVO_mk (ld_mk (p:=[]) fc (by kernel_rfl) rfl) ?_
 refine bindE (bs1_at (e:=172) (by kernel_rfl) zCh (shCh ⟨l.ep,l.num,l.fin - l.opn.length,l.opn.take n⟩)) fun h3 u3=>?_
 have n3:=u3.next
 have q3:Keeps [] h2 h3:=Keeps.new u3
 have f3:=q3.at f2 (by have:=k.o;omega) rfl
 refine And.intro (ld_mk f3 (by kernel_rfl) (w:=pv) rfl) ?_
 have k3:=((k.sealed.keep q1 rfl).keep q2 rfl).keep q3 rfl
 obtain ⟨pv',h4,e4,rw4,q4⟩:=k3.app (t:=87) (xt:=87) (by kernel_rfl) (elems_row (by exact u3.at_)) (by simp) (Nat.le_trans (Nat.mul_le_mul (show (l.sealed.map chV).length + [chV ⟨l.ep,l.num,l.fin - l.opn.length,l.opn.take n⟩].length≤1000001 by simp;omega) byCh) (by decide))
 have n4:=q4.next
 refine bindV_mk e4 ?_
 have f4:=q4.at f3 (by have:=k.o;omega) rfl
 obtain ⟨ap,rfl⟩:=rw4.shape
 refine bindVO_mk nil_p ?_
 refine bindSO_mk (fa_mk (by kernel_rfl)) ?_
 refine bindE (st_at f4 (by kernel_rfl) (w:=pv) rfl (by kernel_rfl) (v':=lgV l sv (.slc ap ((l.sealed.map chV)++[chV ⟨l.ep,l.num,l.fin - l.opn.length,l.opn.take n⟩]).length)) rfl) fun h5 u5=>?_
 have n5:=u5.next
 have f5:=u5.at_
 clear f3 f2
 refine bindV_mk nil_p ?_
 refine bindS_mk (fa_mk (by kernel_rfl)) ?_
 refine bindV_mk (ld_mk f5 (by kernel_rfl) (w:=.str l.opn) rfl) ?_
 refine bindS_mk (sl_str (by kernel_rfl) (bnd_i (by omega)) rfl (by omega) (by omega)) ?_
 refine bindV_mk nil_p ?_
 refine bindS_mk (fa_mk (by kernel_rfl)) ?_
 have ed:(l.opn.drop (n:Int).toNat).take (l.opn.length - (n:Int).toNat)=l.opn.drop n:=by
   rw [show (n:Int).toNat=n by omega];exact List.take_of_length_le (by simp)
 rw [ed]
 refine bindE (st_at f5 (by kernel_rfl) (w:=.str l.opn) rfl (by kernel_rfl) (v':=lgV { l with opn:=l.opn.drop n } sv (.slc ap ((l.sealed.map chV)++[chV ⟨l.ep,l.num,l.fin - l.opn.length,l.opn.take n⟩]).length)) rfl) fun h6 u6=>?_
 have n6:=u6.next
 have f6:=u6.at_
 clear f5
 refine fV_nil ?_
 refine fS_fa (by kernel_rfl) ?_
 refine fV_ld (by assumption) (by kernel_rfl) rfl ?_
 refine fS_add_u32 (by dsimp only;omega) (by dsimp only;omega) ?_
 refine fV_nil ?_
 refine fS_fa (by kernel_rfl) ?_
 rw [show (l.num:Int) + 1=((l.num + 1:Nat):Int) by omega]
 refine bindE (st_at f6 (by kernel_rfl) (w:=.int .u32 l.num) rfl (by kernel_rfl) (v':=lgV (l.seal n) sv (.slc ap ((l.sealed.map chV)++[chV ⟨l.ep,l.num,l.fin - l.opn.length,l.opn.take n⟩]).length)) rfl) fun h7 u7=>?_
 have n7:=u7.next
 have q7:Keeps [(0,89,0)] h4 h7:=(Keeps.upd u5 f4 rfl rfl).trans ((Keeps.upd u6 u5.at_ rfl rfl).trans (Keeps.upd u7 u6.at_ rfl rfl))
 have q03:Keeps [] h h3:=(q1.young u2 (Nat.le_refl _)).trans q3
 refine ⟨rfl,(q03.sub rfl).trans ((q4.sub rfl).trans (q7.sub rfl)),sv,_,u7.at_,?_,?_,by have:=k.o;omega,?_⟩
 · exact (((k.starts.keep q03 rfl).keep q4 rfl).keep q7 rfl)
 · show RwB _ _ _ ((l.sealed++[_]).map chV)
   rw [List.map_append]
   exact rw4.keep q7 rfl
 · obtain ⟨a1,a2,a3,a4,a5,a6,a7,a8,a9,a10⟩:=k.ok
   exact ⟨a1,a2,a3,a4,by show (l.sealed++[_]).length≤_;simp;omega,by show (l.opn.drop n).length≤_;simp;omega,hnum,a8,a9,by show (l.opn.drop n).length≤l.fin;simp;omega⟩
end
end Go.Proofs.Ytdfgfbammkojoaa.Sh
namespace Go.Proofs.Ytdfgfbammkojoaa.Sh
open Go Go.Ab Go.RowKit
open Go.Proofs.Ytdfgfbammkojoaa.Ru (Pg okP)
set_option maxRecDepth 10000
set_option maxHeartbeats 4000000
set_option linter.unusedSectionVars false
def Lg.spill:Nat→Lg→Lg
 | 0,l=>l
 | n + 1,l=>if 214≤l.opn.length then Lg.spill n (l.seal 214) else l
def Lg.need (l:Lg) (n:Nat):Nat:=l.starts.length + l.sealed.length + (l.opn.length + n + 213) / 214
def Lg.lay (l:Lg) (f:List UInt8):Lg:=Lg.spill (l.opn.length + f.length) { l with opn:=l.opn++f,fin:=l.fin + f.length }
noncomputable def Lg.append (l:Lg) (s:List UInt8):(Nat × Int) × Lg :=
 if s.length < 1∨400 < s.length then ((0,1),l)
 else if l.size < l.need (frameF s).length then ((0,5),l)
 else ((l.fin,0),l.lay (frameF s))
def apdV (x:Nat × Int):V:=.tup [.int .u64 x.1,.int .i64 x.2]
section
variable {h:AH} {p:Nat} {l:Lg}
theorem lgEnd (k:LgA h p l):ACalls Pg 8 [lgP p] h (pureE (.int .u64 l.fin) h):=by
 obtain ⟨sv,pv,k⟩:=k
 have f0:=k.log
 refine C8 _ _ _ ?_
 refine bindS_mk (show aBin Pg .eql 43 (.ptr (some _)) (.ptr none) true=some (.bool false) by kernel_rfl) ?_
 refine i_f ?_
 refine Meet.of (cast_p (Jz74_eq _ _ _) ?_)
 refine fV_nil ?_
 refine fS_fa (by kernel_rfl) ?_
 refine fV_ld f0 (by kernel_rfl) rfl ?_
 exact ⟨rfl,rfl⟩
def Lg.free (l:Lg):Int:=(l.size:Int) - l.starts.length - l.sealed.length - if l.opn=[] then 0 else 1
theorem lgFree (k:LgA h p l):ACalls Pg 12 [lgP p] h (pureE (.int .i64 l.free) h):=by
 obtain ⟨sv,pv,k⟩:=k
 have f0:=k.log
 have o1:=k.ok.size
 have o2:=k.ok.starts
 have o3:=k.ok.sealed
 obtain ⟨sa,rfl⟩:=k.starts.shape
 obtain ⟨pa,rfl⟩:=k.sealed.shape
 have s1:(l.starts.map stV).length=l.starts.length:=by simp
 have s2:(l.sealed.map chV).length=l.sealed.length:=by simp
 rw [s1,s2] at f0
 refine C12 _ _ _ ?_
 refine bindS_mk (show aBin Pg .eql 43 (.ptr (some _)) (.ptr none) true=some (.bool false) by kernel_rfl) ?_
 refine i_f ?_
 refine Meet.of (cast_p (Jz2a_eq _ _ _) ?_)
 refine fW_nil ?_
 refine fO_fa (by kernel_rfl) ?_
 refine fW_ld f0 (by kernel_rfl) rfl ?_
 refine fW_nil ?_
 refine fO_fa (by kernel_rfl) ?_
 refine fW_ld f0 (by kernel_rfl) rfl ?_
 refine fW_lenR (by kernel_rfl) ?_
 refine fO_sub_i64 (by omega) (by omega) ?_
 refine fW_nil ?_
 refine fO_fa (by kernel_rfl) ?_
 refine fW_ld f0 (by kernel_rfl) rfl ?_
 refine fW_lenR (by kernel_rfl) ?_
 refine fO_sub_i64 (by omega) (by omega) ?_
 refine fV_nil ?_
 refine fS_fa (by kernel_rfl) ?_
 refine fV_ld f0 (by kernel_rfl) rfl ?_
 refine bindS_mk t_neq ?_
 by_cases c:l.opn=[]
 · rw [show (!(l.opn == []))=false by rw [c];rfl]
   refine i_f ?_
   refine Meet.of (cast_p (Jz2b_eq _ _ _) ?_)
   refine ⟨?_,rfl⟩
   unfold Lg.free
   rw [if_pos c]
   congr 1
   omega
 · rw [show (!(l.opn == []))=true by cases hq:l.opn with | nil=>exact absurd hq c | cons a b=>rfl]
   refine i_t ?_
   refine fS_sub_i64 (by omega) (by omega) ?_
   refine Meet.of (cast_p (Jz2b_eq ..) ?_)
   refine ⟨?_,rfl⟩
   unfold Lg.free
   rw [if_neg c]
theorem Lg.spill_ok:∀ (n:Nat) (l:Lg),l.opn.length≤n→(Lg.spill n l).opn.length < 214∧(Lg.spill n l).fin=l.fin∧(Lg.spill n l).size=l.size∧(Lg.spill n l).starts=l.starts∧(Lg.spill n l).d=l.d
 | 0,l,h=>⟨by simp [Lg.spill];omega,rfl,rfl,rfl,rfl⟩
 | n + 1,l,h=>by
   unfold Lg.spill
   split
   · have:=Lg.spill_ok n (l.seal 214) (by show (l.opn.drop 214).length≤n;simp;omega)
     exact this
   · exact ⟨by omega,rfl,rfl,rfl,rfl⟩
theorem spillL {Q:AEnd→AH→Prop} {x7:V}:∀ (m:Nat) (h:AH) (l:Lg) (n:Nat),LgA h p l→l.opn.length≤n→l.num + n < 4294967296→l.sealed.length + n≤1000000→n < m →
   (∀ h',Keeps TL h h'→LgA h' p (Lg.spill n l)→Q (.ret (.tup [x7,.int .i64 0])) h')→Lz7a Q m (lgP p) x7 h
 | 0,_,_,_,_,_,_,_,hm,_=>by omega
 | m + 1,h,l,n,k,hn,h1,h2,hm,c=>by
   obtain ⟨sv,pv,kb⟩:=id k
   have f0:=kb.log
   rw [Lz7a_eq]
   by_cases g:214≤l.opn.length
   · refine fV_nil ?_
     refine fS_fa (by kernel_rfl) ?_
     refine fV_ld f0 (by kernel_rfl) rfl ?_
     refine fV_lenS (by kernel_rfl) ?_
     refine fS_geq_t (by omega) ?_
     refine i_t ?_
     refine Meet.of (cast_p (Jz3h_eq ..) ?_)
     obtain ⟨n,rfl⟩:∃ n',n=n' + 1:=⟨n - 1,by omega⟩
     refine callG (lgSeal k (n:=214) g (by omega) (by omega)) fun h3 q3 k3=>?_
     refine Meet.of (spillL m h3 (l.seal 214) n k3 (by show (l.opn.drop 214).length≤n;simp;omega) (by show l.num + 1 + n < _;omega) (by show (l.sealed++[_]).length + n≤_;simp;omega) (by omega) fun h' q' k'=>c h' (q3.trans q') ?_)
     unfold Lg.spill
     rw [if_pos g];exact k'
   · refine fV_nil ?_
     refine fS_fa (by kernel_rfl) ?_
     refine fV_ld f0 (by kernel_rfl) rfl ?_
     refine fV_lenS (by kernel_rfl) ?_
     refine fS_geq_f (by omega) ?_
     refine i_f ?_
     refine Meet.of (cast_p (Jz3i_eq ..) ?_)
     refine c h (Keeps.refl _ _) ?_
     have:Lg.spill n l=l:=by
       cases n with
       | zero=>rfl
       | succ n=>unfold Lg.spill;rw [if_neg g]
     rw [this];exact k
theorem lgAppend (k:LgA h p l) (s:List UInt8) (hs:s.length < 1000000) (h1:l.num < 4294960000) (h2:l.fin < 18446744073709000000) (h3:l.sealed.length≤900000) (h4:l.opn.length < 214):ACalls Pg 26 [lgP p,.str s] h (Gives TL h (apdV (l.append s).1) fun h'=>LgA h' p (l.append s).2):=by
 · obtain ⟨sv,pv,kb⟩:=id k
   have f0:=kb.log
   have o1:=kb.ok.size
   have o2:=kb.ok.starts
   obtain ⟨sa,rfl⟩:=kb.starts.shape
   obtain ⟨pa,rfl⟩:=kb.sealed.shape
   have s1:(l.starts.map stV).length=l.starts.length:=by simp
   have s2:(l.sealed.map chV).length=l.sealed.length:=by simp
   rw [s1,s2] at f0
   refine C26 _ _ _ _ ?_
   refine callS (frameP s hs h) ?_
   refine bindS_mk t_eql ?_
   have nn:aBin Pg .eql 43 (lgP p) (.ptr none) true=some (.bool false):=by kernel_rfl
   by_cases c1:s.length < 1∨400 < s.length
   · have e1:frameF s=[]:=by unfold frameF;rw [if_pos c1]
     rw [show (frameF s == [])=true by rw [e1];rfl]
     have ea:l.append s=((0,1),l):=by unfold Lg.append;rw [if_pos c1]
     rw [ea]
     refine g_tf ?_
     refine Meet.of (cast_p (Gze_eq ..) ?_)
     refine fV_pt ?_
     refine Meet.of (cast_p (Jz3e_eq ..) ?_)
     refine i_t ?_
     exact ⟨rfl,Keeps.refl _ _,k⟩
   · have fl:=frame_len (s:=s) (by omega) (by omega)
     rw [show (frameF s == [])=false by cases hq:frameF s with | nil=>rw [hq] at fl;simp at fl | cons a b=>rfl]
     have ha:l.append s=if l.size < l.need (frameF s).length then ((0,5),l) else ((l.fin,0),l.lay (frameF s)):=by unfold Lg.append;rw [if_neg c1]
     rw [ha]
     refine g_ff ?_
     refine bindS_mk nn ?_
     refine Meet.of (cast_p (Gze_eq ..) ?_)
     refine bindV_mk p_f ?_
     refine Meet.of (cast_p (Jz3e_eq ..) ?_)
     refine i_f ?_
     refine Meet.of (cast_p (Jz3f_eq ..) ?_)
     refine bindVO_mk nil_p ?_
     refine bindSO_mk (fa_mk (by kernel_rfl)) ?_
     refine bindVO_mk (ld_mk f0 (by kernel_rfl) rfl) ?_
     refine fW_lenR (by kernel_rfl) ?_
     refine fW_nil ?_
     refine fO_fa (by kernel_rfl) ?_
     refine fW_ld f0 (by kernel_rfl) rfl ?_
     refine fW_lenR (by kernel_rfl) ?_
     refine fO_add_i64 (by omega) (by omega) ?_
     refine fW_nil ?_
     refine fO_fa (by kernel_rfl) ?_
     refine fW_ld f0 (by kernel_rfl) rfl ?_
     refine fW_lenS (by kernel_rfl) ?_
     refine fW_lenS (by kernel_rfl) ?_
     refine fO_add_i64 (by omega) (by omega) ?_
     refine fO_add_i64 (by omega) (by omega) ?_
     refine fO_sub_i64 (by omega) (by omega) ?_
     refine fO_quo (by omega) (by omega) (by omega) ?_
     refine fO_add_i64 (by omega) (by omega) ?_
     refine fW_nil ?_
     refine fO_fa (by kernel_rfl) ?_
     refine fW_ld f0 (by kernel_rfl) rfl ?_
     have o6:=kb.ok.op
     have o7:=kb.ok.fin
     by_cases g:l.size < l.need (frameF s).length
     · rw [if_pos g]
       unfold Lg.need at g
       refine fO_gtr_t (by omega) ?_
       refine i_t ?_
       exact ⟨rfl,Keeps.refl _ _,k⟩
     · rw [if_neg g]
       unfold Lg.need at g
       refine fO_gtr_f (by omega) ?_
       refine i_f ?_
       refine Meet.of (cast_p (Jz3g_eq ..) ?_)
       refine fV_nil ?_
       refine fS_fa (by kernel_rfl) ?_
       refine fV_ld f0 (by kernel_rfl) rfl ?_
       refine fV_nil ?_
       refine fS_fa (by kernel_rfl) ?_
       refine fV_ld f0 (by kernel_rfl) rfl ?_
       refine bindS_mk (t_add (by omega)) ?_
       refine fV_nil ?_
       refine fS_fa (by kernel_rfl) ?_
       refine bindE (st_at f0 (by kernel_rfl) (w:=.str l.opn) rfl (by kernel_rfl) (v':=lgV { l with opn:=l.opn++frameF s } (.slc sa l.starts.length) (.slc pa l.sealed.length)) rfl) fun h5 u5=>?_
       have n5:=u5.next
       have f5:=u5.at_
       have q5:Keeps [(0,89,0)] h h5:=Keeps.upd u5 f0 rfl rfl
       clear f0
       refine fV_nil ?_
       refine fS_fa (by kernel_rfl) ?_
       refine fV_ld f5 (by kernel_rfl) rfl ?_
       refine fV_lenS (by kernel_rfl) ?_
       refine fS_cv_u64 (by decide +kernel) (by omega) (by omega) ?_
       refine fS_add_u64 (by dsimp only;omega) (by dsimp only;omega) ?_
       refine fV_nil ?_
       refine fS_fa (by kernel_rfl) ?_
       rw [show (l.fin:Int) + (frameF s).length=((l.fin + (frameF s).length:Nat):Int) by omega]
       refine bindE (st_at f5 (by kernel_rfl) (w:=.int .u64 l.fin) rfl (by kernel_rfl) (v':=lgV { l with opn:=l.opn++frameF s,fin:=l.fin + (frameF s).length } (.slc sa l.starts.length) (.slc pa l.sealed.length)) rfl) fun h6 u6=>?_
       have q6:Keeps [(0,89,0)] h h6:=q5.trans (Keeps.upd u6 f5 rfl rfl)
       have n6:=u6.next
       have r1:=kb.starts.keep q6 rfl
       have r2:=kb.sealed.keep q6 rfl
       rw [s1] at r1
       rw [s2] at r2
       have k6:LgA h6 p { l with opn:=l.opn++frameF s,fin:=l.fin + (frameF s).length }:=by
         obtain ⟨a1,a2,a3,a4,a5,a6,a7,a8,a9,a10⟩:=kb.ok
         exact ⟨_,_,u6.at_,r1,r2,by have:=kb.o;omega,a1,a2,a3,a4,a5,by show (l.opn++frameF s).length≤_;simp;omega,a7,by show l.fin + _ < _;omega,a9,by show (l.opn++frameF s).length≤l.fin + _;simp;omega⟩
       refine ⟨l.opn.length + (frameF s).length + 1,Meet.of (spillL _ h6 _ (l.opn.length + (frameF s).length) k6 (by show (l.opn++frameF s).length≤_;simp) (by show l.num + _ < _;omega) (by show l.sealed.length + _≤_;omega) (by omega) fun h' q' k'=>?_)⟩
       exact ⟨rfl,(q6.sub rfl).trans q',k'⟩
end
end Go.Proofs.Ytdfgfbammkojoaa.Sh
namespace Go.Proofs.Ytdfgfbammkojoaa.Sh
open Go Go.Ab Go.RowKit
open Go.Proofs.Ytdfgfbammkojoaa.Ru (Pg okP)
set_option maxRecDepth 10000
set_option linter.unusedSectionVars false
theorem Dk.op_seen (d:Dk):d.op.2.seen=d.seen:=by unfold Dk.op;split;rfl;split <;> rfl
theorem Dk.op_pend (d:Dk):d.op.2.pend=d.pend:=by unfold Dk.op;split;rfl;split <;> rfl
theorem DkA.ok {h:AH} {p:Nat} {d:Dk} (k:DkA h p d):d.ok:=by obtain ⟨a,b,pv,fv,k⟩:=k;exact k.ok
theorem DkA.at {h:AH} {p:Nat} {d:Dk} (k:DkA h p d):p < h.next:=by obtain ⟨a,b,pv,fv,k⟩:=k;exact k.o.1
def Dk.read (d:Dk) (b:Int):List UInt8 × Int × Dk :=
 if d.down then (zer 256,4,d) else if b < 0∨(d.n:Int)≤b then (zer 256,1,d) else if d.op.1≠0 then (zer 256,d.op.1,d.op.2) else (blkAt d.seen b.toNat,0,d.op.2)
def rdR (x:List UInt8 × Int × Dk):V:=.tup [.agg (bytesV x.1),.int .i64 x.2.1]
section
variable {h:AH} {p:Nat} {d:Dk}
theorem dkReadB {a b':Nat} {pv fv:V} (k:DkB h p a b' pv fv d) (ho:d.ops < 1000000000000) (b:Int):ACalls Pg 36 [dkP p,.int .i64 b] h (Gives TD1 h (rdR (d.read b)) fun h'=>DkB h' p a b' pv fv (d.read b).2.2∧Only p h h'):=by
 have bld:aBuild Pg 56 []=some (.agg (bytesV (zer 256))):=by kernel_rfl
 refine C36 _ _ _ _ ?_
 refine bindE (al_at zBlk (shBlk (zer_len 256))) fun h1 u1=>?_
 have n1:=u1.next
 have kb:DkB h1 p a b' pv fv d:=k.keep (T:=[]) (Keeps.new u1) rfl rfl rfl rfl
 have q1:Keeps TD1 h h1:=Keeps.new u1
 have oo1:Only p h h1:=Only.new u1
 -- what is told at the end
 have fin:∀ (h':AH) (blk:List UInt8) (e:Int) (d':Dk) (lab:V→AH→Prop),blk.length=256→Keeps TD1 h h'→DkB h' p a b' pv fv d'∧Only p h h'→(∃ w,h'.m h.next=some (.cells true (.one 56) w))→h.next < h'.next→d.read b=(blk,e,d') →
     bindV (aStoreV Pg h' 56 (blP h.next) (.agg (bytesV blk))) (fun _ h40=>bindR (aRes Pg [(4,blP h.next),(5,.int .i64 e)] h40 R36) fun v=>Gives TD1 h (rdR (d.read b)) (fun h'=>DkB h' p a b' pv fv (d.read b).2.2∧Only p h h') (.ret v) h40):=by
   intro h' blk e d' _ hb q kk ⟨w,f⟩ hn he
   refine bindE (st_at (p:=[]) f (by kernel_rfl) rfl (shBlk hb) rfl) fun h2 u2=>?_
   have e1:=ld_mk (P:=Pg) (t:=56) (p:=[]) u2.at_ (by kernel_rfl) (w:=.agg (bytesV blk)) rfl
   simp only [aLoadV] at e1
   have e2:=(still_some e1).1
   refine bindR_mk (show aRes Pg _ _ R36=some [.agg (bytesV blk),.int .i64 e] by simp [R36,aRes,Env.get,e2]) ?_
   have q2:Keeps [(0,56,0)] h' h2:=Keeps.upd u2 f rfl rfl
   rw [he]
   exact ⟨rfl,q.young u2 (Nat.le_refl _),kk.1.keep q2 rfl rfl rfl rfl,kk.2.young u2 (Nat.le_refl _)⟩
 refine bindS_mk (show aBin Pg .eql 23 (.ptr (some _)) (.ptr none) true=some (.bool false) by kernel_rfl) ?_
 refine g_ff ?_
 refine bindV_mk rfl ?_
 refine bindS_mk (fa_mk (by kernel_rfl)) ?_
 refine bindV_mk (ld_mk kb.disk (by kernel_rfl) (w:=.bool d.down) rfl) ?_
 refine Meet.of (cast_p (Gzh_eq _ _ _ _ _ _ _) ?_)
 refine bindV_mk p_f ?_
 refine Meet.of (cast_p (Jz3u_eq _ _ _ _ _ _) ?_)
 refine i_split (fun c=>?_) (fun c=>?_)
 · replace c:d.down=true:=c
   refine bindS_mk bld ?_
   exact fin h1 _ _ d (fun _ _=>True) (zer_len 256) q1 ⟨kb,oo1⟩ ⟨_,u1.at_⟩ (by omega) (by unfold Dk.read;rw [if_pos c])
 · replace c:d.down=false:=c
   have c':¬ (d.down=true):=by rw [c];decide
   refine Meet.of (cast_p (Jz3v_eq _ _ _ _ _) ?_)
   have mid:∀ v,v=decide (b < 0∨(d.n:Int)≤b)→Jz3w (Gives TD1 h (rdR (d.read b)) fun h'=>DkB h' p a b' pv fv (d.read b).2.2∧Only p h h') (dkP p) (.int .i64 b) (blP h.next) (.bool v) h1:=by
     intro v hv
     rw [Jz3w_eq]
     refine i_split (fun g=>?_) (fun g=>?_)
     · rw [g] at hv
       have g:=of_decide_eq_true hv.symm
       refine bindS_mk bld ?_
       exact fin h1 _ _ d (fun _ _=>True) (zer_len 256) q1 ⟨kb,oo1⟩ ⟨_,u1.at_⟩ (by omega) (by unfold Dk.read;rw [if_neg c',if_pos g])
     · rw [g] at hv
       have g:=of_decide_eq_false hv.symm
       refine Meet.of (cast_p (Jz3x_eq _ _ _ _ _) ?_)
       refine callG (dkOpB kb ho) fun h2 q2 k2'=>?_
       have kb2:=k2'.1
       have k2:DkB h2 p a b' pv fv d.op.2∧Only p h h2:=⟨kb2,oo1.trans k2'.2⟩
       have n2:=q2.next
       have f2:h2.m h.next=some (.cells true (.one 56) (.agg (bytesV (zer 256)))):=q2.at u1.at_ (by omega) rfl
       have q02:Keeps TD1 h h2:=q1.trans q2
       refine bindS_mk b_neq ?_
       refine i_split (fun e=>?_) (fun e=>?_)
       · replace e:=ne_of_bne e
         refine bindS_mk bld ?_
         exact fin h2 _ _ _ (fun _ _=>True) (zer_len 256) q02 k2 ⟨_,f2⟩ (by omega) (by unfold Dk.read;rw [if_neg c',if_neg g,if_pos e])
       · replace e:=eq_of_bne_false e
         refine Meet.of (cast_p (Jz3y_eq _ _ _ _ _) ?_)
         refine bindV_mk rfl ?_
         refine bindS_mk (fa_mk (by kernel_rfl)) ?_
         refine bindV_mk (ld_mk kb2.disk (by kernel_rfl) (w:=.map (some b')) rfl) ?_
         have hb0:b=((b.toNat:Nat):Int):=by omega
         have ga:=gatherP (b:=b.toNat) kb2.ok.seen kb2.o.2.2.1 kb2.fseen
         rw [← hb0] at ga
         refine callS ga ?_
         exact fin h2 _ _ _ (fun _ _=>True) (blkAt_len kb2.ok.seen _) q02 k2 ⟨_,f2⟩ (by omega) (by unfold Dk.read;rw [if_neg c',if_neg g,if_neg (by omega),d.op_seen])
   refine bindS_mk b_lss ?_
   refine g_split_f (fun g=>?_) (fun g=>?_)
   · rw [g]
     replace g:=of_decide_eq_false g
     refine bindV_mk rfl ?_
     refine bindS_mk (fa_mk (by kernel_rfl)) ?_
     refine bindV_mk (ld_mk kb.disk (by kernel_rfl) (w:=.int .i64 d.n) rfl) ?_
     refine bindS_mk b_geq ?_
     refine Meet.of (cast_p (Gzi_eq _ _ _ _ _ _ _) ?_)
     refine bindV_mk p_f ?_
     refine Meet.of (mid _ ?_)
     by_cases r:(d.n:Int)≤b
     · rw [decide_eq_true (by omega),decide_eq_true (by omega)]
     · rw [decide_eq_false (by omega),decide_eq_false (by omega)]
   · rw [g]
     replace g:=of_decide_eq_true g
     refine Meet.of (cast_p (Gzi_eq _ _ _ _ _ _ _) ?_)
     refine bindV_mk p_t ?_
     refine Meet.of (mid _ ?_)
     rw [decide_eq_true (by omega)]
theorem dkRead (k:DkA h p d) (ho:d.ops < 1000000000000) (b:Int):ACalls Pg 36 [dkP p,.int .i64 b] h (Gives TD1 h (rdR (d.read b)) fun h'=>DkA h' p (d.read b).2.2):=by
 obtain ⟨a,b',pv,fv,k⟩:=k
 exact (dkReadB k ho b).mono fun e h' q=>⟨q.1,q.2.1,a,b',pv,fv,q.2.2.1⟩
theorem Dk.read_same (d:Dk) (b:Int):(d.read b).2.2.sure=d.sure∧(d.read b).2.2.seen=d.seen∧(d.read b).2.2.pend=d.pend∧(d.read b).2.2.fails=d.fails∧(d.read b).2.2.n=d.n:=by
 have o:d.op.2.sure=d.sure∧d.op.2.seen=d.seen∧d.op.2.pend=d.pend∧d.op.2.fails=d.fails∧d.op.2.n=d.n:=by
   unfold Dk.op;split
   · exact ⟨rfl,rfl,rfl,rfl,rfl⟩
   · split <;> exact ⟨rfl,rfl,rfl,rfl,rfl⟩
 unfold Dk.read
 split
 · exact ⟨rfl,rfl,rfl,rfl,rfl⟩
 · split
   · exact ⟨rfl,rfl,rfl,rfl,rfl⟩
   · split <;> exact o
theorem DkB.old {a b:Nat} {pv fv:V} (k:DkB h p a b pv fv d) (d':Dk):oldV (fun n=>(h.m n).isSome) (dkV d' a b pv fv)=true:=by
 have h1:(h.m a).isSome=true:=by rw [k.fsure];rfl
 have h2:(h.m b).isSome=true:=by rw [k.fseen];rfl
 have h3:oldV (fun n=>(h.m n).isSome) pv=true:=by
   rcases k.fpend with ⟨rfl,_⟩ | ⟨n,_,rfl,q⟩
   · rfl
   · show (h.m n).isSome=true
     rw [q];rfl
 have h4:oldV (fun n=>(h.m n).isSome) fv=true:=by
   rcases k.ffails with ⟨rfl,_⟩ | ⟨n,es,_,rfl,q,_⟩
   · rfl
   · show (h.m n).isSome=true
     rw [q];rfl
 simp only [dkV,oldV,oldVs,h1,h2,h3,h4,Bool.and_self]
end
def wSeen (l:Sm) (b:Nat) (x:List UInt8):Nat→Sm
 | 0=>l
 | i + 1=>smSet (wSeen l b x i) (b,i) (secOf x i)
def wPend (l:Sm) (b:Nat) (x:List UInt8):Nat→Sm
 | 0=>l
 | i + 1=>wPend l b x i++[((b,i),secOf x i)]
theorem wPend_len (l:Sm) (b:Nat) (x:List UInt8):∀ i,(wPend l b x i).length=l.length + i
 | 0=>rfl
 | i + 1=>by rw [wPend,List.length_append,wPend_len l b x i];rfl
def Dk.put (d:Dk) (b:Nat) (x:List UInt8) (i:Nat):Dk:={ d with seen:=wSeen d.seen b x i,pend:=wPend d.pend b x i }
def Dk.write (d:Dk) (b:Int) (x:List UInt8):Int × Dk :=
 if d.down then (4,d) else if b < 0∨(d.n:Int)≤b then (1,d) else if d.op.1≠0 then d.op else (0,d.op.2.put b.toNat x 4)
theorem shWr {x:(Nat × Nat) × List UInt8} (h:x.2.length=64):hasShape Pg (wrV x) 125=true:=by
 have:hasShape Pg (wrV x) 125=(hasShape Pg (plV x.1.1 x.1.2) 121 && (hasShape Pg (.agg (bytesV x.2)) 122 && true)):=by kernel_rfl
 have e2:hasShape Pg (plV x.1.1 x.1.2) 121=true:=by kernel_rfl
 rw [this,e2,shSec h];rfl
theorem zWr:zeroV Pg 125=some (wrV ((0,0),zer 64)):=by kernel_rfl
theorem bldWr {b i:Nat} {s:List UInt8} (hs:s.length=64):aBuild Pg 125 [(0,plV b i),(1,.agg (bytesV s))]=some (wrV ((b,i),s)):=by
 have h1:hasShape Pg (plV b i) 121=true:=by kernel_rfl
 have h2:=shSec hs
 exact bld_struct [121,122] zWr (by kernel_rfl) (by simp [putParts,h1,h2])
theorem byWr:Pg.bytesOf 125≤1000:=by decide +kernel
theorem pendB {n:Nat} (h:n≤1000000001):n * Pg.bytesOf 125≤140737488355328:=Nat.le_trans (Nat.mul_le_mul h byWr) (by decide)
theorem apWr:apOk Pg 116 116 125=true:=by kernel_rfl
section
variable {h:AH} {p:Nat} {d:Dk} {m:Nat}
theorem round20 {Q:AEnd→AH→Prop} (k:DkA h p d) (hp:d.pend.length≤1000000000) {b i n5:Nat} {x:List UInt8} (hx:x.length=256) (hi:i < 4) (f5:h.m n5=some (.cells true (.one 56) (.agg (bytesV x)))) (h5:n5 < h.next)
   (cont:∀ h',Keeps TDs h h'→h'.m n5=some (.cells true (.one 56) (.agg (bytesV x)))→DkA h' p { d with seen:=smSet d.seen (b,i) (secOf x i),pend:=d.pend++[((b,i),secOf x i)] }→Lz76 Q m (dkP p) (.int .i64 b) (blP n5) (.int .i64 ((i + 1:Nat):Int)) h') :
   Jz2j Q m (dkP p) (.int .i64 b) (blP n5) (.int .i64 i) h:=by
 have hs:=secOf_len (i:=i) hx hi
 obtain ⟨a,bb,pv,fv,k⟩:=k
 rw [Jz2j_eq]
 refine bindS_mk (show aBuild Pg 121 [(0,.int .i64 b),(1,.int .i64 i)]=some (plV b i) by kernel_rfl) ?_
 refine bindV_mk (ld_mk (p:=[]) f5 (by kernel_rfl) rfl) ?_
 refine callS (cutP hx hi h) ?_
 refine bindS_mk (bldWr hs) ?_
 refine bindE (al_at zWr (shWr (zer_len 64))) fun h1 u1=>?_
 have n1:=u1.next
 have q1:Keeps [] h h1:=Keeps.new u1
 have k1:=k.keep q1 rfl rfl rfl rfl
 refine bindE (st_at (p:=[]) u1.at_ (by kernel_rfl) rfl (shWr (x:=((b,i),secOf x i)) hs) (v':=wrV ((b,i),secOf x i)) rfl) fun h2 u2=>?_
 have n2:=u2.next
 have q2:Keeps [(0,125,0)] h1 h2:=Keeps.upd u2 u1.at_ rfl rfl
 have k2:=k1.keep q2 rfl rfl rfl rfl
 have fw:=u2.at_
 have f52:h2.m n5=some (.cells true (.one 56) (.agg (bytesV x))):=q2.at (q1.at f5 h5 rfl) (by omega) rfl
 refine bindVO_mk rfl ?_
 refine bindSO_mk (fa_mk (by kernel_rfl)) ?_
 refine bindVO_mk (ld_mk k2.disk (by kernel_rfl) (w:=.map (some bb)) rfl) ?_
 refine bindSO_mk (fa_mk (by kernel_rfl)) ?_
 refine bindVO_mk (ld_mk fw (by kernel_rfl) (w:=plV b i) rfl) ?_
 refine bindSO_mk (fa_mk (by kernel_rfl)) ?_
 refine bindVO_mk (ld_mk fw (by kernel_rfl) (w:=.agg (bytesV (secOf x i))) rfl) ?_
 refine bindE (mapSt k2.fseen b i hs) fun h3 u3=>?_
 have n3:=u3.next
 have q3:Keeps [(2,121,122)] h2 h3:=Keeps.upd u3 k2.fseen rfl rfl
 obtain ⟨o1,o2,o3,o4⟩:=k2.o
 have fdisk3:=q3.at k2.disk o1 rfl
 have fpend3:=k2.fpend.keep q3 rfl
 have ffails3:=k2.ffails.keep q3 rfl
 have fsure3:=(u3.other _ o4).trans k2.fsure
 have fw3:=q3.at fw (by omega) rfl
 have f53:=q3.at f52 (by omega) rfl
 refine bindVO_mk rfl ?_
 refine bindSO_mk (fa_mk (by kernel_rfl)) ?_
 refine bindVO_mk (ld_mk fdisk3 (by kernel_rfl) (w:=pv) rfl) ?_
 refine bindVO_mk (ld_mk (p:=[]) fw3 (by kernel_rfl) rfl) ?_
 refine bindE (bs1_at (e:=125) (by kernel_rfl) zWr (shWr (x:=((b,i),secOf x i)) hs)) fun h4 u4=>?_
 have n4:=u4.next
 have q4:Keeps [] h3 h4:=Keeps.new u4
 have fdisk4:=q4.at fdisk3 (by omega) rfl
 refine ⟨ld_mk fdisk4 (by kernel_rfl) (w:=pv) rfl,?_⟩
 obtain ⟨pv',h5',e5,rw5,q5⟩:=(fpend3.keep q4 rfl).app apWr (elems_row (by exact u4.at_)) (by simp) (pendB (show (d.pend.map wrV).length + [wrV ((b,i),secOf x i)].length≤1000000001 by rw [List.length_map];show d.pend.length + 1≤_;omega))
 have n5':=q5.next
 refine bindV_mk e5 ?_
 have fdisk5:=q5.at fdisk4 (by omega) rfl
 obtain ⟨ap,rfl⟩:=rw5.shape
 refine bindVO_mk rfl ?_
 refine bindSO_mk (fa_mk (by kernel_rfl)) ?_
 refine bindE (st_at fdisk5 (by kernel_rfl) (w:=pv) rfl (by kernel_rfl) (v':=dkV { d with seen:=smSet d.seen (b,i) (secOf x i),pend:=d.pend++[((b,i),secOf x i)] } a bb (.slc ap ((d.pend.map wrV)++[wrV ((b,i),secOf x i)]).length) fv) rfl) fun h6 u6=>?_
 have n6:=u6.next
 have q6:Keeps TD1 h5' h6:=Keeps.upd u6 fdisk5 rfl rfl
 refine Meet.of (cast_p (Jz2k_eq _ _ _ _ _ _ _) ?_)
 refine bindS_mk (w_add (wrap_i64 (by omega) (by omega))) ?_
 have q36:Keeps TDs h3 h6:=(q4.sub rfl).trans ((q5.sub rfl).trans (q6.sub rfl))
 have q46:Keeps [(1,125,0),(0,119,0)] h3 h6:=(q4.sub rfl).trans ((q5.sub rfl).trans (q6.sub rfl))
 have all:Keeps TDs h h6:=((Keeps.new u1).young u2 (Nat.le_refl _)).trans ((q3.sub rfl).trans q36)
 refine Meet.of (cont h6 all ?_ ⟨a,bb,_,fv,u6.at_,?_,?_,?_,?_,⟨by omega,by omega,by omega,o4⟩,k.ok.n,k.ok.sure,smSet_ok k.ok.seen hs,?_,k.ok.fuse⟩)
 · exact q36.at f53 (by omega) rfl
 · exact q46.at fsure3 (by omega) rfl
 · exact q46.at u3.at_ (by omega) rfl
 · rw [List.map_append];exact rw5.keep q6 rfl
 · exact (ffails3.keep q46 rfl)
 · intro y hy
   rcases List.mem_append.1 hy with q | q
   · exact k.ok.pend y q
   · simp only [List.mem_singleton] at q
     subst q;exact hs
end
end Go.Proofs.Ytdfgfbammkojoaa.Sh
namespace Go.Proofs.Ytdfgfbammkojoaa.Sh
open Go Go.Ab Go.RowKit
open Go.Proofs.Ytdfgfbammkojoaa.Ru (Pg okP)
set_option maxRecDepth 100000
noncomputable def B32:Code:=(Try.f32.body).getD .skip
def R32:List ResultVar:=[]
abbrev N32:Nat:=13
def K32:KT:=(.seq .leaf (.two .leaf .leaf) [0,1,6])
theorem S32 (Q:AEnd→AH→Prop) (a0 a1:V) (h:AH):vc Pg N32 B32 K32 (vcRet Pg R32 Q) (initEnv 0 [a0,a1]) h=(
 ACalls Pg 65 [a0,a1] h (aEnd (fun v1 h2 =>
 vcIf v1 (
 bindV (aNil a0 h2) fun v3 h4 =>
 bindV (still (aFieldAddr Pg 153 v3 1) h4) fun v5 h6 =>
 bindV (aLoadV Pg h6 150 v5) fun v7 h8 =>
 bindV (still (aIndexAddr Pg 150 v7 a1) h8) fun v9 h10 =>
 bindV (aStoreV Pg h10 4 v9 (V.bool true)) fun _ h12 =>
 Q (.ret (V.tup [])) h12) (
 Q (.ret (V.tup [])) h2)) fun v h=>Q (.panic v) h)):=by kernel_rfl
theorem C32 (Q:AEnd→AH→Prop) (a0 a1:V) (h:AH) (c :
 ACalls Pg 65 [a0,a1] h (aEnd (fun v1 h2 =>
 vcIf v1 (
 bindV (aNil a0 h2) fun v3 h4 =>
 bindV (still (aFieldAddr Pg 153 v3 1) h4) fun v5 h6 =>
 bindV (aLoadV Pg h6 150 v5) fun v7 h8 =>
 bindV (still (aIndexAddr Pg 150 v7 a1) h8) fun v9 h10 =>
 bindV (aStoreV Pg h10 4 v9 (V.bool true)) fun _ h12 =>
 Q (.ret (V.tup [])) h12) (
 Q (.ret (V.tup [])) h2)) fun v h=>Q (.panic v) h)):ACalls Pg 32 [a0,a1] h Q :=
 acalls_of_vc okP Try.func32 (show Try.f32.body=some B32 from by kernel_rfl) K32 (by rw [← S32 Q a0 a1 h] at c;exact c)
noncomputable def B33:Code:=(Try.f33.body).getD .skip
def R33:List ResultVar:=[]
abbrev N33:Nat:=16
def K33:KT:=(.seq .leaf (.two .leaf .leaf) [0,1,6])
theorem S33 (Q:AEnd→AH→Prop) (a0 a1:V) (h:AH):vc Pg N33 B33 K33 (vcRet Pg R33 Q) (initEnv 0 [a0,a1]) h=(
 ACalls Pg 65 [a0,a1] h (aEnd (fun v1 h2 =>
 vcIf v1 (
 bindV (aNil a0 h2) fun v3 h4 =>
 bindV (still (aFieldAddr Pg 153 v3 3) h4) fun v5 h6 =>
 bindV (aLoadV Pg h6 151 v5) fun v7 h8 =>
 bindV (still (aIndexAddr Pg 151 v7 a1) h8) fun v9 h10 =>
 bindV (aLoadV Pg h10 3 v9) fun v11 h12 =>
 bindV (still (aBin Pg .add 3 v11 (V.int .i64 1) true) h12) fun v13 h14 =>
 bindV (still (aIndexAddr Pg 151 v7 a1) h14) fun v15 h16 =>
 bindV (aStoreV Pg h16 3 v15 v13) fun _ h18 =>
 Q (.ret (V.tup [])) h18) (
 Q (.ret (V.tup [])) h2)) fun v h=>Q (.panic v) h)):=by kernel_rfl
theorem C33 (Q:AEnd→AH→Prop) (a0 a1:V) (h:AH) (c :
 ACalls Pg 65 [a0,a1] h (aEnd (fun v1 h2 =>
 vcIf v1 (
 bindV (aNil a0 h2) fun v3 h4 =>
 bindV (still (aFieldAddr Pg 153 v3 3) h4) fun v5 h6 =>
 bindV (aLoadV Pg h6 151 v5) fun v7 h8 =>
 bindV (still (aIndexAddr Pg 151 v7 a1) h8) fun v9 h10 =>
 bindV (aLoadV Pg h10 3 v9) fun v11 h12 =>
 bindV (still (aBin Pg .add 3 v11 (V.int .i64 1) true) h12) fun v13 h14 =>
 bindV (still (aIndexAddr Pg 151 v7 a1) h14) fun v15 h16 =>
 bindV (aStoreV Pg h16 3 v15 v13) fun _ h18 =>
 Q (.ret (V.tup [])) h18) (
 Q (.ret (V.tup [])) h2)) fun v h=>Q (.panic v) h)):ACalls Pg 33 [a0,a1] h Q :=
 acalls_of_vc okP Try.func33 (show Try.f33.body=some B33 from by kernel_rfl) K33 (by rw [← S33 Q a0 a1 h] at c;exact c)
noncomputable def B40:Code:=(Try.f40.body).getD .skip
def R40:List ResultVar:=[]
abbrev N40:Nat:=19
def K40:KT:=(.seq .leaf (.two (.eff [11,13]) .leaf) [0,1,6])
theorem S40 (Q:AEnd→AH→Prop) (a0 a1:V) (h:AH):vc Pg N40 B40 K40 (vcRet Pg R40 Q) (initEnv 0 [a0,a1]) h=(
 ACalls Pg 65 [a0,a1] h (aEnd (fun v1 h2 =>
 vcIf v1 (
 bindO (fstV (aNil a0 h2)) fun v3 =>
 bindO (fstV (still (aFieldAddr Pg 153 v3 1) h2)) fun v4 =>
 bindO (fstV (aLoadV Pg h2 150 v4)) fun v5 =>
 (
 bindO (fstV (aNil a0 h2)) fun v6 =>
 bindO (fstV (still (aFieldAddr Pg 153 v6 2) h2)) fun v7 =>
 bindO (fstV (aLoadV Pg h2 150 v7)) fun v8 =>
 (
 bindO (fstV (still (aIndexAddr Pg 150 v5 a1) h2)) fun v9 =>
 bindV (aStoreV Pg h2 4 v9 (V.bool false)) fun _ h11=>(
 bindO (fstV (still (aIndexAddr Pg 150 v8 a1) h11)) fun v12 =>
 bindV (aStoreV Pg h11 4 v12 (V.bool false)) fun _ h14=>(
 Q (.ret (V.tup [])) h14))))) (
 Q (.ret (V.tup [])) h2)) fun v h=>Q (.panic v) h)):=by kernel_rfl
theorem C40 (Q:AEnd→AH→Prop) (a0 a1:V) (h:AH) (c :
 ACalls Pg 65 [a0,a1] h (aEnd (fun v1 h2 =>
 vcIf v1 (
 bindO (fstV (aNil a0 h2)) fun v3 =>
 bindO (fstV (still (aFieldAddr Pg 153 v3 1) h2)) fun v4 =>
 bindO (fstV (aLoadV Pg h2 150 v4)) fun v5 =>
 (
 bindO (fstV (aNil a0 h2)) fun v6 =>
 bindO (fstV (still (aFieldAddr Pg 153 v6 2) h2)) fun v7 =>
 bindO (fstV (aLoadV Pg h2 150 v7)) fun v8 =>
 (
 bindO (fstV (still (aIndexAddr Pg 150 v5 a1) h2)) fun v9 =>
 bindV (aStoreV Pg h2 4 v9 (V.bool false)) fun _ h11=>(
 bindO (fstV (still (aIndexAddr Pg 150 v8 a1) h11)) fun v12 =>
 bindV (aStoreV Pg h11 4 v12 (V.bool false)) fun _ h14=>(
 Q (.ret (V.tup [])) h14))))) (
 Q (.ret (V.tup [])) h2)) fun v h=>Q (.panic v) h)):ACalls Pg 40 [a0,a1] h Q :=
 acalls_of_vc okP Try.func40 (show Try.f40.body=some B40 from by kernel_rfl) K40 (by rw [← S40 Q a0 a1 h] at c;exact c)
noncomputable def B51:Code:=(Try.f51.body).getD .skip
def R51:List ResultVar:=[.tmp 4]
abbrev N51:Nat:=28
def K51:KT:=(.seq .leaf (.join (.join (.reg [[0,1,9,17]]) (.two (.seq .leaf .leaf [4]) .leaf) [0,1,18]) (.seq .leaf (.seq .leaf .leaf [4]) []) [0,1]) [0,1])
def Jz5w (Q:AEnd→AH→Prop) (x0 x1:V) (h:AH):Prop:=vcAt Pg N51 B51 K51 [1,1] [] (vcRet Pg R51 Q) [(0,x0),(1,x1)] h
def Jz5v (Q:AEnd→AH→Prop) (x0 x1 x18:V) (h:AH):Prop:=vcAt Pg N51 B51 K51 [1,0,1] [] (vcRet Pg R51 Q) [(0,x0),(1,x1),(18,x18)] h
def Gz1b (Q:AEnd→AH→Prop) (x0 x1 x9 x17:V) (h:AH):Prop:=segAt Pg N51 B51 K51 [1,0,0] 2 1 [] (vcRet Pg R51 Q) [(0,x0),(1,x1),(9,x9),(17,x17)] h
theorem Jz5w_eq (Q:AEnd→AH→Prop) (x0 x1:V) (h:AH):Jz5w Q x0 x1 h=(
 bindV (aNil x0 h) fun v7 h8 =>
 bindV (still (aFieldAddr Pg 153 v7 3) h8) fun v9 h10 =>
 bindV (aLoadV Pg h10 151 v9) fun v11 h12 =>
 bindV (still (aIndexAddr Pg 151 v11 x1) h12) fun v13 h14 =>
 bindV (aLoadV Pg h14 3 v13) fun v15 h16 =>
 bindV (still (aBin Pg .sub 3 v15 (V.int .i64 1) true) h16) fun v17 h18 =>
 bindV (still (aIndexAddr Pg 151 v11 x1) h18) fun v19 h20 =>
 bindV (aStoreV Pg h20 3 v19 v17) fun _ h22 =>
 Q (.ret (V.bool true)) h22):=by kernel_rfl
theorem Jz5v_eq (Q:AEnd→AH→Prop) (x0 x1 x18:V) (h:AH):Jz5v Q x0 x1 x18 h=(
 vcIf x18 (
 Q (.ret (V.bool false)) h) (
 Meet (Jz5w Q x0 x1 h))):=by kernel_rfl
theorem Gz1b_eq (Q:AEnd→AH→Prop) (x0 x1 x9 x17:V) (h:AH):Gz1b Q x0 x1 x9 x17 h=(
 bindV (aPick x9 (V.bool true) x17 h) fun v5 h6 =>
 Meet (Jz5v Q x0 x1 v5 h6)):=by kernel_rfl
theorem S51 (Q:AEnd→AH→Prop) (a0 a1:V) (h:AH):vc Pg N51 B51 K51 (vcRet Pg R51 Q) (initEnv 0 [a0,a1]) h=(
 ACalls Pg 65 [a0,a1] h (aEnd (fun v1 h2 =>
 bindV (still (aUn .not v1) h2) fun v3 h4 =>
 vcG v3 false (
 bindV (aNil a0 h4) fun v23 h24 =>
 bindV (still (aFieldAddr Pg 153 v23 3) h24) fun v25 h26 =>
 bindV (aLoadV Pg h26 151 v25) fun v27 h28 =>
 bindV (still (aIndexAddr Pg 151 v27 a1) h28) fun v29 h30 =>
 bindV (aLoadV Pg h30 3 v29) fun v31 h32 =>
 bindV (still (aBin Pg .eql 3 v31 (V.int .i64 0) true) h32) fun v33 h34 =>
 Meet (Gz1b Q a0 a1 v3 v33 h34)) (Meet (Gz1b Q a0 a1 v3 hole h4))) fun v h=>Q (.panic v) h)):=by kernel_rfl
theorem C51 (Q:AEnd→AH→Prop) (a0 a1:V) (h:AH) (c :
 ACalls Pg 65 [a0,a1] h (aEnd (fun v1 h2 =>
 bindV (still (aUn .not v1) h2) fun v3 h4 =>
 vcG v3 false (
 bindV (aNil a0 h4) fun v23 h24 =>
 bindV (still (aFieldAddr Pg 153 v23 3) h24) fun v25 h26 =>
 bindV (aLoadV Pg h26 151 v25) fun v27 h28 =>
 bindV (still (aIndexAddr Pg 151 v27 a1) h28) fun v29 h30 =>
 bindV (aLoadV Pg h30 3 v29) fun v31 h32 =>
 bindV (still (aBin Pg .eql 3 v31 (V.int .i64 0) true) h32) fun v33 h34 =>
 Meet (Gz1b Q a0 a1 v3 v33 h34)) (Meet (Gz1b Q a0 a1 v3 hole h4))) fun v h=>Q (.panic v) h)):ACalls Pg 51 [a0,a1] h Q :=
 acalls_of_vc okP Try.func51 (show Try.f51.body=some B51 from by kernel_rfl) K51 (by rw [← S51 Q a0 a1 h] at c;exact c)
noncomputable def B59:Code:=(Try.f59.body).getD .skip
def R59:List ResultVar:=[.tmp 4]
abbrev N59:Nat:=16
def K59:KT:=(.seq .leaf (.join (.seq .leaf (.two (.seq .leaf .leaf [4]) .leaf) [0,1,8]) (.seq .leaf .leaf [4]) [0,1]) [0,1])
def Jz60 (Q:AEnd→AH→Prop) (x0 x1:V) (h:AH):Prop:=vcAt Pg N59 B59 K59 [1,1] [] (vcRet Pg R59 Q) [(0,x0),(1,x1)] h
theorem Jz60_eq (Q:AEnd→AH→Prop) (x0 x1:V) (h:AH):Jz60 Q x0 x1 h=(
 bindV (aNil x0 h) fun v5 h6 =>
 bindV (still (aFieldAddr Pg 153 v5 3) h6) fun v7 h8 =>
 bindV (aLoadV Pg h8 151 v7) fun v9 h10 =>
 bindV (still (aIndexAddr Pg 151 v9 x1) h10) fun v11 h12 =>
 bindV (aLoadV Pg h12 3 v11) fun v13 h14 =>
 Q (.ret v13) h14):=by kernel_rfl
theorem S59 (Q:AEnd→AH→Prop) (a0 a1:V) (h:AH):vc Pg N59 B59 K59 (vcRet Pg R59 Q) (initEnv 0 [a0,a1]) h=(
 ACalls Pg 65 [a0,a1] h (aEnd (fun v1 h2 =>
 bindV (still (aUn .not v1) h2) fun v3 h4 =>
 vcIf v3 (
 Q (.ret (V.int .i64 0)) h4) (
 Meet (Jz60 Q a0 a1 h4))) fun v h=>Q (.panic v) h)):=by kernel_rfl
theorem C59 (Q:AEnd→AH→Prop) (a0 a1:V) (h:AH) (c :
 ACalls Pg 65 [a0,a1] h (aEnd (fun v1 h2 =>
 bindV (still (aUn .not v1) h2) fun v3 h4 =>
 vcIf v3 (
 Q (.ret (V.int .i64 0)) h4) (
 Meet (Jz60 Q a0 a1 h4))) fun v h=>Q (.panic v) h)):ACalls Pg 59 [a0,a1] h Q :=
 acalls_of_vc okP Try.func59 (show Try.f59.body=some B59 from by kernel_rfl) K59 (by rw [← S59 Q a0 a1 h] at c;exact c)
noncomputable def B65:Code:=(Try.f65.body).getD .skip
def R65:List ResultVar:=[.tmp 4]
abbrev N65:Nat:=20
def K65:KT:=(.seq .leaf (.join (.reg [[0,1,7,9],[11,18]]) .leaf [4]) [0,1])
def Jz68 (Q:AEnd→AH→Prop) (x4:V) (h:AH):Prop:=vcAt Pg N65 B65 K65 [1,1] [] (vcRet Pg R65 Q) [(4,x4)] h
def Gz1j (Q:AEnd→AH→Prop) (x11 x18:V) (h:AH):Prop:=segAt Pg N65 B65 K65 [1,0] 4 2 [] (vcRet Pg R65 Q) [(11,x11),(18,x18)] h
def Gz1i (Q:AEnd→AH→Prop) (x0 x1 x7 x9:V) (h:AH):Prop:=segAt Pg N65 B65 K65 [1,0] 2 1 [] (vcRet Pg R65 Q) [(0,x0),(1,x1),(7,x7),(9,x9)] h
theorem Jz68_eq (Q:AEnd→AH→Prop) (x4:V) (h:AH):Jz68 Q x4 h=(
 Q (.ret x4) h):=by kernel_rfl
theorem Gz1j_eq (Q:AEnd→AH→Prop) (x11 x18:V) (h:AH):Gz1j Q x11 x18 h=(
 bindV (aPick x11 x18 (V.bool false) h) fun v5 h6 =>
 Meet (Jz68 Q v5 h6)):=by kernel_rfl
theorem Gz1i_eq (Q:AEnd→AH→Prop) (x0 x1 x7 x9:V) (h:AH):Gz1i Q x0 x1 x7 x9 h=(
 bindV (aPick x7 x9 (V.bool false) h) fun v3 h4 =>
 vcG v3 true (
 bindV (aNil x0 h4) fun v7 h8 =>
 bindV (still (aFieldAddr Pg 153 v7 3) h8) fun v9 h10 =>
 bindV (aLoadV Pg h10 151 v9) fun v11 h12 =>
 bindV (aBuiltin Pg h12 .len [151] [v11]) fun v13 h14 =>
 bindV (still (aBin Pg .lss 3 x1 v13 false) h14) fun v15 h16 =>
 Meet (Gz1j Q v3 v15 h16)) (Meet (Gz1j Q v3 hole h4))):=by kernel_rfl
theorem S65 (Q:AEnd→AH→Prop) (a0 a1:V) (h:AH):vc Pg N65 B65 K65 (vcRet Pg R65 Q) (initEnv 0 [a0,a1]) h=(
 bindV (still (aBin Pg .neq 95 a0 (V.ptr none) true) h) fun v1 h2 =>
 vcG v1 true (
 bindV (still (aBin Pg .geq 3 a1 (V.int .i64 0) true) h2) fun v17 h18 =>
 Meet (Gz1i Q a0 a1 v1 v17 h18)) (Meet (Gz1i Q a0 a1 v1 hole h2))):=by kernel_rfl
theorem C65 (Q:AEnd→AH→Prop) (a0 a1:V) (h:AH) (c :
 bindV (still (aBin Pg .neq 95 a0 (V.ptr none) true) h) fun v1 h2 =>
 vcG v1 true (
 bindV (still (aBin Pg .geq 3 a1 (V.int .i64 0) true) h2) fun v17 h18 =>
 Meet (Gz1i Q a0 a1 v1 v17 h18)) (Meet (Gz1i Q a0 a1 v1 hole h2))):ACalls Pg 65 [a0,a1] h Q :=
 acalls_of_vc okP Try.func65 (show Try.f65.body=some B65 from by kernel_rfl) K65 (by rw [← S65 Q a0 a1 h] at c;exact c)
end Go.Proofs.Ytdfgfbammkojoaa.Sh
namespace Go.Proofs.Ytdfgfbammkojoaa.Sh
open Go Go.Ab Go.RowKit
open Go.Proofs.Ytdfgfbammkojoaa.Ru (Pg okP)
set_option maxRecDepth 10000
set_option linter.unusedSectionVars false
def bools (l:List Bool):List V:=l.map .bool
def ints (l:List Nat):List V:=l.map fun n:Nat=>V.int .i64 (n:Int)
theorem bools_len (l:List Bool):(bools l).length=l.length:=by simp [bools]
theorem at_nat (i:Nat):0 + ((i:Nat):Int).toNat=i:=by omega
theorem get_bools {l:List Bool} {i:Nat} (h:i < l.length):getV (.agg (bools l)) ([]++[0 + ((i:Nat):Int).toNat])=some (.bool (l.getD i false)):=by
 rw [at_nat]
 exact getV_row (by simp [bools,List.getElem?_eq_getElem h])
theorem get_ints {l:List Nat} {i:Nat} (h:i < l.length):getV (.agg (ints l)) ([]++[0 + ((i:Nat):Int).toNat])=some (.int .i64 ((l.getD i 0:Nat):Int)):=by
 rw [at_nat]
 exact getV_row (by simp [ints,List.getElem?_eq_getElem h])
theorem set_bools {l:List Bool} {i:Nat} (h:i < l.length) (b:Bool):setV (.agg (bools l)) ([]++[0 + ((i:Nat):Int).toNat]) (.bool b)=some (.agg (bools (l.set i b))):=by
 rw [at_nat]
 simp [setV,bools,List.getElem?_eq_getElem h,List.map_set]
theorem set_ints {l:List Nat} {i:Nat} (h:i < l.length) (n:Nat):setV (.agg (ints l)) ([]++[0 + ((i:Nat):Int).toNat]) (.int .i64 n)=some (.agg (ints (l.set i n))):=by
 rw [at_nat]
 simp [setV,ints,List.getElem?_eq_getElem h,List.map_set]
structure Ck where
 hand:Nat
 seen:List Bool
 cold:List Bool
 pins:List Nat
def Ck.n (c:Ck):Nat:=c.pins.length
structure Ck.ok (c:Ck):Prop where
 hand:c.hand < c.n
 seen:c.seen.length=c.n
 cold:c.cold.length=c.n
 n:c.n≤64
 pins:∀ p∈c.pins,p≤1000000
def ckV (c:Ck) (s d p:Nat):V:=.agg [.int .i64 c.hand,.slc (some (⟨s,.row 4,[]⟩,0)) c.n,.slc (some (⟨d,.row 4,[]⟩,0)) c.n,.slc (some (⟨p,.row 3,[]⟩,0)) c.n]
structure CkA (h:AH) (k s d p:Nat) (c:Ck):Prop where
 fk:h.m k=some (.cells true (.one 153) (ckV c s d p))
 fs:h.m s=some (.cells true (.row 4) (.agg (bools c.seen)))
 fd:h.m d=some (.cells true (.row 4) (.agg (bools c.cold)))
 fp:h.m p=some (.cells true (.row 3) (.agg (ints c.pins)))
 o:k < h.next∧s < h.next∧d < h.next∧p < h.next∧s≠d
 ok:c.ok
abbrev ckP (k:Nat):V:=.ptr (some ⟨k,.one 153,[]⟩)
abbrev TB:Tags:=[(1,4,0)]
abbrev TI:Tags:=[(1,3,0)]
theorem CkA.keep {T:Tags} {h h':AH} {k s d p:Nat} {c:Ck} (a:CkA h k s d p c) (q:Keeps T h h') (h1:T.contains (0,153,0)=false) (h2:T.contains (1,4,0)=false) (h3:T.contains (1,3,0)=false):CkA h' k s d p c:=by
 obtain ⟨a1,a2,a3,a4,⟨o1,o2,o3,o4,o5⟩,ok⟩:=a
 have:=q.next
 exact ⟨q.at a1 o1 h1,q.at a2 o2 h2,q.at a3 o3 h2,q.at a4 o4 h3,⟨by omega,by omega,by omega,by omega,o5⟩,ok⟩
section
variable {h:AH} {k s d p:Nat} {c:Ck}
theorem ckHas (a:CkA h k s d p c) (i:Int):ACalls Pg 65 [ckP k,.int .i64 i] h (pureE (.bool (decide (0≤i∧i < c.n))) h):=by
 refine C65 _ _ _ _ ?_
 refine bindS_mk (show aBin Pg .neq 95 (.ptr (some _)) (.ptr none) true=some (.bool true) by kernel_rfl) ?_
 refine g_tt ?_
 refine bindS_mk b_geq ?_
 refine Meet.of (cast_p (Gz1i_eq _ _ _ _ _ _) ?_)
 refine bindV_mk p_t ?_
 refine g_split_t (fun q=>?_) (fun q=>?_)
 · rw [q]
   replace q:=of_decide_eq_true q
   refine bindV_mk rfl ?_
   refine bindS_mk (fa_mk (by kernel_rfl)) ?_
   refine bindV_mk (ld_mk a.fk (by kernel_rfl) rfl) ?_
   refine bindV_mk (len_slc (by kernel_rfl)) ?_
   refine bindS_mk b_lss ?_
   refine Meet.of (cast_p (Gz1j_eq _ _ _ _) ?_)
   refine bindV_mk p_t ?_
   refine Meet.of (cast_p (Jz68_eq _ _ _) ?_)
   refine ⟨?_,rfl⟩
   congr 2
   by_cases r:i < c.n <;> simp [r];omega
 · rw [q]
   replace q:=of_decide_eq_false q
   refine Meet.of (cast_p (Gz1j_eq _ _ _ _) ?_)
   refine bindV_mk p_f ?_
   refine Meet.of (cast_p (Jz68_eq _ _ _) ?_)
   refine ⟨?_,rfl⟩
   rw [decide_eq_false (by omega)]
theorem has_at (a:CkA h k s d p c) {i:Nat} (hi:i < c.n):ACalls Pg 65 [ckP k,.int .i64 i] h (pureE (.bool true) h):=by
 have:=ckHas a i
 rw [decide_eq_true (by omega)] at this
 exact this
theorem CkA.setS {h':AH} {l:List Bool} (a:CkA h k s d p c) (u:Upd h h' s (.cells true (.row 4) (.agg (bools l)))) (hl:l.length=c.n):CkA h' k s d p { c with seen:=l }:=by
 obtain ⟨o1,o2,o3,o4,o5⟩:=a.o
 have n1:=u.next
 exact ⟨(u.other _ (ne_tag a.fk a.fs (by simp [AO.tag]))).trans a.fk,u.at_,(u.other _ (fun e=>o5 e.symm)).trans a.fd,(u.other _ (ne_tag a.fp a.fs (by simp [AO.tag]))).trans a.fp,⟨by omega,by omega,by omega,by omega,o5⟩,a.ok.hand,hl,a.ok.cold,a.ok.n,a.ok.pins⟩
theorem CkA.setD {h':AH} {l:List Bool} (a:CkA h k s d p c) (u:Upd h h' d (.cells true (.row 4) (.agg (bools l)))) (hl:l.length=c.n):CkA h' k s d p { c with cold:=l }:=by
 obtain ⟨o1,o2,o3,o4,o5⟩:=a.o
 have n1:=u.next
 exact ⟨(u.other _ (ne_tag a.fk a.fd (by simp [AO.tag]))).trans a.fk,(u.other _ o5).trans a.fs,u.at_,(u.other _ (ne_tag a.fp a.fd (by simp [AO.tag]))).trans a.fp,⟨by omega,by omega,by omega,by omega,o5⟩,a.ok.hand,a.ok.seen,hl,a.ok.n,a.ok.pins⟩
theorem CkA.setP {h':AH} {l:List Nat} (a:CkA h k s d p c) (u:Upd h h' p (.cells true (.row 3) (.agg (ints l)))) (hl:l.length=c.n) (hp:∀ x∈l,x≤1000000):CkA h' k s d p { c with pins:=l }:=by
 obtain ⟨o1,o2,o3,o4,o5⟩:=a.o
 have n1:=u.next
 have en:({ c with pins:=l }:Ck).n=c.n:=hl
 have ek:ckV { c with pins:=l } s d p=ckV c s d p:=by unfold ckV;rw [en]
 exact ⟨by rw [ek];exact (u.other _ (ne_tag a.fk a.fp (by simp [AO.tag]))).trans a.fk,(u.other _ (ne_tag a.fs a.fp (by simp [AO.tag]))).trans a.fs,(u.other _ (ne_tag a.fd a.fp (by simp [AO.tag]))).trans a.fd,u.at_,⟨by omega,by omega,by omega,by omega,o5⟩,by rw [en];exact a.ok.hand,by rw [en];exact a.ok.seen,by rw [en];exact a.ok.cold,by rw [en];exact a.ok.n,hp⟩
theorem ckTouch (a:CkA h k s d p c) {i:Nat} (hi:i < c.n):ACalls Pg 32 [ckP k,.int .i64 i] h (Gives TB h (.tup []) fun h'=>CkA h' k s d p { c with seen:=c.seen.set i true }):=by
 have hs:=a.ok.seen
 refine C32 _ _ _ _ ?_
 refine callS (has_at a hi) (i_t ?_)
 refine bindV_mk rfl ?_
 refine bindS_mk (fa_mk (by kernel_rfl)) ?_
 refine bindV_mk (ld_mk a.fk (by kernel_rfl) rfl) ?_
 refine bindS_mk (ia_slc _ (by kernel_rfl) (by omega) (by omega)) ?_
 refine bindE (st_at a.fs (by kernel_rfl) (get_bools (by omega)) (by kernel_rfl) (set_bools (by omega) true)) fun h1 u1=>?_
 exact ⟨rfl,Keeps.upd u1 a.fs rfl rfl,a.setS u1 (by simp;exact hs)⟩
theorem ckClear (a:CkA h k s d p c) {i:Nat} (hi:i < c.n):ACalls Pg 40 [ckP k,.int .i64 i] h (Gives TB h (.tup []) fun h'=>CkA h' k s d p { c with seen:=c.seen.set i false,cold:=c.cold.set i false }):=by
 have hs:=a.ok.seen
 have hd:=a.ok.cold
 refine C40 _ _ _ _ ?_
 refine callS (has_at a hi) (i_t ?_)
 refine bindVO_mk rfl ?_
 refine bindSO_mk (fa_mk (by kernel_rfl)) ?_
 refine bindVO_mk (ld_mk a.fk (by kernel_rfl) rfl) ?_
 refine bindVO_mk rfl ?_
 refine bindSO_mk (fa_mk (by kernel_rfl)) ?_
 refine bindVO_mk (ld_mk a.fk (by kernel_rfl) rfl) ?_
 refine bindSO_mk (ia_slc _ (by kernel_rfl) (by omega) (by omega)) ?_
 refine bindE (st_at a.fs (by kernel_rfl) (get_bools (by omega)) (by kernel_rfl) (set_bools (by omega) false)) fun h1 u1=>?_
 have a1:=a.setS u1 (by simp;exact hs)
 refine bindSO_mk (ia_slc _ (by kernel_rfl) (by omega) (by omega)) ?_
 refine bindE (st_at a1.fd (by kernel_rfl) (get_bools (by show i < c.cold.length;omega)) (by kernel_rfl) (set_bools (by show i < c.cold.length;omega) false)) fun h2 u2=>?_
 have a2:=a1.setD u2 (by show (c.cold.set i false).length=_;simp;exact hd)
 exact ⟨rfl,(Keeps.upd u1 a.fs rfl rfl).trans (Keeps.upd u2 a1.fd rfl rfl),a2⟩
theorem pins_set {l:List Nat} {i v:Nat} (h:∀ x∈l,x≤1000000) (hv:v≤1000000):∀ x∈l.set i v,x≤1000000:=fun x hx=>by
 rcases List.mem_or_eq_of_mem_set hx with q | q
 · exact h x q
 · omega
theorem getD_mem' {l:List Nat} {i:Nat} (h:i < l.length):l.getD i 0∈l:=by
 rw [List.getD_eq_getElem?_getD,List.getElem?_eq_getElem h];exact List.getElem_mem h
theorem ckPin (a:CkA h k s d p c) {i:Nat} (hi:i < c.n) (hm:c.pins.getD i 0 < 1000000):ACalls Pg 33 [ckP k,.int .i64 i] h (Gives TI h (.tup []) fun h'=>CkA h' k s d p { c with pins:=c.pins.set i (c.pins.getD i 0 + 1) }):=by
 have hs:c.pins.length=c.n:=rfl
 refine C33 _ _ _ _ ?_
 refine callS (has_at a hi) (i_t ?_)
 refine bindV_mk rfl ?_
 refine bindS_mk (fa_mk (by kernel_rfl)) ?_
 refine bindV_mk (ld_mk a.fk (by kernel_rfl) rfl) ?_
 refine bindS_mk (ia_slc _ (by kernel_rfl) (by omega) (by omega)) ?_
 refine bindV_mk (ld_mk a.fp (by kernel_rfl) (get_ints (by omega))) ?_
 refine bindS_mk (w_add (wrap_i64 (by omega) (by omega))) ?_
 refine bindS_mk (ia_slc _ (by kernel_rfl) (by omega) (by omega)) ?_
 refine bindE (st_at a.fp (by kernel_rfl) (get_ints (by omega)) (by kernel_rfl) (set_ints (by omega) (c.pins.getD i 0 + 1))) fun h1 u1=>?_
 exact ⟨rfl,Keeps.upd u1 a.fp rfl rfl,a.setP u1 (by simp;exact hs) (pins_set a.ok.pins (by omega))⟩
theorem ckPins (a:CkA h k s d p c) {i:Nat} (hi:i < c.n):ACalls Pg 59 [ckP k,.int .i64 i] h (pureE (.int .i64 (c.pins.getD i 0:Nat)) h):=by
 have hs:c.pins.length=c.n:=rfl
 refine C59 _ _ _ _ ?_
 refine callS (has_at a hi) ?_
 refine bindS_mk u_not (i_f ?_)
 refine Meet.of (cast_p (Jz60_eq _ _ _ _) ?_)
 refine bindV_mk rfl ?_
 refine bindS_mk (fa_mk (by kernel_rfl)) ?_
 refine bindV_mk (ld_mk a.fk (by kernel_rfl) rfl) ?_
 refine bindS_mk (ia_slc _ (by kernel_rfl) (by omega) (by omega)) ?_
 refine bindV_mk (ld_mk a.fp (by kernel_rfl) (get_ints (by omega))) ?_
 exact ⟨rfl,rfl⟩
theorem ckUnpin (a:CkA h k s d p c) {i:Nat} (hi:i < c.n) (hp:0 < c.pins.getD i 0):ACalls Pg 51 [ckP k,.int .i64 i] h (Gives TI h (.bool true) fun h'=>CkA h' k s d p { c with pins:=c.pins.set i (c.pins.getD i 0 - 1) }):=by
 have hs:c.pins.length=c.n:=rfl
 have hm:=a.ok.pins _ (getD_mem' (l:=c.pins) (i:=i) (by omega))
 refine C51 _ _ _ _ ?_
 refine callS (has_at a hi) ?_
 refine bindS_mk u_not (g_ff ?_)
 refine bindV_mk rfl ?_
 refine bindS_mk (fa_mk (by kernel_rfl)) ?_
 refine bindV_mk (ld_mk a.fk (by kernel_rfl) rfl) ?_
 refine bindS_mk (ia_slc _ (by kernel_rfl) (by omega) (by omega)) ?_
 refine bindV_mk (ld_mk a.fp (by kernel_rfl) (get_ints (by omega))) ?_
 refine bindS_mk b_eql ?_
 rw [show (((c.pins.getD i 0:Nat):Int) == 0)=false from beq_eq_false_iff_ne.2 (by omega)]
 refine Meet.of (cast_p (Gz1b_eq _ _ _ _ _ _) ?_)
 refine bindV_mk p_f ?_
 refine Meet.of (cast_p (Jz5v_eq _ _ _ _ _) ?_)
 refine i_f ?_
 refine Meet.of (cast_p (Jz5w_eq _ _ _ _) ?_)
 refine bindV_mk rfl ?_
 refine bindS_mk (fa_mk (by kernel_rfl)) ?_
 refine bindV_mk (ld_mk a.fk (by kernel_rfl) rfl) ?_
 refine bindS_mk (ia_slc _ (by kernel_rfl) (by omega) (by omega)) ?_
 refine bindV_mk (ld_mk a.fp (by kernel_rfl) (get_ints (by omega))) ?_
 refine bindS_mk (w_sub (wrap_i64 (by omega) (by omega))) ?_
 refine bindS_mk (ia_slc _ (by kernel_rfl) (by omega) (by omega)) ?_
 refine bindE (st_at a.fp (by kernel_rfl) (get_ints (by omega)) (by kernel_rfl) (by rw [show ((c.pins.getD i 0:Nat):Int) - 1=((c.pins.getD i 0 - 1:Nat):Int) by omega];exact set_ints (by omega) (c.pins.getD i 0 - 1))) fun h1 u1=>?_
 exact ⟨rfl,Keeps.upd u1 a.fp rfl rfl,a.setP u1 (by simp;exact hs) (pins_set a.ok.pins (by omega))⟩
end
end Go.Proofs.Ytdfgfbammkojoaa.Sh
namespace Go.Proofs.Ytdfgfbammkojoaa.Sh
open Go Go.Ab Go.RowKit
open Go.Proofs.Ytdfgfbammkojoaa.Ru (Pg okP)
set_option maxRecDepth 10000
set_option linter.unusedSectionVars false
section
variable {h:AH} {p:Nat} {d:Dk} {m:Nat}
theorem wloop {Q:AEnd→AH→Prop} {h0:AH} {b n5:Nat} {x:List UInt8} (hx:x.length=256) (hp:d.pend.length≤900000000):∀ (j i m:Nat) (h:AH),i + j=4→j < m→Keeps TDs h0 h→DkA h p (d.put b x i)→h.m n5=some (.cells true (.one 56) (.agg (bytesV x)))→n5 < h.next →
   (∀ h',Keeps TDs h0 h'→DkA h' p (d.put b x 4)→Jz2l Q h')→Lz76 Q m (dkP p) (.int .i64 b) (blP n5) (.int .i64 i) h
 | j,i,0,h,hij,hm,_,_,_,_,_=>by omega
 | 0,i,m + 1,h,hij,hm,q,k,f5,h5,cont=>by
   obtain rfl:i=4:=by omega
   rw [Lz76_eq]
   refine bindS_mk b_lss ?_
   rw [decide_eq_false (by omega)]
   refine i_f ?_
   exact Meet.of (cont h q k)
 | j + 1,i,m + 1,h,hij,hm,q,k,f5,h5,cont=>by
   rw [Lz76_eq]
   refine bindS_mk b_lss ?_
   rw [decide_eq_true (by omega)]
   refine i_t ?_
   refine Meet.of (round20 k (by show (wPend d.pend b x i).length≤_;rw [wPend_len];omega) hx (by omega) f5 h5 fun h' q' f5' k'=>?_)
   have:=q'.next
   exact wloop hx hp j (i + 1) m h' (by omega) (by omega) (q.trans q') k' f5' (by omega) cont
theorem dkWrite (k:DkA h p d) (ho:d.ops < 1000000000000) (hp:d.pend.length≤900000000) (b:Int) {x:List UInt8} (hx:x.length=256):ACalls Pg 14 [dkP p,.int .i64 b,.agg (bytesV x)] h (Gives TDs h (.int .i64 (d.write b x).1) fun h'=>DkA h' p (d.write b x).2):=by
 refine C14 _ _ _ _ _ ?_
 refine bindE (new_at (shBlk hx)) fun h1 u1=>?_
 have n1:=u1.next
 have k1:DkA h1 p d:=k.keep (T:=[]) (Keeps.new u1) rfl rfl rfl rfl
 have q1:Keeps TDs h h1:=Keeps.new u1
 refine bindS_mk (show aBin Pg .eql 23 (.ptr (some _)) (.ptr none) true=some (.bool false) by kernel_rfl) ?_
 refine g_ff ?_
 refine bindV_mk rfl ?_
 refine bindS_mk (fa_mk (by kernel_rfl)) ?_
 obtain ⟨a,b',pv,fv,kb⟩:=id k1
 refine bindV_mk (ld_mk kb.disk (by kernel_rfl) (w:=.bool d.down) rfl) ?_
 refine Meet.of (cast_p (Gz2_eq _ _ _ _ _ _ _) ?_)
 refine bindV_mk p_f ?_
 refine Meet.of (cast_p (Jz2e_eq _ _ _ _ _ _) ?_)
 refine i_split (fun c=>?_) (fun c=>?_)
 · replace c:d.down=true:=c
   have e:d.write b x=(4,d):=by unfold Dk.write;rw [if_pos c]
   rw [e]
   exact ⟨rfl,q1,k1⟩
 · replace c:d.down=false:=c
   have c':¬ (d.down=true):=by rw [c];decide
   refine Meet.of (cast_p (Jz2f_eq _ _ _ _ _) ?_)
   have mid:∀ v,v=decide (b < 0∨(d.n:Int)≤b)→Jz2g (Gives TDs h (.int .i64 (d.write b x).1) fun h'=>DkA h' p (d.write b x).2) (dkP p) (.int .i64 b) (blP h.next) (.bool v) h1:=by
     intro v hv
     rw [Jz2g_eq]
     refine i_split (fun g=>?_) (fun g=>?_)
     · rw [g] at hv
       have g:=of_decide_eq_true hv.symm
       have e:d.write b x=(1,d):=by unfold Dk.write;rw [if_neg c',if_pos g]
       rw [e]
       exact ⟨rfl,q1,k1⟩
     · rw [g] at hv
       have g:=of_decide_eq_false hv.symm
       refine Meet.of (cast_p (Jz2h_eq _ _ _ _ _) ?_)
       refine callG (dkOp k1 ho) fun h2 q2 k2=>?_
       have n2:=q2.next
       have f2:h2.m h.next=some (.cells true (.one 56) (.agg (bytesV x))):=q2.at u1.at_ (by omega) rfl
       have q02:Keeps TDs h h2:=q1.trans (q2.sub rfl)
       refine bindS_mk b_neq ?_
       refine i_split (fun e=>?_) (fun e=>?_)
       · replace e:=ne_of_bne e
         have e2:d.write b x=d.op:=by unfold Dk.write;rw [if_neg c',if_neg g,if_pos e]
         rw [e2]
         exact ⟨rfl,q02,k2⟩
       · replace e:=eq_of_bne_false e
         have e2:d.write b x=(0,d.op.2.put b.toNat x 4):=by unfold Dk.write;rw [if_neg c',if_neg g,if_neg (by omega)]
         rw [e2]
         refine Meet.of (cast_p (Jz2i_eq _ _ _ _ _) ?_)
         have hb0:b=((b.toNat:Nat):Int):=by omega
         have key:=fun c=>wloop (Q:=Gives TDs h (.int .i64 0) fun h'=>DkA h' p (d.op.2.put b.toNat x 4)) (h0:=h) (d:=d.op.2) (b:=b.toNat) (n5:=h.next) hx (by rw [d.op_pend];exact hp) 4 0 5 h2 (by omega) (by omega) q02 k2 f2 (by omega) c
         rw [← hb0] at key
         refine ⟨5,Meet.of (key fun h' q k=>?_)⟩
         rw [Jz2l_eq]
         exact ⟨rfl,q,k⟩
   refine bindS_mk b_lss ?_
   refine g_split_f (fun g=>?_) (fun g=>?_)
   · rw [g]
     replace g:=of_decide_eq_false g
     refine bindV_mk rfl ?_
     refine bindS_mk (fa_mk (by kernel_rfl)) ?_
     refine bindV_mk (ld_mk kb.disk (by kernel_rfl) (w:=.int .i64 d.n) rfl) ?_
     refine bindS_mk b_geq ?_
     refine Meet.of (cast_p (Gz3_eq _ _ _ _ _ _ _) ?_)
     refine bindV_mk p_f ?_
     refine Meet.of (mid _ ?_)
     by_cases r:(d.n:Int)≤b
     · rw [decide_eq_true (by omega),decide_eq_true (by omega)]
     · rw [decide_eq_false (by omega),decide_eq_false (by omega)]
   · rw [g]
     replace g:=of_decide_eq_true g
     refine Meet.of (cast_p (Gz3_eq _ _ _ _ _ _ _) ?_)
     refine bindV_mk p_t ?_
     refine Meet.of (mid _ ?_)
     rw [decide_eq_true (by omega)]
end
def setl (f:Nat→Bool):Nat→Sm→Sm→Sm
 | _,s,[]=>s
 | i,s,(k,x) :: l=>setl f (i + 1) (if f i then smSet s k x else s) l
def lastF (keep:List Bool) (all:Bool) (i:Nat):Bool:=all || keep.getD i false
def Dk.settle (d:Dk) (keep:List Bool) (all:Bool):Dk:={ d with sure:=setl (lastF keep all) 0 d.sure d.pend,pend:=[] }
section
variable {p:Nat} {keep:List Bool} {all:Bool} {kv:V}
theorem round129 {Q:AEnd→AH→Prop} {h h0:AH} {d:Dk} {np i m:Nat} {x12:V} {l:Sm} (k:DkA h p d) (q:Keeps TDs h0 h) (hk:RwB 4 h kv (bools keep)) (hl:SmOk l) (fp:h.m np=some (.cells true (.row 125) (.agg (l.map wrV)))) (hp:np < h.next) (hi:i < l.length) (h31:l.length≤1000000000)
   (cont:∀ h',Keeps TDs h0 h'→RwB 4 h' kv (bools keep)→h'.m np=some (.cells true (.row 125) (.agg (l.map wrV)))→np < h'.next→DkA h' p { d with sure:=if lastF keep all i then smSet d.sure (l.getD i ((0,0),[])).1 (l.getD i ((0,0),[])).2 else d.sure }→Lz7i Q m (dkP p) kv (.bool all) (.slc (some (⟨np,.row 125,[]⟩,0)) l.length) x12 (.int .i64 ((i + 1:Nat):Int)) h') :
   Jz52 Q m (dkP p) kv (.bool all) (.slc (some (⟨np,.row 125,[]⟩,0)) l.length) x12 (.int .i64 i) h:=by
 obtain ⟨w,hw⟩:∃ w,l[i]?=some w:=⟨l[i],List.getElem?_eq_getElem hi⟩
 have hwd:l.getD i ((0,0),[])=w:=by rw [List.getD_eq_getElem?_getD,hw];rfl
 rw [hwd] at cont
 have hws:w.2.length=64:=hl w (List.mem_of_getElem? hw)
 rw [Jz52_eq]
 refine bindS_mk (ia_slc _ (by kernel_rfl) (by omega) (by omega)) ?_
 refine bindV_mk (ld_mk fp (by kernel_rfl) (getV_row (w:=wrV w) (by rw [at_nat,List.getElem?_map,hw];rfl))) ?_
 refine bindE (al_at zWr (shWr (zer_len 64))) fun h1 u1=>?_
 have n1:=u1.next
 refine bindE (st_at (p:=[]) u1.at_ (by kernel_rfl) rfl (shWr hws) (v':=wrV w) rfl) fun h2 u2=>?_
 have n2:=u2.next
 have q2:Keeps [] h h2:=(Keeps.new u1).young u2 (Nat.le_refl _)
 have k2:DkA h2 p d:=k.keep q2 rfl rfl rfl rfl
 have hk2:=hk.keep q2 rfl
 have fp2:=q2.at fp hp rfl
 have q02:Keeps TDs h0 h2:=q.trans (q2.sub rfl)
 have step:∀ c,c=lastF keep all i→Jz53 Q m (dkP p) kv (.bool all) (.ptr (some ⟨h.next,.one 125,[]⟩)) (.slc (some (⟨np,.row 125,[]⟩,0)) l.length) x12 (.int .i64 i) (.bool c) h2:=by
   intro c hc
   rw [Jz53_eq]
   refine i_split (fun g=>?_) (fun g=>?_)
   · rw [g] at hc
     rw [← hc] at cont
     obtain ⟨a,b,pv,fv,kb⟩:=k2
     refine bindVO_mk rfl ?_
     refine bindSO_mk (fa_mk (by kernel_rfl)) ?_
     refine bindVO_mk (ld_mk kb.disk (by kernel_rfl) (w:=.map (some a)) rfl) ?_
     refine bindSO_mk (fa_mk (by kernel_rfl)) ?_
     refine bindVO_mk (ld_mk u2.at_ (by kernel_rfl) (w:=plV w.1.1 w.1.2) rfl) ?_
     refine bindSO_mk (fa_mk (by kernel_rfl)) ?_
     refine bindVO_mk (ld_mk u2.at_ (by kernel_rfl) (w:=.agg (bytesV w.2)) rfl) ?_
     refine bindE (mapSt kb.fsure w.1.1 w.1.2 hws) fun h3 u3=>?_
     have n3:=u3.next
     have q3:Keeps [(2,121,122)] h2 h3:=Keeps.upd u3 kb.fsure rfl rfl
     obtain ⟨o1,o2,o3,o4⟩:=kb.o
     refine Meet.of (cast_p (Jz54_eq _ _ _ _ _ _ _ _ _) ?_)
     refine bindS_mk (w_add (wrap_i64 (by omega) (by omega))) ?_
     exact Meet.of (cont h3 (q02.trans (q3.sub rfl)) (hk2.keep q3 rfl) (q3.at fp2 (by omega) rfl) (by omega) ⟨a,b,pv,fv,q3.at kb.disk o1 rfl,u3.at_,(u3.other _ o4.symm).trans kb.fseen,kb.fpend.keep q3 rfl,kb.ffails.keep q3 rfl,⟨by omega,by omega,by omega,o4⟩,kb.ok.n,smSet_ok kb.ok.sure hws,kb.ok.seen,kb.ok.pend,kb.ok.fuse⟩)
   · rw [g] at hc
     rw [← hc] at cont
     refine Meet.of (cast_p (Jz54_eq _ _ _ _ _ _ _ _ _) ?_)
     refine bindS_mk (w_add (wrap_i64 (by omega) (by omega))) ?_
     exact Meet.of (cont h2 q02 hk2 fp2 (by omega) k2)
 cases all with
 | true =>
   refine g_tf ?_
   refine Meet.of (cast_p (Gzy_eq _ _ _ _ _ _ _ _ _ _ _ _ _) ?_)
   refine g_hole ?_
   refine Meet.of (cast_p (Gzz_eq _ _ _ _ _ _ _ _ _ _ _ _ _) ?_)
   refine g_tf ?_
   refine Meet.of (cast_p (Gz10_eq _ _ _ _ _ _ _ _ _ _ _ _) ?_)
   refine bindV_mk p_t ?_
   exact Meet.of (step true rfl)
 | false =>
   refine g_ff ?_
   obtain ⟨ak,rfl⟩:=hk2.shape
   refine bindV_mk (len_slc (by kernel_rfl)) ?_
   refine bindS_mk b_lss ?_
   rw [bools_len]
   by_cases hlt:i < keep.length
   · rw [decide_eq_true (by omega)]
     refine Meet.of (cast_p (Gzy_eq _ _ _ _ _ _ _ _ _ _ _ _ _) ?_)
     refine g_tt ?_
     rcases hk2 with ⟨e,hz⟩ | ⟨nk,hn,e,fk⟩
     · rw [← bools_len,hz] at hlt;simp at hlt
     · rw [bools_len] at e
       rw [e]
       refine bindS_mk (ia_slc _ (by kernel_rfl) (by omega) (by omega)) ?_
       refine bindV_mk (ld_mk fk (by kernel_rfl) (get_bools hlt)) ?_
       rw [← e]
       refine Meet.of (cast_p (Gzz_eq _ _ _ _ _ _ _ _ _ _ _ _ _) ?_)
       refine g_ff ?_
       refine bindV_mk p_t ?_
       refine Meet.of (cast_p (Gz10_eq _ _ _ _ _ _ _ _ _ _ _ _) ?_)
       refine bindV_mk p_f ?_
       rw [← bools_len] at *
       exact Meet.of (step _ rfl)
   · rw [decide_eq_false (by omega)]
     refine Meet.of (cast_p (Gzy_eq _ _ _ _ _ _ _ _ _ _ _ _ _) ?_)
     refine g_ft ?_
     refine Meet.of (cast_p (Gzz_eq _ _ _ _ _ _ _ _ _ _ _ _ _) ?_)
     refine g_ff ?_
     refine bindV_mk p_f ?_
     refine Meet.of (cast_p (Gz10_eq _ _ _ _ _ _ _ _ _ _ _ _) ?_)
     refine bindV_mk p_f ?_
     have e0:lastF keep false i=false:=by unfold lastF;rw [List.getD_eq_getElem?_getD,List.getElem?_eq_none (by omega)];rfl
     rw [bools_len] at *
     exact Meet.of (step _ e0.symm)
theorem sloop {Q:AEnd→AH→Prop} {h0:AH} {d:Dk} {np:Nat} {l S:Sm} (hl:SmOk l) (h31:l.length≤1000000000):∀ (j i m:Nat) (h:AH) (s:Sm),i + j=l.length→j < m→DkA h p { d with sure:=s }→setl (lastF keep all) i s (l.drop i)=S→Keeps TDs h0 h→RwB 4 h kv (bools keep)→h.m np=some (.cells true (.row 125) (.agg (l.map wrV)))→np < h.next →
   (∀ h',Keeps TDs h0 h'→DkA h' p { d with sure:=S }→Jz55 Q (dkP p) h')→Lz7i Q m (dkP p) kv (.bool all) (.slc (some (⟨np,.row 125,[]⟩,0)) l.length) (.int .i64 l.length) (.int .i64 i) h
 | j,i,0,h,s,hij,hm,_,_,_,_,_,_,_=>by omega
 | 0,i,m + 1,h,s,hij,hm,k,hS,q,hk,fp,hp,cont=>by
   obtain rfl:i=l.length:=by omega
   rw [Lz7i_eq]
   refine bindS_mk b_lss ?_
   rw [decide_eq_false (by omega)]
   refine i_f ?_
   rw [List.drop_length,setl] at hS
   subst hS
   exact Meet.of (cont h q k)
 | j + 1,i,m + 1,h,s,hij,hm,k,hS,q,hk,fp,hp,cont=>by
   rw [Lz7i_eq]
   refine bindS_mk b_lss ?_
   rw [decide_eq_true (by omega)]
   refine i_t ?_
   refine Meet.of (round129 k q hk hl fp hp (by omega) h31 fun h' q' hk' fp' hp' k'=>?_)
   refine sloop hl h31 j (i + 1) m h' _ (by omega) (by omega) k' ?_ q' hk' fp' hp' cont
   rw [← hS,List.drop_eq_getElem_cons (show i < l.length by omega),setl]
   rw [List.getD_eq_getElem?_getD,List.getElem?_eq_getElem (show i < l.length by omega)];rfl
theorem dkSettle {h:AH} {d:Dk} (k:DkA h p d) (hk:RwB 4 h kv (bools keep)) (hp:d.pend.length≤1000000000):ACalls Pg 46 [dkP p,kv,.bool all] h (Gives TDs h (.tup []) fun h'=>DkA h' p (d.settle keep all)):=by
 obtain ⟨a,b,pv,fv,kb⟩:=id k
 have fin:∀ (h':AH) (S:Sm),S=setl (lastF keep all) 0 d.sure d.pend→Keeps TDs h h'→DkA h' p { d with sure:=S }→Jz55 (Gives TDs h (.tup []) fun h'=>DkA h' p (d.settle keep all)) (dkP p) h':=by
   intro h' S hS q k'
   obtain ⟨a,b,pv,fv,kb⟩:=k'
   rw [Jz55_eq]
   refine bindV_mk rfl ?_
   refine bindS_mk (fa_mk (by kernel_rfl)) ?_
   obtain ⟨ap,hap⟩:=kb.fpend.shape
   refine bindE (st_at kb.disk (by kernel_rfl) (w:=pv) rfl (by kernel_rfl) (v':=dkV (d.settle keep all) a b (.slc none 0) fv) rfl) fun h1 u1=>?_
   have n1:=u1.next
   have q1:Keeps TD1 h' h1:=Keeps.upd u1 kb.disk rfl rfl
   obtain ⟨o1,o2,o3,o4⟩:=kb.o
   subst hS
   exact ⟨rfl,q.trans (q1.sub rfl),a,b,_,fv,u1.at_,q1.at kb.fsure o2 rfl,q1.at kb.fseen o3 rfl,.inl ⟨rfl,rfl⟩,kb.ffails.keep q1 rfl,⟨by omega,by omega,by omega,o4⟩,kb.ok.n,kb.ok.sure,kb.ok.seen,(fun x hx=>by simp [Dk.settle] at hx),kb.ok.fuse⟩
 refine C46 _ _ _ _ _ ?_
 refine bindV_mk rfl ?_
 refine bindS_mk (fa_mk (by kernel_rfl)) ?_
 refine bindV_mk (ld_mk kb.disk (by kernel_rfl) (w:=pv) rfl) ?_
 rcases kb.fpend with ⟨rfl,hz⟩ | ⟨np,hn,rfl,fp⟩
 · have hz2:d.pend=[]:=List.map_eq_nil_iff.1 hz
   refine bindV_mk (len_slc (by kernel_rfl)) ?_
   refine ⟨1,Meet.of ?_⟩
   rw [Lz7i_eq]
   refine bindS_mk b_lss ?_
   rw [decide_eq_false (by decide)]
   refine i_f ?_
   exact Meet.of (fin h d.sure (by rw [hz2];rfl) (Keeps.refl _ _) k)
 · rw [List.length_map]
   refine bindV_mk (len_slc (by kernel_rfl)) ?_
   exact ⟨_,Meet.of (sloop (S:=setl (lastF keep all) 0 d.sure d.pend) kb.ok.pend hp d.pend.length 0 (d.pend.length + 1) h d.sure (by omega) (by omega) k rfl (Keeps.refl _ _) hk fp hn fun h' q k'=>fin h' _ rfl q k')⟩
def Dk.sync (d:Dk):Int × Dk:=if d.down then (4,d) else if d.op.1≠0 then d.op else (0,d.op.2.settle [] true)
theorem dkSync {h:AH} {d:Dk} (k:DkA h p d) (ho:d.ops < 1000000000000) (hp:d.pend.length≤1000000000):ACalls Pg 18 [dkP p] h (Gives TDs h (.int .i64 d.sync.1) fun h'=>DkA h' p d.sync.2):=by
 refine C18 _ _ _ ?_
 refine bindS_mk (show aBin Pg .eql 23 (.ptr (some _)) (.ptr none) true=some (.bool false) by kernel_rfl) ?_
 refine g_ff ?_
 refine bindV_mk rfl ?_
 refine bindS_mk (fa_mk (by kernel_rfl)) ?_
 obtain ⟨a,b',pv,fv,kb⟩:=id k
 refine bindV_mk (ld_mk kb.disk (by kernel_rfl) (w:=.bool d.down) rfl) ?_
 refine Meet.of (cast_p (Gz4_eq _ _ _ _ _) ?_)
 refine bindV_mk p_f ?_
 refine Meet.of (cast_p (Jz2t_eq _ _ _ _) ?_)
 refine i_split (fun c=>?_) (fun c=>?_)
 · replace c:d.down=true:=c
   have e:d.sync=(4,d):=by unfold Dk.sync;rw [if_pos c]
   rw [e]
   exact ⟨rfl,Keeps.refl _ _,k⟩
 · replace c:d.down=false:=c
   have c':¬ (d.down=true):=by rw [c];decide
   refine Meet.of (cast_p (Jz2u_eq _ _ _) ?_)
   refine callG (dkOp k ho) fun h2 q2 k2=>?_
   refine bindS_mk b_neq ?_
   refine i_split (fun e=>?_) (fun e=>?_)
   · replace e:=ne_of_bne e
     have e2:d.sync=d.op:=by unfold Dk.sync;rw [if_neg c',if_pos e]
     rw [e2]
     exact ⟨rfl,q2.sub rfl,k2⟩
   · replace e:=eq_of_bne_false e
     have e2:d.sync=(0,d.op.2.settle [] true):=by unfold Dk.sync;rw [if_neg c',if_neg (by omega)]
     rw [e2]
     refine Meet.of (cast_p (Jz2v_eq _ _ _) ?_)
     refine callG (dkSettle (keep:=[]) (all:=true) k2 (.inl ⟨rfl,rfl⟩) (by rw [d.op_pend];exact hp)) fun h3 q3 k3=>?_
     exact ⟨rfl,(q2.sub rfl).trans q3,k3⟩
end
end Go.Proofs.Ytdfgfbammkojoaa.Sh
