import Derived.Test.YtcglbpjpbjaecaaGreatB14
import Derived.Shelf.Strings.Search1
import Derived.Laws.RangeAny
import Derived.Test.YtcglbpjpbjaecaaGreatB06
set_option linter.unusedVariables false
set_option linter.unusedSimpArgs false
namespace Go.Proofs.YtcglbpjpbjaecaaGreat.Sh
open Go Go.Ab Go.RowKit
open Go.Proofs.YtcglbpjpbjaecaaGreat.Ru (Pg okP)
set_option maxRecDepth 100000
noncomputable def B112:Code:=(Tryz.f112.body).getD .skip
def R112:List ResultVar:=[.cell 2 73,.tmp 3]
abbrev N112:Nat:=174
def K112:KT:=(.seq .leaf (.seq .leaf (.seq .leaf (.join (.seq .leaf (.one (.loop (.seq .leaf (.join (.two .leaf .leaf) (.join (.one (.seq .leaf (.seq .leaf (.two .leaf .leaf) [0,2,4,5,6,7,28,29,30,37]) [0,2,4,5,6,7,8,28,29,30])) .leaf [0,2,4,5,6,28,29,30]) [0,2,4,5,6,28,29,30]) [0,2,4,5,6,28,29,30,31]) [0,2,4,5,6,28,29,30])) [0,2,4,5,6,28,29,30]) (.join (.seq .leaf (.one (.seq .leaf (.two (.seq .leaf (.seq .leaf (.seq .leaf (.seq .leaf (.seq .leaf (.seq .leaf (.one (.loop (.seq .leaf (.join (.two .leaf .leaf) (.join (.one (.seq .leaf (.join (.seq .leaf (.two .leaf .leaf) [0,2,4,6,9,12,13,72,73,74,82]) (.seq .leaf (.join (.seq .leaf (.two (.seq .leaf .leaf [0,2,4,5,6,9,13,72,73,74]) .leaf) [0,2,4,6,9,13,72,73,74,88]) (.join (.seq .leaf (.two (.seq .leaf (.seq .leaf .leaf [0,2,4,6,9,13,14,72,73,74]) [0,2,4,5,6,9,13,72,73,74]) .leaf) [0,2,4,6,9,13,72,73,74,102]) (.seq .leaf (.two (.seq .leaf (.seq .leaf (.seq .leaf .leaf [0,2,4,6,9,72,73,74]) [0,2,4,6,9,16,72,73,74]) [0,2,4,5,6,9,72,73,74]) .leaf) [0,2,4,6,9,72,73,74,118]) [0,2,4,6,9,13,72,73,74]) [0,2,4,6,9,13,72,73,74]) [0,2,4,6,9,13,72,73,74]) [0,2,4,6,9,12,13,72,73,74]) [0,2,4,6,9,12,13,72,73,74])) .leaf [0,2,4,6,9,72,73,74]) [0,2,4,6,9,72,73,74]) [0,2,4,6,9,72,73,74,75]) [0,2,4,6,9,72,73,74])) [0,2,4,6,9,72,73,74]) [0,2,4,6,9]) [0,2,4,6]) [0,2,4,6,10]) [0,2,4,5,6]) [0,2,4,6]) (.seq .leaf (.two (.seq .leaf (.one (.loop (.join (.join (.reg [[0,2,4,6,18,147,149]]) (.two .leaf .leaf) [0,2,4,6,18,150]) (.join (.one (.eff [6,7,9])) .leaf [0,2,4,6,18]) [0,2,4,6,18]) [0,2,4,6,18])) [0,2,4,6,18]) (.seq .leaf .leaf [0,2,4,19])) [0,2,4,6,141])) [0,2,4,6,43,52])) [0,2,4,6,43]) (.seq .leaf (.join (.reg [[2,167,169,172]]) .leaf [2,3]) [0,2,4,21,22]) [0,2,4]) [0,2,4,6]) [0,2,4,5,6]) [0,2,4]) [0,2])
def Jz1c (Q:AEnd→AH→Prop) (n:Nat) (x0 x2 x4 x5 x6 x28 x29 x30:V) (h:AH):Prop:=vcAt Pg N112 B112 K112 [1,1,1,0,1,0,0,1,1,1] [n] (vcRet Pg R112 Q) [(0,x0),(2,x2),(4,x4),(5,x5),(6,x6),(28,x28),(29,x29),(30,x30)] h
def Jz1b (Q:AEnd→AH→Prop) (n:Nat) (x0 x2 x4 x5 x6 x28 x29 x30:V) (h:AH):Prop:=vcAt Pg N112 B112 K112 [1,1,1,0,1,0,0,1,1] [n] (vcRet Pg R112 Q) [(0,x0),(2,x2),(4,x4),(5,x5),(6,x6),(28,x28),(29,x29),(30,x30)] h
def Jz1i (Q:AEnd→AH→Prop) (n:Nat) (x0 x2 x4 x6 x9 x72 x73 x74:V) (h:AH):Prop:=vcAt Pg N112 B112 K112 [1,1,1,1,0,1,0,1,0,1,1,1,1,1,1,0,0,1,1,1] [n] (vcRet Pg R112 Q) [(0,x0),(2,x2),(4,x4),(6,x6),(9,x9),(72,x72),(73,x73),(74,x74)] h
def Jz1h (Q:AEnd→AH→Prop) (n:Nat) (x0 x2 x4 x6 x9 x13 x72 x73 x74:V) (h:AH):Prop:=vcAt Pg N112 B112 K112 [1,1,1,1,0,1,0,1,0,1,1,1,1,1,1,0,0,1,1,0,0,1,1,1,1,1] [n] (vcRet Pg R112 Q) [(0,x0),(2,x2),(4,x4),(6,x6),(9,x9),(13,x13),(72,x72),(73,x73),(74,x74)] h
def Jz1g (Q:AEnd→AH→Prop) (n:Nat) (x0 x2 x4 x6 x9 x13 x72 x73 x74:V) (h:AH):Prop:=vcAt Pg N112 B112 K112 [1,1,1,1,0,1,0,1,0,1,1,1,1,1,1,0,0,1,1,0,0,1,1,1,1] [n] (vcRet Pg R112 Q) [(0,x0),(2,x2),(4,x4),(6,x6),(9,x9),(13,x13),(72,x72),(73,x73),(74,x74)] h
def Jz1f (Q:AEnd→AH→Prop) (n:Nat) (x0 x2 x4 x6 x9 x12 x13 x72 x73 x74:V) (h:AH):Prop:=vcAt Pg N112 B112 K112 [1,1,1,1,0,1,0,1,0,1,1,1,1,1,1,0,0,1,1,0,0,1,1] [n] (vcRet Pg R112 Q) [(0,x0),(2,x2),(4,x4),(6,x6),(9,x9),(12,x12),(13,x13),(72,x72),(73,x73),(74,x74)] h
def Jz1e (Q:AEnd→AH→Prop) (n:Nat) (x0 x2 x4 x6 x9 x72 x73 x74:V) (h:AH):Prop:=vcAt Pg N112 B112 K112 [1,1,1,1,0,1,0,1,0,1,1,1,1,1,1,0,0,1,1] [n] (vcRet Pg R112 Q) [(0,x0),(2,x2),(4,x4),(6,x6),(9,x9),(72,x72),(73,x73),(74,x74)] h
def Jz1n (Q:AEnd→AH→Prop) (x2 x3:V) (h:AH):Prop:=vcAt Pg N112 B112 K112 [1,1,1,1,1,1,1] [] (vcRet Pg R112 Q) [(2,x2),(3,x3)] h
def Gz1 (Q:AEnd→AH→Prop) (x2 x167 x169 x172:V) (h:AH):Prop:=segAt Pg N112 B112 K112 [1,1,1,1,1,1,0] 2 1 [] (vcRet Pg R112 Q) [(2,x2),(167,x167),(169,x169),(172,x172)] h
def Jz1m (Q:AEnd→AH→Prop) (x0 x2 x4:V) (h:AH):Prop:=vcAt Pg N112 B112 K112 [1,1,1,1,1] [] (vcRet Pg R112 Q) [(0,x0),(2,x2),(4,x4)] h
def Lz3r (Q:AEnd→AH→Prop) (n:Nat) (x0 x2 x4 x6 x9 x72 x73 x74:V) (h:AH):Prop:=loopAt Pg N112 B112 K112 [1,1,1,1,0,1,0,1,0,1,1,1,1,1,1,0] [] n (vcRet Pg R112 Q) [(0,x0),(2,x2),(4,x4),(6,x6),(9,x9),(72,x72),(73,x73),(74,x74)] h
def Jz1l (Q:AEnd→AH→Prop) (n:Nat) (x0 x2 x4 x6 x18:V) (h:AH):Prop:=vcAt Pg N112 B112 K112 [1,1,1,1,0,1,0,1,1,1,0,1,0,0,1,1] [n] (vcRet Pg R112 Q) [(0,x0),(2,x2),(4,x4),(6,x6),(18,x18)] h
def Jz1k (Q:AEnd→AH→Prop) (n:Nat) (x0 x2 x4 x6 x18:V) (h:AH):Prop:=vcAt Pg N112 B112 K112 [1,1,1,1,0,1,0,1,1,1,0,1,0,0,1] [n] (vcRet Pg R112 Q) [(0,x0),(2,x2),(4,x4),(6,x6),(18,x18)] h
def Jz1j (Q:AEnd→AH→Prop) (n:Nat) (x0 x2 x4 x6 x18 x150:V) (h:AH):Prop:=vcAt Pg N112 B112 K112 [1,1,1,1,0,1,0,1,1,1,0,1,0,0,0,1] [n] (vcRet Pg R112 Q) [(0,x0),(2,x2),(4,x4),(6,x6),(18,x18),(150,x150)] h
def Gz0 (Q:AEnd→AH→Prop) (n:Nat) (x0 x2 x4 x6 x18 x147 x149:V) (h:AH):Prop:=segAt Pg N112 B112 K112 [1,1,1,1,0,1,0,1,1,1,0,1,0,0,0,0] 2 1 [n] (vcRet Pg R112 Q) [(0,x0),(2,x2),(4,x4),(6,x6),(18,x18),(147,x147),(149,x149)] h
def Lz3s (Q:AEnd→AH→Prop) (n:Nat) (x0 x2 x4 x6 x18:V) (h:AH):Prop:=loopAt Pg N112 B112 K112 [1,1,1,1,0,1,0,1,1,1,0,1,0] [] n (vcRet Pg R112 Q) [(0,x0),(2,x2),(4,x4),(6,x6),(18,x18)] h
def Jz1d (Q:AEnd→AH→Prop) (x0 x2 x4 x6:V) (h:AH):Prop:=vcAt Pg N112 B112 K112 [1,1,1,1] [] (vcRet Pg R112 Q) [(0,x0),(2,x2),(4,x4),(6,x6)] h
def Lz3q (Q:AEnd→AH→Prop) (n:Nat) (x0 x2 x4 x5 x6 x28 x29 x30:V) (h:AH):Prop:=loopAt Pg N112 B112 K112 [1,1,1,0,1,0] [] n (vcRet Pg R112 Q) [(0,x0),(2,x2),(4,x4),(5,x5),(6,x6),(28,x28),(29,x29),(30,x30)] h
theorem Jz1c_eq (Q:AEnd→AH→Prop) (n:Nat) (x0 x2 x4 x5 x6 x28 x29 x30:V) (h:AH):Jz1c Q n x0 x2 x4 x5 x6 x28 x29 x30 h=(
 bindV (still (aBin Pg .add 3 x30 (V.int .i64 1) true) h) fun v29 h30 =>
 Meet (Lz3q Q n x0 x2 x4 x5 x6 x28 x29 v29 h30)):=by kernel_rfl
theorem Jz1b_eq (Q:AEnd→AH→Prop) (n:Nat) (x0 x2 x4 x5 x6 x28 x29 x30:V) (h:AH):Jz1b Q n x0 x2 x4 x5 x6 x28 x29 x30 h=(
 bindV (still (aIndexAddr Pg 337 x28 x30) h) fun v17 h18 =>
 bindV (aLoadV Pg h18 9 v17) fun v19 h20 =>
 bindV (still (aBin Pg .eql 9 v19 x5 false) h20) fun v21 h22 =>
 vcIf v21 (
 bindV (still (aConv Pg h22 3 5 x30) h22) fun v23 h24 =>
 bindV (still (aFieldAddr Pg 73 x4 0) h24) fun v25 h26 =>
 bindV (aStoreV Pg h26 5 v25 v23) fun _ h28 =>
 Meet (Jz1c Q n x0 x2 x4 x5 x6 x28 x29 x30 h28)) (
 Meet (Jz1c Q n x0 x2 x4 x5 x6 x28 x29 x30 h22))):=by kernel_rfl
theorem Jz1i_eq (Q:AEnd→AH→Prop) (n:Nat) (x0 x2 x4 x6 x9 x72 x73 x74:V) (h:AH):Jz1i Q n x0 x2 x4 x6 x9 x72 x73 x74 h=(
 bindV (still (aBin Pg .add 3 x74 (V.int .i64 1) true) h) fun v81 h82 =>
 Meet (Lz3r Q n x0 x2 x4 x6 x9 x72 x73 v81 h82)):=by kernel_rfl
theorem Jz1h_eq (Q:AEnd→AH→Prop) (n:Nat) (x0 x2 x4 x6 x9 x13 x72 x73 x74:V) (h:AH):Jz1h Q n x0 x2 x4 x6 x9 x13 x72 x73 x74 h=(
 bindV (still (aFieldAddr Pg 225 x13 3) h) fun v137 h138 =>
 bindV (aLoadV Pg h138 4 v137) fun v139 h140 =>
 vcIf v139 (
 ACalls Pg 191 [x6] h140 (aEnd (fun v141 h142 =>
 bindV (still (aExtract v141 0) h142) fun v143 h144 =>
 bindV (still (aExtract v141 1) h144) fun v145 h146 =>
 ACalls Pg 193 [v143] h146 (aEnd (fun v147 h148 =>
 bindV (still (aExtract v147 0) h148) fun v149 h150 =>
 bindV (still (aExtract v147 1) h150) fun v151 h152 =>
 bindV (still (aConv Pg h152 49 3 v149) h152) fun v153 h154 =>
 bindV (still (aFieldAddr Pg 73 x4 3) h154) fun v155 h156 =>
 bindV (still (aFieldAddr Pg 57 v155 3) h156) fun v157 h158 =>
 bindV (aStoreV Pg h158 3 v157 v153) fun _ h160 =>
 ACalls Pg 194 [v145] h160 (aEnd (fun v161 h162 =>
 bindV (still (aExtract v161 0) h162) fun v163 h164 =>
 bindV (still (aExtract v161 1) h164) fun v165 h166 =>
 bindV (still (aFieldAddr Pg 73 x4 3) h166) fun v167 h168 =>
 bindV (still (aFieldAddr Pg 57 v167 4) h168) fun v169 h170 =>
 bindV (aStoreV Pg h170 9 v169 v163) fun _ h172 =>
 Meet (Jz1i Q n x0 x2 x4 v145 x9 x72 x73 x74 h172)) fun v h=>Q (.panic v) h)) fun v h=>Q (.panic v) h)) fun v h=>Q (.panic v) h)) (
 Meet (Jz1i Q n x0 x2 x4 x6 x9 x72 x73 x74 h140))):=by kernel_rfl
theorem Jz1g_eq (Q:AEnd→AH→Prop) (n:Nat) (x0 x2 x4 x6 x9 x13 x72 x73 x74:V) (h:AH):Jz1g Q n x0 x2 x4 x6 x9 x13 x72 x73 x74 h=(
 bindV (still (aFieldAddr Pg 225 x13 2) h) fun v113 h114 =>
 bindV (aLoadV Pg h114 4 v113) fun v115 h116 =>
 vcIf v115 (
 ACalls Pg 191 [x6] h116 (aEnd (fun v117 h118 =>
 bindV (still (aExtract v117 0) h118) fun v119 h120 =>
 bindV (still (aExtract v117 1) h120) fun v121 h122 =>
 ACalls Pg 193 [v119] h122 (aEnd (fun v123 h124 =>
 bindV (still (aExtract v123 0) h124) fun v125 h126 =>
 bindV (still (aExtract v123 1) h126) fun v127 h128 =>
 bindV (still (aConv Pg h128 49 22 v125) h128) fun v129 h130 =>
 bindV (still (aFieldAddr Pg 73 x4 3) h130) fun v131 h132 =>
 bindV (still (aFieldAddr Pg 57 v131 2) h132) fun v133 h134 =>
 bindV (aStoreV Pg h134 22 v133 v129) fun _ h136 =>
 Meet (Jz1h Q n x0 x2 x4 v121 x9 x13 x72 x73 x74 h136)) fun v h=>Q (.panic v) h)) fun v h=>Q (.panic v) h)) (
 Meet (Jz1h Q n x0 x2 x4 x6 x9 x13 x72 x73 x74 h116))):=by kernel_rfl
theorem Jz1f_eq (Q:AEnd→AH→Prop) (n:Nat) (x0 x2 x4 x6 x9 x12 x13 x72 x73 x74:V) (h:AH):Jz1f Q n x0 x2 x4 x6 x9 x12 x13 x72 x73 x74 h=(
 bindV (still (aConv Pg h 3 5 x12) h) fun v83 h84 =>
 bindV (still (aFieldAddr Pg 73 x4 3) h84) fun v85 h86 =>
 bindV (still (aFieldAddr Pg 57 v85 0) h86) fun v87 h88 =>
 bindV (aStoreV Pg h88 5 v87 v83) fun _ h90 =>
 bindV (still (aFieldAddr Pg 225 x13 1) h90) fun v91 h92 =>
 bindV (aLoadV Pg h92 4 v91) fun v93 h94 =>
 vcIf v93 (
 ACalls Pg 191 [x6] h94 (aEnd (fun v95 h96 =>
 bindV (still (aExtract v95 0) h96) fun v97 h98 =>
 bindV (still (aExtract v95 1) h98) fun v99 h100 =>
 ACalls Pg 193 [v97] h100 (aEnd (fun v101 h102 =>
 bindV (still (aExtract v101 0) h102) fun v103 h104 =>
 bindV (still (aExtract v101 1) h104) fun v105 h106 =>
 bindV (still (aFieldAddr Pg 73 x4 3) h106) fun v107 h108 =>
 bindV (still (aFieldAddr Pg 57 v107 1) h108) fun v109 h110 =>
 bindV (aStoreV Pg h110 49 v109 v103) fun _ h112 =>
 Meet (Jz1g Q n x0 x2 x4 v99 x9 x13 x72 x73 x74 h112)) fun v h=>Q (.panic v) h)) fun v h=>Q (.panic v) h)) (
 Meet (Jz1g Q n x0 x2 x4 x6 x9 x13 x72 x73 x74 h94))):=by kernel_rfl
theorem Jz1e_eq (Q:AEnd→AH→Prop) (n:Nat) (x0 x2 x4 x6 x9 x72 x73 x74:V) (h:AH):Jz1e Q n x0 x2 x4 x6 x9 x72 x73 x74 h=(
 bindV (still (aIndexAddr Pg 222 x72 x74) h) fun v67 h68 =>
 bindV (aLoadV Pg h68 225 v67) fun v69 h70 =>
 bindV (aAlloc Pg h70 225) fun v71 h72 =>
 bindV (aStoreV Pg h72 225 v71 v69) fun _ h74 =>
 bindV (still (aFieldAddr Pg 225 v71 0) h74) fun v75 h76 =>
 bindV (aLoadV Pg h76 9 v75) fun v77 h78 =>
 bindV (still (aBin Pg .neq 9 v77 x9 false) h78) fun v79 h80 =>
 vcIf v79 (
 Meet (Jz1i Q n x0 x2 x4 x6 x9 x72 x73 x74 h80)) (
 Meet (Jz1f Q n x0 x2 x4 x6 x9 x74 v71 x72 x73 x74 h80))):=by kernel_rfl
theorem Jz1n_eq (Q:AEnd→AH→Prop) (x2 x3:V) (h:AH):Jz1n Q x2 x3 h=(
 bindR (aRes Pg [(2,x2),(3,x3)] h R112) fun v=>Q (.ret v) h):=by kernel_rfl
theorem Gz1_eq (Q:AEnd→AH→Prop) (x2 x167 x169 x172:V) (h:AH):Gz1 Q x2 x167 x169 x172 h=(
 bindV (aPick x169 x172 (V.bool false) h) fun v183 h184 =>
 bindV (aStoreV Pg h184 73 x2 x167) fun _ h186 =>
 Meet (Jz1n Q x2 v183 h186)):=by kernel_rfl
theorem Jz1m_eq (Q:AEnd→AH→Prop) (x0 x2 x4:V) (h:AH):Jz1m Q x0 x2 x4 h=(
 bindV (aLoadV Pg h 73 x4) fun v173 h174 =>
 ACalls Pg 122 [v173] h174 (aEnd (fun v175 h176 =>
 bindV (still (aExtract v175 0) h176) fun v177 h178 =>
 bindV (still (aExtract v175 1) h178) fun v179 h180 =>
 bindV (aLoadV Pg h180 73 x4) fun v181 h182 =>
 vcG v179 true (
 bindV (still (aBin Pg .eql 9 v177 x0 false) h182) fun v187 h188 =>
 Meet (Gz1 Q x2 v181 v179 v187 h188)) (Meet (Gz1 Q x2 v181 v179 hole h182))) fun v h=>Q (.panic v) h)):=by kernel_rfl
theorem Lz3r_eq (Q:AEnd→AH→Prop) (n:Nat) (x0 x2 x4 x6 x9 x72 x73 x74:V) (h:AH):Lz3r Q (n + 1) x0 x2 x4 x6 x9 x72 x73 x74 h=(
 bindV (still (aBin Pg .lss 3 x74 x73 false) h) fun v65 h66 =>
 vcIf v65 (
 Meet (Jz1e Q n x0 x2 x4 x6 x9 x72 x73 x74 h66)) (
 Meet (Jz1m Q x0 x2 x4 h66))):=by kernel_rfl
theorem Jz1l_eq (Q:AEnd→AH→Prop) (n:Nat) (x0 x2 x4 x6 x18:V) (h:AH):Jz1l Q n x0 x2 x4 x6 x18 h=(
 bindV (still (aBin Pg .add 3 x18 (V.int .i64 1) true) h) fun v208 h209 =>
 Meet (Lz3s Q n x0 x2 x4 x6 v208 h209)):=by kernel_rfl
theorem Jz1k_eq (Q:AEnd→AH→Prop) (n:Nat) (x0 x2 x4 x6 x18:V) (h:AH):Jz1k Q n x0 x2 x4 x6 x18 h=(
 bindO (fstV (still (aFieldAddr Pg 73 x4 4) h)) fun v197 =>
 bindO (fstV (aLoadV Pg h 71 v197)) fun v198 =>
 (
 bindO (fstV (still (aIndex Pg 9 x6 x18) h)) fun v199 =>
 bindO (fstV (still (aBin Pg .eql 5 v199 (V.int .u8 49) true) h)) fun v200 =>
 bindV (aBuildSlice Pg h 71 1 [(0,v200)]) fun v201 h202=>(aLoadV Pg h202 71 v197=some (v198,h202))∧(
 bindV (aBuiltin Pg h202 .append [71,71] [v198,v201]) fun v203 h204=>(
 bindO (fstV (still (aFieldAddr Pg 73 x4 4) h204)) fun v205 =>
 bindV (aStoreV Pg h204 71 v205 v203) fun _ h207=>(
 Meet (Jz1l Q n x0 x2 x4 x6 x18 h207)))))):=by kernel_rfl
theorem Jz1j_eq (Q:AEnd→AH→Prop) (n:Nat) (x0 x2 x4 x6 x18 x150:V) (h:AH):Jz1j Q n x0 x2 x4 x6 x18 x150 h=(
 vcIf x150 (
 Meet (Jz1k Q n x0 x2 x4 x6 x18 h)) (
 Meet (Jz1m Q x0 x2 x4 h))):=by kernel_rfl
theorem Gz0_eq (Q:AEnd→AH→Prop) (n:Nat) (x0 x2 x4 x6 x18 x147 x149:V) (h:AH):Gz0 Q n x0 x2 x4 x6 x18 x147 x149 h=(
 bindV (aPick x147 x149 (V.bool false) h) fun v195 h196 =>
 Meet (Jz1j Q n x0 x2 x4 x6 x18 v195 h196)):=by kernel_rfl
theorem Lz3s_eq (Q:AEnd→AH→Prop) (n:Nat) (x0 x2 x4 x6 x18:V) (h:AH):Lz3s Q (n + 1) x0 x2 x4 x6 x18 h=(
 bindV (aBuiltin Pg h .len [9] [x6]) fun v191 h192 =>
 bindV (still (aBin Pg .lss 3 x18 v191 false) h192) fun v193 h194 =>
 vcG v193 true (
 bindV (still (aBin Pg .neq 9 x6 (V.str [45]) true) h194) fun v210 h211 =>
 Meet (Gz0 Q n x0 x2 x4 x6 x18 v193 v210 h211)) (Meet (Gz0 Q n x0 x2 x4 x6 x18 v193 hole h194))):=by kernel_rfl
theorem Jz1d_eq (Q:AEnd→AH→Prop) (x0 x2 x4 x6:V) (h:AH):Jz1d Q x0 x2 x4 x6 h=(
 bindV (still (aFieldAddr Pg 73 x4 0) h) fun v31 h32 =>
 bindV (aLoadV Pg h32 5 v31) fun v33 h34 =>
 bindV (still (aBin Pg .eql 5 v33 (V.int .u8 0) true) h34) fun v35 h36 =>
 vcIf v35 (
 ACalls Pg 191 [x6] h36 (aEnd (fun v37 h38 =>
 bindV (still (aExtract v37 0) h38) fun v39 h40 =>
 bindV (still (aExtract v37 1) h40) fun v41 h42 =>
 ACalls Pg 193 [v39] h42 (aEnd (fun v43 h44 =>
 bindV (still (aExtract v43 0) h44) fun v45 h46 =>
 bindV (still (aExtract v43 1) h46) fun v47 h48 =>
 bindV (still (aConv Pg h48 49 3 v45) h48) fun v49 h50 =>
 bindV (still (aFieldAddr Pg 73 x4 1) h50) fun v51 h52 =>
 bindV (aStoreV Pg h52 3 v51 v49) fun _ h54 =>
 ACalls Pg 191 [v41] h54 (aEnd (fun v55 h56 =>
 bindV (still (aExtract v55 0) h56) fun v57 h58 =>
 bindV (still (aExtract v55 1) h58) fun v59 h60 =>
 ACalls Pg 114 [] h60 (aEnd (fun v61 h62 =>
 bindV (aBuiltin Pg h62 .len [222] [v61]) fun v63 h64 =>
 ∃ n,Meet (Lz3r Q n x0 x2 x4 v59 v57 v61 v63 (V.int .i64 0) h64)) fun v h=>Q (.panic v) h)) fun v h=>Q (.panic v) h)) fun v h=>Q (.panic v) h)) fun v h=>Q (.panic v) h)) (
 bindV (still (aBin Pg .eql 5 v33 (V.int .u8 5) true) h36) fun v189 h190 =>
 vcIf v189 (
 ∃ n,Meet (Lz3s Q n x0 x2 x4 x6 (V.int .i64 0) h190)) (
 ACalls Pg 193 [x6] h190 (aEnd (fun v212 h213 =>
 bindV (still (aExtract v212 0) h213) fun v214 h215 =>
 bindV (still (aExtract v212 1) h215) fun v216 h217 =>
 bindV (still (aConv Pg h217 49 3 v214) h217) fun v218 h219 =>
 bindV (still (aFieldAddr Pg 73 x4 1) h219) fun v220 h221 =>
 bindV (aStoreV Pg h221 3 v220 v218) fun _ h223 =>
 Meet (Jz1m Q x0 x2 x4 h223)) fun v h=>Q (.panic v) h)))):=by kernel_rfl
theorem Lz3q_eq (Q:AEnd→AH→Prop) (n:Nat) (x0 x2 x4 x5 x6 x28 x29 x30:V) (h:AH):Lz3q Q (n + 1) x0 x2 x4 x5 x6 x28 x29 x30 h=(
 bindV (still (aBin Pg .lss 3 x30 x29 false) h) fun v15 h16 =>
 vcIf v15 (
 Meet (Jz1b Q n x0 x2 x4 x5 x6 x28 x29 x30 h16)) (
 Meet (Jz1d Q x0 x2 x4 x6 h16))):=by kernel_rfl
theorem S112 (Q:AEnd→AH→Prop) (a0:V) (h:AH):vc Pg N112 B112 K112 (vcRet Pg R112 Q) (initEnv 0 [a0]) h=(
 bindV (aAlloc Pg h 73) fun v1 h2 =>
 bindV (aAlloc Pg h2 73) fun v3 h4 =>
 ACalls Pg 191 [a0] h4 (aEnd (fun v5 h6 =>
 bindV (still (aExtract v5 0) h6) fun v7 h8 =>
 bindV (still (aExtract v5 1) h8) fun v9 h10 =>
 ACalls Pg 192 [] h10 (aEnd (fun v11 h12 =>
 bindV (aBuiltin Pg h12 .len [337] [v11]) fun v13 h14 =>
 ∃ n,Meet (Lz3q Q n a0 v1 v3 v7 v9 v11 v13 (V.int .i64 0) h14)) fun v h=>Q (.panic v) h)) fun v h=>Q (.panic v) h)):=by kernel_rfl
theorem C112 (Q:AEnd→AH→Prop) (a0:V) (h:AH) (c :
 bindV (aAlloc Pg h 73) fun v1 h2 =>
 bindV (aAlloc Pg h2 73) fun v3 h4 =>
 ACalls Pg 191 [a0] h4 (aEnd (fun v5 h6 =>
 bindV (still (aExtract v5 0) h6) fun v7 h8 =>
 bindV (still (aExtract v5 1) h8) fun v9 h10 =>
 ACalls Pg 192 [] h10 (aEnd (fun v11 h12 =>
 bindV (aBuiltin Pg h12 .len [337] [v11]) fun v13 h14 =>
 ∃ n,Meet (Lz3q Q n a0 v1 v3 v7 v9 v11 v13 (V.int .i64 0) h14)) fun v h=>Q (.panic v) h)) fun v h=>Q (.panic v) h)):ACalls Pg 112 [a0] h Q :=
 acalls_of_vc okP Tryz.func112 (show Tryz.f112.body=some B112 from by kernel_rfl) K112 (by rw [← S112 Q a0 h] at c;exact c)
noncomputable def B122:Code:=(Tryz.f122.body).getD .skip
def R122:List ResultVar:=[.tmp 2,.tmp 3]
abbrev N122:Nat:=217
def K122:KT:=(.seq .leaf (.seq .leaf (.join (.join (.reg [[1,4,18,21],[1,4,23,26],[1,4,28,31]]) (.two (.seq .leaf .leaf [2,3]) .leaf) [1,4,32]) (.seq .leaf (.seq .leaf (.join (.join (.reg [[1,5,6,43,46],[1,5,6,48,52],[1,5,6,48,52,56],[1,5,6,48,57]]) (.two (.seq .leaf .leaf [2,3]) .leaf) [1,5,6,58]) (.join (.seq .leaf (.one (.seq .leaf (.two (.seq .leaf (.join (.join (.reg [[1,5,6,7,74,80]]) (.two (.seq .leaf .leaf [2,3]) .leaf) [1,5,6,7,81]) (.seq .leaf (.join (.join (.reg [[1,5,6,8,90,93],[1,5,6,8,95,98],[1,5,6,8,100,104],[1,5,6,8,106,110],[1,5,6,8,106,110,113],[1,5,6,8,106,114],[1,5,6,8,116,120],[1,5,6,8,116,120,123],[1,5,6,8,116,124],[1,5,6,8,126,130],[1,5,6,8,126,130,133],[1,5,6,8,126,134],[1,5,6,8,136,140],[1,5,6,8,136,140,143],[1,5,6,8,136,144]]) (.two (.seq .leaf .leaf [2,3]) .leaf) [1,5,6,8,145]) (.seq (.eff [7]) (.join (.seq .leaf (.two .leaf .leaf) [5,6,8,156]) (.join (.seq .leaf (.two .leaf .leaf) [5,6,8,164]) (.seq .leaf (.two (.eff [8]) .leaf) [5,6,173]) [5,6,8]) [5,6,8]) [5,6,8]) [1,5,6,8]) [1,5,6,8]) [1,5,6,7]) [1,5,6,7]) (.seq .leaf (.two (.join (.join (.reg [[1,5,189,193]]) (.two (.seq .leaf .leaf [2,3]) .leaf) [1,5,194]) (.seq .leaf (.join (.seq .leaf (.one (.loop (.seq .leaf (.join (.two .leaf .leaf) (.join (.one (.seq .leaf (.seq .leaf (.two .leaf .leaf) [1,5,198,199,200,204]) [1,5,10,198,199,200])) .leaf [1,5,198,199,200]) [1,5,198,199,200]) [1,5,198,199,200,201]) [1,5,198,199,200])) [1,5,198,199,200]) (.seq .leaf (.two .leaf .leaf) [5,213]) [1,5]) [1,5]) [1,5]) .leaf) [1,5,184])) [1,5,6,60,68])) [1,5,6,60]) (.seq .leaf .leaf [2,3]) [5]) [1,5,6]) [1,5,6]) [1,5]) [1,4]) [1,4]) [1])
def Jz2e (Q:AEnd→AH→Prop) (x5:V) (h:AH):Prop:=vcAt Pg N122 B122 K122 [1,1,1,1,1,1,1] [] (vcRet Pg R122 Q) [(5,x5)] h
def Jz28 (Q:AEnd→AH→Prop) (x5 x6 x8:V) (h:AH):Prop:=vcAt Pg N122 B122 K122 [1,1,1,1,1,1,0,1,0,1,0,1,1,1,1,1,1,1] [] (vcRet Pg R122 Q) [(5,x5),(6,x6),(8,x8)] h
def Jz27 (Q:AEnd→AH→Prop) (x5 x6 x8:V) (h:AH):Prop:=vcAt Pg N122 B122 K122 [1,1,1,1,1,1,0,1,0,1,0,1,1,1,1,1,1] [] (vcRet Pg R122 Q) [(5,x5),(6,x6),(8,x8)] h
def Jz26 (Q:AEnd→AH→Prop) (x1 x5 x6 x8:V) (h:AH):Prop:=vcAt Pg N122 B122 K122 [1,1,1,1,1,1,0,1,0,1,0,1,1,1,1] [] (vcRet Pg R122 Q) [(1,x1),(5,x5),(6,x6),(8,x8)] h
def Jz25 (Q:AEnd→AH→Prop) (x1 x5 x6 x8 x145:V) (h:AH):Prop:=vcAt Pg N122 B122 K122 [1,1,1,1,1,1,0,1,0,1,0,1,1,1,0,1] [] (vcRet Pg R122 Q) [(1,x1),(5,x5),(6,x6),(8,x8),(145,x145)] h
def Gzt (Q:AEnd→AH→Prop) (x1 x5 x6 x8 x136 x144:V) (h:AH):Prop:=segAt Pg N122 B122 K122 [1,1,1,1,1,1,0,1,0,1,0,1,1,1,0,0] 22 15 [] (vcRet Pg R122 Q) [(1,x1),(5,x5),(6,x6),(8,x8),(136,x136),(144,x144)] h
def Gzs (Q:AEnd→AH→Prop) (x1 x5 x6 x8 x136 x140 x143:V) (h:AH):Prop:=segAt Pg N122 B122 K122 [1,1,1,1,1,1,0,1,0,1,0,1,1,1,0,0] 21 14 [] (vcRet Pg R122 Q) [(1,x1),(5,x5),(6,x6),(8,x8),(136,x136),(140,x140),(143,x143)] h
def Gzr (Q:AEnd→AH→Prop) (x1 x5 x6 x8 x136 x140:V) (h:AH):Prop:=segAt Pg N122 B122 K122 [1,1,1,1,1,1,0,1,0,1,0,1,1,1,0,0] 20 13 [] (vcRet Pg R122 Q) [(1,x1),(5,x5),(6,x6),(8,x8),(136,x136),(140,x140)] h
def Gzq (Q:AEnd→AH→Prop) (x1 x5 x6 x8 x126 x134:V) (h:AH):Prop:=segAt Pg N122 B122 K122 [1,1,1,1,1,1,0,1,0,1,0,1,1,1,0,0] 18 12 [] (vcRet Pg R122 Q) [(1,x1),(5,x5),(6,x6),(8,x8),(126,x126),(134,x134)] h
def Gzp (Q:AEnd→AH→Prop) (x1 x5 x6 x8 x126 x130 x133:V) (h:AH):Prop:=segAt Pg N122 B122 K122 [1,1,1,1,1,1,0,1,0,1,0,1,1,1,0,0] 17 11 [] (vcRet Pg R122 Q) [(1,x1),(5,x5),(6,x6),(8,x8),(126,x126),(130,x130),(133,x133)] h
def Gzo (Q:AEnd→AH→Prop) (x1 x5 x6 x8 x126 x130:V) (h:AH):Prop:=segAt Pg N122 B122 K122 [1,1,1,1,1,1,0,1,0,1,0,1,1,1,0,0] 16 10 [] (vcRet Pg R122 Q) [(1,x1),(5,x5),(6,x6),(8,x8),(126,x126),(130,x130)] h
def Gzn (Q:AEnd→AH→Prop) (x1 x5 x6 x8 x116 x124:V) (h:AH):Prop:=segAt Pg N122 B122 K122 [1,1,1,1,1,1,0,1,0,1,0,1,1,1,0,0] 14 9 [] (vcRet Pg R122 Q) [(1,x1),(5,x5),(6,x6),(8,x8),(116,x116),(124,x124)] h
def Gzm (Q:AEnd→AH→Prop) (x1 x5 x6 x8 x116 x120 x123:V) (h:AH):Prop:=segAt Pg N122 B122 K122 [1,1,1,1,1,1,0,1,0,1,0,1,1,1,0,0] 13 8 [] (vcRet Pg R122 Q) [(1,x1),(5,x5),(6,x6),(8,x8),(116,x116),(120,x120),(123,x123)] h
def Gzl (Q:AEnd→AH→Prop) (x1 x5 x6 x8 x116 x120:V) (h:AH):Prop:=segAt Pg N122 B122 K122 [1,1,1,1,1,1,0,1,0,1,0,1,1,1,0,0] 12 7 [] (vcRet Pg R122 Q) [(1,x1),(5,x5),(6,x6),(8,x8),(116,x116),(120,x120)] h
def Gzk (Q:AEnd→AH→Prop) (x1 x5 x6 x8 x106 x114:V) (h:AH):Prop:=segAt Pg N122 B122 K122 [1,1,1,1,1,1,0,1,0,1,0,1,1,1,0,0] 10 6 [] (vcRet Pg R122 Q) [(1,x1),(5,x5),(6,x6),(8,x8),(106,x106),(114,x114)] h
def Gzj (Q:AEnd→AH→Prop) (x1 x5 x6 x8 x106 x110 x113:V) (h:AH):Prop:=segAt Pg N122 B122 K122 [1,1,1,1,1,1,0,1,0,1,0,1,1,1,0,0] 9 5 [] (vcRet Pg R122 Q) [(1,x1),(5,x5),(6,x6),(8,x8),(106,x106),(110,x110),(113,x113)] h
def Gzi (Q:AEnd→AH→Prop) (x1 x5 x6 x8 x106 x110:V) (h:AH):Prop:=segAt Pg N122 B122 K122 [1,1,1,1,1,1,0,1,0,1,0,1,1,1,0,0] 8 4 [] (vcRet Pg R122 Q) [(1,x1),(5,x5),(6,x6),(8,x8),(106,x106),(110,x110)] h
def Gzh (Q:AEnd→AH→Prop) (x1 x5 x6 x8 x100 x104:V) (h:AH):Prop:=segAt Pg N122 B122 K122 [1,1,1,1,1,1,0,1,0,1,0,1,1,1,0,0] 6 3 [] (vcRet Pg R122 Q) [(1,x1),(5,x5),(6,x6),(8,x8),(100,x100),(104,x104)] h
def Gzg (Q:AEnd→AH→Prop) (x1 x5 x6 x8 x95 x98:V) (h:AH):Prop:=segAt Pg N122 B122 K122 [1,1,1,1,1,1,0,1,0,1,0,1,1,1,0,0] 4 2 [] (vcRet Pg R122 Q) [(1,x1),(5,x5),(6,x6),(8,x8),(95,x95),(98,x98)] h
def Gzf (Q:AEnd→AH→Prop) (x1 x5 x6 x8 x90 x93:V) (h:AH):Prop:=segAt Pg N122 B122 K122 [1,1,1,1,1,1,0,1,0,1,0,1,1,1,0,0] 2 1 [] (vcRet Pg R122 Q) [(1,x1),(5,x5),(6,x6),(8,x8),(90,x90),(93,x93)] h
def Jz24 (Q:AEnd→AH→Prop) (x1 x5 x6 x7:V) (h:AH):Prop:=vcAt Pg N122 B122 K122 [1,1,1,1,1,1,0,1,0,1,0,1,1] [] (vcRet Pg R122 Q) [(1,x1),(5,x5),(6,x6),(7,x7)] h
def Jz23 (Q:AEnd→AH→Prop) (x1 x5 x6 x7 x81:V) (h:AH):Prop:=vcAt Pg N122 B122 K122 [1,1,1,1,1,1,0,1,0,1,0,1,0,1] [] (vcRet Pg R122 Q) [(1,x1),(5,x5),(6,x6),(7,x7),(81,x81)] h
def Gze (Q:AEnd→AH→Prop) (x1 x5 x6 x7 x74 x80:V) (h:AH):Prop:=segAt Pg N122 B122 K122 [1,1,1,1,1,1,0,1,0,1,0,1,0,0] 2 1 [] (vcRet Pg R122 Q) [(1,x1),(5,x5),(6,x6),(7,x7),(74,x74),(80,x80)] h
def Jz2c (Q:AEnd→AH→Prop) (n:Nat) (x1 x5 x198 x199 x200:V) (h:AH):Prop:=vcAt Pg N122 B122 K122 [1,1,1,1,1,1,0,1,0,1,1,1,0,1,1,0,1,0,0,1,1,1] [n] (vcRet Pg R122 Q) [(1,x1),(5,x5),(198,x198),(199,x199),(200,x200)] h
def Jz2b (Q:AEnd→AH→Prop) (n:Nat) (x1 x5 x198 x199 x200:V) (h:AH):Prop:=vcAt Pg N122 B122 K122 [1,1,1,1,1,1,0,1,0,1,1,1,0,1,1,0,1,0,0,1,1] [n] (vcRet Pg R122 Q) [(1,x1),(5,x5),(198,x198),(199,x199),(200,x200)] h
def Jz2d (Q:AEnd→AH→Prop) (x1 x5:V) (h:AH):Prop:=vcAt Pg N122 B122 K122 [1,1,1,1,1,1,0,1,0,1,1,1,0,1,1,1] [] (vcRet Pg R122 Q) [(1,x1),(5,x5)] h
def Lz3u (Q:AEnd→AH→Prop) (n:Nat) (x1 x5 x198 x199 x200:V) (h:AH):Prop:=loopAt Pg N122 B122 K122 [1,1,1,1,1,1,0,1,0,1,1,1,0,1,1,0,1,0] [] n (vcRet Pg R122 Q) [(1,x1),(5,x5),(198,x198),(199,x199),(200,x200)] h
def Jz2a (Q:AEnd→AH→Prop) (x1 x5:V) (h:AH):Prop:=vcAt Pg N122 B122 K122 [1,1,1,1,1,1,0,1,0,1,1,1,0,1] [] (vcRet Pg R122 Q) [(1,x1),(5,x5)] h
def Jz29 (Q:AEnd→AH→Prop) (x1 x5 x194:V) (h:AH):Prop:=vcAt Pg N122 B122 K122 [1,1,1,1,1,1,0,1,0,1,1,1,0,0,1] [] (vcRet Pg R122 Q) [(1,x1),(5,x5),(194,x194)] h
def Gzu (Q:AEnd→AH→Prop) (x1 x5 x189 x193:V) (h:AH):Prop:=segAt Pg N122 B122 K122 [1,1,1,1,1,1,0,1,0,1,1,1,0,0,0] 2 1 [] (vcRet Pg R122 Q) [(1,x1),(5,x5),(189,x189),(193,x193)] h
def Jz22 (Q:AEnd→AH→Prop) (x1 x5 x6:V) (h:AH):Prop:=vcAt Pg N122 B122 K122 [1,1,1,1,1,1] [] (vcRet Pg R122 Q) [(1,x1),(5,x5),(6,x6)] h
def Jz21 (Q:AEnd→AH→Prop) (x1 x5 x6 x58:V) (h:AH):Prop:=vcAt Pg N122 B122 K122 [1,1,1,1,1,0,1] [] (vcRet Pg R122 Q) [(1,x1),(5,x5),(6,x6),(58,x58)] h
def Gzd (Q:AEnd→AH→Prop) (x1 x5 x6 x48 x57:V) (h:AH):Prop:=segAt Pg N122 B122 K122 [1,1,1,1,1,0,0] 6 4 [] (vcRet Pg R122 Q) [(1,x1),(5,x5),(6,x6),(48,x48),(57,x57)] h
def Gzc (Q:AEnd→AH→Prop) (x1 x5 x6 x48 x52 x56:V) (h:AH):Prop:=segAt Pg N122 B122 K122 [1,1,1,1,1,0,0] 5 3 [] (vcRet Pg R122 Q) [(1,x1),(5,x5),(6,x6),(48,x48),(52,x52),(56,x56)] h
def Gzb (Q:AEnd→AH→Prop) (x1 x5 x6 x48 x52:V) (h:AH):Prop:=segAt Pg N122 B122 K122 [1,1,1,1,1,0,0] 4 2 [] (vcRet Pg R122 Q) [(1,x1),(5,x5),(6,x6),(48,x48),(52,x52)] h
def Gza (Q:AEnd→AH→Prop) (x1 x5 x6 x43 x46:V) (h:AH):Prop:=segAt Pg N122 B122 K122 [1,1,1,1,1,0,0] 2 1 [] (vcRet Pg R122 Q) [(1,x1),(5,x5),(6,x6),(43,x43),(46,x46)] h
def Jz20 (Q:AEnd→AH→Prop) (x1 x4:V) (h:AH):Prop:=vcAt Pg N122 B122 K122 [1,1,1] [] (vcRet Pg R122 Q) [(1,x1),(4,x4)] h
def Jz1z (Q:AEnd→AH→Prop) (x1 x4 x32:V) (h:AH):Prop:=vcAt Pg N122 B122 K122 [1,1,0,1] [] (vcRet Pg R122 Q) [(1,x1),(4,x4),(32,x32)] h
def Gz9 (Q:AEnd→AH→Prop) (x1 x4 x28 x31:V) (h:AH):Prop:=segAt Pg N122 B122 K122 [1,1,0,0] 6 3 [] (vcRet Pg R122 Q) [(1,x1),(4,x4),(28,x28),(31,x31)] h
def Gz8 (Q:AEnd→AH→Prop) (x1 x4 x23 x26:V) (h:AH):Prop:=segAt Pg N122 B122 K122 [1,1,0,0] 4 2 [] (vcRet Pg R122 Q) [(1,x1),(4,x4),(23,x23),(26,x26)] h
def Gz7 (Q:AEnd→AH→Prop) (x1 x4 x18 x21:V) (h:AH):Prop:=segAt Pg N122 B122 K122 [1,1,0,0] 2 1 [] (vcRet Pg R122 Q) [(1,x1),(4,x4),(18,x18),(21,x21)] h
theorem Jz2e_eq (Q:AEnd→AH→Prop) (x5:V) (h:AH):Jz2e Q x5 h=(
 Q (.ret (V.tup [x5,(V.bool true)])) h):=by kernel_rfl
theorem Jz28_eq (Q:AEnd→AH→Prop) (x5 x6 x8:V) (h:AH):Jz28 Q x5 x6 x8 h=(
 bindV (still (aFieldAddr Pg 225 x8 3) h) fun v134 h135 =>
 bindV (aLoadV Pg h135 4 v134) fun v136 h137 =>
 vcIf v136 (
 bindO (fstV (still (aFieldAddr Pg 57 x6 3) h137)) fun v138 =>
 bindO (fstV (aLoadV Pg h137 3 v138)) fun v139 =>
 (
 bindO (fstV (still (aConv Pg h137 3 49 v139) h137)) fun v140 =>
 (
 ∃ v141,ACalls Pg 117 [v140] h137 (pureE v141 h137)∧(
 (
 bindO (fstV (still (aFieldAddr Pg 57 x6 4) h137)) fun v142 =>
 bindO (fstV (aLoadV Pg h137 9 v142)) fun v143 =>
 (
 ∃ v144,ACalls Pg 118 [v143] h137 (pureE v144 h137)∧(
 (
 bindV (aBuildSlice Pg h137 337 3 [(0,x5),(1,v141),(2,v144)]) fun v145 h146=>(
 ∃ v147,ACalls Pg 115 [v145] h146 (pureE v147 h146)∧(
 (
 Meet (Jz2e Q v147 h146)))))))))))) (
 Meet (Jz2e Q x5 h137))):=by kernel_rfl
theorem Jz27_eq (Q:AEnd→AH→Prop) (x5 x6 x8:V) (h:AH):Jz27 Q x5 x6 x8 h=(
 bindV (still (aFieldAddr Pg 225 x8 2) h) fun v118 h119 =>
 bindV (aLoadV Pg h119 4 v118) fun v120 h121 =>
 vcIf v120 (
 bindV (still (aFieldAddr Pg 57 x6 2) h121) fun v122 h123 =>
 bindV (aLoadV Pg h123 22 v122) fun v124 h125 =>
 bindV (still (aConv Pg h125 22 49 v124) h125) fun v126 h127 =>
 ACalls Pg 117 [v126] h127 (aEnd (fun v128 h129 =>
 bindV (aBuildSlice Pg h129 337 2 [(0,x5),(1,v128)]) fun v130 h131 =>
 ACalls Pg 115 [v130] h131 (aEnd (fun v132 h133 =>
 Meet (Jz28 Q v132 x6 x8 h133)) fun v h=>Q (.panic v) h)) fun v h=>Q (.panic v) h)) (
 Meet (Jz28 Q x5 x6 x8 h121))):=by kernel_rfl
theorem Jz26_eq (Q:AEnd→AH→Prop) (x1 x5 x6 x8:V) (h:AH):Jz26 Q x1 x5 x6 x8 h=(
 bindO (fstV (still (aFieldAddr Pg 73 x1 1) h)) fun v95 =>
 bindO (fstV (aLoadV Pg h 3 v95)) fun v96 =>
 (
 bindO (fstV (still (aConv Pg h 3 49 v96) h)) fun v97 =>
 (
 ∃ v98,ACalls Pg 117 [v97] h (pureE v98 h)∧(
 (
 bindO (fstV (still (aFieldAddr Pg 225 x8 0) h)) fun v99 =>
 bindO (fstV (aLoadV Pg h 9 v99)) fun v100 =>
 (
 bindV (aBuildSlice Pg h 337 3 [(0,x5),(1,v98),(2,v100)]) fun v101 h102=>(
 ∃ v103,ACalls Pg 115 [v101] h102 (pureE v103 h102)∧(
 (
 bindV (still (aFieldAddr Pg 225 x8 1) h102) fun v104 h105 =>
 bindV (aLoadV Pg h105 4 v104) fun v106 h107 =>
 vcIf v106 (
 bindV (still (aFieldAddr Pg 57 x6 1) h107) fun v108 h109 =>
 bindV (aLoadV Pg h109 49 v108) fun v110 h111 =>
 ACalls Pg 117 [v110] h111 (aEnd (fun v112 h113 =>
 bindV (aBuildSlice Pg h113 337 2 [(0,v103),(1,v112)]) fun v114 h115 =>
 ACalls Pg 115 [v114] h115 (aEnd (fun v116 h117 =>
 Meet (Jz27 Q v116 x6 x8 h117)) fun v h=>Q (.panic v) h)) fun v h=>Q (.panic v) h)) (
 Meet (Jz27 Q v103 x6 x8 h107))))))))))):=by kernel_rfl
theorem Jz25_eq (Q:AEnd→AH→Prop) (x1 x5 x6 x8 x145:V) (h:AH):Jz25 Q x1 x5 x6 x8 x145 h=(
 vcIf x145 (
 Q (.ret (V.tup [(V.str []),(V.bool false)])) h) (
 Meet (Jz26 Q x1 x5 x6 x8 h))):=by kernel_rfl
theorem Gzt_eq (Q:AEnd→AH→Prop) (x1 x5 x6 x8 x136 x144:V) (h:AH):Gzt Q x1 x5 x6 x8 x136 x144 h=(
 bindV (aPick x136 (V.bool true) x144 h) fun v93 h94 =>
 Meet (Jz25 Q x1 x5 x6 x8 v93 h94)):=by kernel_rfl
theorem Gzs_eq (Q:AEnd→AH→Prop) (x1 x5 x6 x8 x136 x140 x143:V) (h:AH):Gzs Q x1 x5 x6 x8 x136 x140 x143 h=(
 vcG x136 false (
 bindV (aPick x140 x143 (V.bool false) h) fun v148 h149 =>
 Meet (Gzt Q x1 x5 x6 x8 x136 v148 h149)) (Meet (Gzt Q x1 x5 x6 x8 x136 hole h))):=by kernel_rfl
theorem Gzr_eq (Q:AEnd→AH→Prop) (x1 x5 x6 x8 x136 x140:V) (h:AH):Gzr Q x1 x5 x6 x8 x136 x140 h=(
 vcG x140 true (
 bindV (still (aFieldAddr Pg 57 x6 4) h) fun v150 h151 =>
 bindV (aLoadV Pg h151 9 v150) fun v152 h153 =>
 bindV (still (aBin Pg .neq 9 v152 (V.str []) true) h153) fun v154 h155 =>
 Meet (Gzs Q x1 x5 x6 x8 x136 x140 v154 h155)) (Meet (Gzs Q x1 x5 x6 x8 x136 x140 hole h))):=by kernel_rfl
theorem Gzq_eq (Q:AEnd→AH→Prop) (x1 x5 x6 x8 x126 x134:V) (h:AH):Gzq Q x1 x5 x6 x8 x126 x134 h=(
 bindV (aPick x126 (V.bool true) x134 h) fun v91 h92 =>
 vcG v91 false (
 bindV (still (aFieldAddr Pg 225 x8 4) h92) fun v156 h157 =>
 bindV (aLoadV Pg h157 4 v156) fun v158 h159 =>
 bindV (still (aUn .not v158) h159) fun v160 h161 =>
 Meet (Gzr Q x1 x5 x6 x8 v91 v160 h161)) (Meet (Gzr Q x1 x5 x6 x8 v91 hole h92))):=by kernel_rfl
theorem Gzp_eq (Q:AEnd→AH→Prop) (x1 x5 x6 x8 x126 x130 x133:V) (h:AH):Gzp Q x1 x5 x6 x8 x126 x130 x133 h=(
 vcG x126 false (
 bindV (aPick x130 x133 (V.bool false) h) fun v162 h163 =>
 Meet (Gzq Q x1 x5 x6 x8 x126 v162 h163)) (Meet (Gzq Q x1 x5 x6 x8 x126 hole h))):=by kernel_rfl
theorem Gzo_eq (Q:AEnd→AH→Prop) (x1 x5 x6 x8 x126 x130:V) (h:AH):Gzo Q x1 x5 x6 x8 x126 x130 h=(
 vcG x130 true (
 bindV (still (aFieldAddr Pg 57 x6 3) h) fun v164 h165 =>
 bindV (aLoadV Pg h165 3 v164) fun v166 h167 =>
 bindV (still (aBin Pg .gtr 3 v166 (V.int .i64 0) true) h167) fun v168 h169 =>
 Meet (Gzp Q x1 x5 x6 x8 x126 x130 v168 h169)) (Meet (Gzp Q x1 x5 x6 x8 x126 x130 hole h))):=by kernel_rfl
theorem Gzn_eq (Q:AEnd→AH→Prop) (x1 x5 x6 x8 x116 x124:V) (h:AH):Gzn Q x1 x5 x6 x8 x116 x124 h=(
 bindV (aPick x116 (V.bool true) x124 h) fun v89 h90 =>
 vcG v89 false (
 bindV (still (aFieldAddr Pg 225 x8 3) h90) fun v170 h171 =>
 bindV (aLoadV Pg h171 4 v170) fun v172 h173 =>
 bindV (still (aUn .not v172) h173) fun v174 h175 =>
 Meet (Gzo Q x1 x5 x6 x8 v89 v174 h175)) (Meet (Gzo Q x1 x5 x6 x8 v89 hole h90))):=by kernel_rfl
theorem Gzm_eq (Q:AEnd→AH→Prop) (x1 x5 x6 x8 x116 x120 x123:V) (h:AH):Gzm Q x1 x5 x6 x8 x116 x120 x123 h=(
 vcG x116 false (
 bindV (aPick x120 x123 (V.bool false) h) fun v176 h177 =>
 Meet (Gzn Q x1 x5 x6 x8 x116 v176 h177)) (Meet (Gzn Q x1 x5 x6 x8 x116 hole h))):=by kernel_rfl
theorem Gzl_eq (Q:AEnd→AH→Prop) (x1 x5 x6 x8 x116 x120:V) (h:AH):Gzl Q x1 x5 x6 x8 x116 x120 h=(
 vcG x120 true (
 bindV (still (aFieldAddr Pg 57 x6 2) h) fun v178 h179 =>
 bindV (aLoadV Pg h179 22 v178) fun v180 h181 =>
 bindV (still (aBin Pg .gtr 22 v180 (V.int .u16 0) true) h181) fun v182 h183 =>
 Meet (Gzm Q x1 x5 x6 x8 x116 x120 v182 h183)) (Meet (Gzm Q x1 x5 x6 x8 x116 x120 hole h))):=by kernel_rfl
theorem Gzk_eq (Q:AEnd→AH→Prop) (x1 x5 x6 x8 x106 x114:V) (h:AH):Gzk Q x1 x5 x6 x8 x106 x114 h=(
 bindV (aPick x106 (V.bool true) x114 h) fun v87 h88 =>
 vcG v87 false (
 bindV (still (aFieldAddr Pg 225 x8 2) h88) fun v184 h185 =>
 bindV (aLoadV Pg h185 4 v184) fun v186 h187 =>
 bindV (still (aUn .not v186) h187) fun v188 h189 =>
 Meet (Gzl Q x1 x5 x6 x8 v87 v188 h189)) (Meet (Gzl Q x1 x5 x6 x8 v87 hole h88))):=by kernel_rfl
theorem Gzj_eq (Q:AEnd→AH→Prop) (x1 x5 x6 x8 x106 x110 x113:V) (h:AH):Gzj Q x1 x5 x6 x8 x106 x110 x113 h=(
 vcG x106 false (
 bindV (aPick x110 x113 (V.bool false) h) fun v190 h191 =>
 Meet (Gzk Q x1 x5 x6 x8 x106 v190 h191)) (Meet (Gzk Q x1 x5 x6 x8 x106 hole h))):=by kernel_rfl
theorem Gzi_eq (Q:AEnd→AH→Prop) (x1 x5 x6 x8 x106 x110:V) (h:AH):Gzi Q x1 x5 x6 x8 x106 x110 h=(
 vcG x110 true (
 bindV (still (aFieldAddr Pg 57 x6 1) h) fun v192 h193 =>
 bindV (aLoadV Pg h193 49 v192) fun v194 h195 =>
 bindV (still (aBin Pg .gtr 49 v194 (V.int .u64 0) true) h195) fun v196 h197 =>
 Meet (Gzj Q x1 x5 x6 x8 x106 x110 v196 h197)) (Meet (Gzj Q x1 x5 x6 x8 x106 x110 hole h))):=by kernel_rfl
theorem Gzh_eq (Q:AEnd→AH→Prop) (x1 x5 x6 x8 x100 x104:V) (h:AH):Gzh Q x1 x5 x6 x8 x100 x104 h=(
 bindV (aPick x100 (V.bool true) x104 h) fun v85 h86 =>
 vcG v85 false (
 bindV (still (aFieldAddr Pg 225 x8 1) h86) fun v198 h199 =>
 bindV (aLoadV Pg h199 4 v198) fun v200 h201 =>
 bindV (still (aUn .not v200) h201) fun v202 h203 =>
 Meet (Gzi Q x1 x5 x6 x8 v85 v202 h203)) (Meet (Gzi Q x1 x5 x6 x8 v85 hole h86))):=by kernel_rfl
theorem Gzg_eq (Q:AEnd→AH→Prop) (x1 x5 x6 x8 x95 x98:V) (h:AH):Gzg Q x1 x5 x6 x8 x95 x98 h=(
 bindV (aPick x95 (V.bool true) x98 h) fun v83 h84 =>
 vcG v83 false (
 bindV (still (aFieldAddr Pg 57 x6 4) h84) fun v204 h205 =>
 bindV (aLoadV Pg h205 9 v204) fun v206 h207 =>
 bindV (aBuiltin Pg h207 .len [9] [v206]) fun v208 h209 =>
 bindV (still (aBin Pg .gtr 3 v208 (V.int .i64 64) true) h209) fun v210 h211 =>
 Meet (Gzh Q x1 x5 x6 x8 v83 v210 h211)) (Meet (Gzh Q x1 x5 x6 x8 v83 hole h84))):=by kernel_rfl
theorem Gzf_eq (Q:AEnd→AH→Prop) (x1 x5 x6 x8 x90 x93:V) (h:AH):Gzf Q x1 x5 x6 x8 x90 x93 h=(
 bindV (aPick x90 (V.bool true) x93 h) fun v81 h82 =>
 vcG v81 false (
 bindV (still (aFieldAddr Pg 57 x6 3) h82) fun v212 h213 =>
 bindV (aLoadV Pg h213 3 v212) fun v214 h215 =>
 bindV (still (aBin Pg .geq 3 v214 (V.int .i64 2147483648) true) h215) fun v216 h217 =>
 Meet (Gzg Q x1 x5 x6 x8 v81 v216 h217)) (Meet (Gzg Q x1 x5 x6 x8 v81 hole h82))):=by kernel_rfl
theorem Jz24_eq (Q:AEnd→AH→Prop) (x1 x5 x6 x7:V) (h:AH):Jz24 Q x1 x5 x6 x7 h=(
 bindV (still (aFieldAddr Pg 57 x6 0) h) fun v63 h64 =>
 bindV (aLoadV Pg h64 5 v63) fun v65 h66 =>
 bindV (still (aIndexAddr Pg 222 x7 v65) h66) fun v67 h68 =>
 bindV (aLoadV Pg h68 225 v67) fun v69 h70 =>
 bindV (aAlloc Pg h70 225) fun v71 h72 =>
 bindV (aStoreV Pg h72 225 v71 v69) fun _ h74 =>
 bindV (still (aFieldAddr Pg 57 x6 1) h74) fun v75 h76 =>
 bindV (aLoadV Pg h76 49 v75) fun v77 h78 =>
 bindV (still (aBin Pg .geq 49 v77 (V.int .u64 2147483648) true) h78) fun v79 h80 =>
 vcG v79 false (
 bindV (still (aFieldAddr Pg 57 x6 3) h80) fun v218 h219 =>
 bindV (aLoadV Pg h219 3 v218) fun v220 h221 =>
 bindV (still (aBin Pg .lss 3 v220 (V.int .i64 0) true) h221) fun v222 h223 =>
 Meet (Gzf Q x1 x5 x6 v71 v79 v222 h223)) (Meet (Gzf Q x1 x5 x6 v71 v79 hole h80))):=by kernel_rfl
theorem Jz23_eq (Q:AEnd→AH→Prop) (x1 x5 x6 x7 x81:V) (h:AH):Jz23 Q x1 x5 x6 x7 x81 h=(
 vcIf x81 (
 Q (.ret (V.tup [(V.str []),(V.bool false)])) h) (
 Meet (Jz24 Q x1 x5 x6 x7 h))):=by kernel_rfl
theorem Gze_eq (Q:AEnd→AH→Prop) (x1 x5 x6 x7 x74 x80:V) (h:AH):Gze Q x1 x5 x6 x7 x74 x80 h=(
 bindV (aPick x74 (V.bool true) x80 h) fun v61 h62 =>
 Meet (Jz23 Q x1 x5 x6 x7 v61 h62)):=by kernel_rfl
theorem Jz2c_eq (Q:AEnd→AH→Prop) (n:Nat) (x1 x5 x198 x199 x200:V) (h:AH):Jz2c Q n x1 x5 x198 x199 x200 h=(
 bindV (still (aBin Pg .add 3 x200 (V.int .i64 1) true) h) fun v260 h261 =>
 Meet (Lz3u Q n x1 x5 x198 x199 v260 h261)):=by kernel_rfl
theorem Jz2b_eq (Q:AEnd→AH→Prop) (n:Nat) (x1 x5 x198 x199 x200:V) (h:AH):Jz2b Q n x1 x5 x198 x199 x200 h=(
 bindV (still (aIndexAddr Pg 71 x198 x200) h) fun v254 h255 =>
 bindV (aLoadV Pg h255 4 v254) fun v256 h257 =>
 vcIf v256 (
 bindV (still (aBin Pg .add 9 x5 (V.str [49]) true) h257) fun v258 h259 =>
 Meet (Jz2c Q n x1 v258 x198 x199 x200 h259)) (
 bindV (still (aBin Pg .add 9 x5 (V.str [48]) true) h257) fun v262 h263 =>
 Meet (Jz2c Q n x1 v262 x198 x199 x200 h263))):=by kernel_rfl
theorem Jz2d_eq (Q:AEnd→AH→Prop) (x1 x5:V) (h:AH):Jz2d Q x1 x5 h=(
 bindV (still (aFieldAddr Pg 73 x1 4) h) fun v264 h265 =>
 bindV (aLoadV Pg h265 71 v264) fun v266 h267 =>
 bindV (aBuiltin Pg h267 .len [71] [v266]) fun v268 h269 =>
 bindV (still (aBin Pg .eql 3 v268 (V.int .i64 0) true) h269) fun v270 h271 =>
 vcIf v270 (
 bindV (still (aBin Pg .add 9 x5 (V.str [45]) true) h271) fun v272 h273 =>
 Meet (Jz2e Q v272 h273)) (
 Meet (Jz2e Q x5 h271))):=by kernel_rfl
theorem Lz3u_eq (Q:AEnd→AH→Prop) (n:Nat) (x1 x5 x198 x199 x200:V) (h:AH):Lz3u Q (n + 1) x1 x5 x198 x199 x200 h=(
 bindV (still (aBin Pg .lss 3 x200 x199 false) h) fun v252 h253 =>
 vcIf v252 (
 Meet (Jz2b Q n x1 x5 x198 x199 x200 h253)) (
 Meet (Jz2d Q x1 x5 h253))):=by kernel_rfl
theorem Jz2a_eq (Q:AEnd→AH→Prop) (x1 x5:V) (h:AH):Jz2a Q x1 x5 h=(
 bindV (still (aBin Pg .add 9 x5 (V.str [32]) true) h) fun v244 h245 =>
 bindV (still (aFieldAddr Pg 73 x1 4) h245) fun v246 h247 =>
 bindV (aLoadV Pg h247 71 v246) fun v248 h249 =>
 bindV (aBuiltin Pg h249 .len [71] [v248]) fun v250 h251 =>
 ∃ n,Meet (Lz3u Q n x1 v244 v248 v250 (V.int .i64 0) h251)):=by kernel_rfl
theorem Jz29_eq (Q:AEnd→AH→Prop) (x1 x5 x194:V) (h:AH):Jz29 Q x1 x5 x194 h=(
 vcIf x194 (
 Q (.ret (V.tup [(V.str []),(V.bool false)])) h) (
 Meet (Jz2a Q x1 x5 h))):=by kernel_rfl
theorem Gzu_eq (Q:AEnd→AH→Prop) (x1 x5 x189 x193:V) (h:AH):Gzu Q x1 x5 x189 x193 h=(
 bindV (aPick x189 (V.bool true) x193 h) fun v242 h243 =>
 Meet (Jz29 Q x1 x5 v242 h243)):=by kernel_rfl
theorem Jz22_eq (Q:AEnd→AH→Prop) (x1 x5 x6:V) (h:AH):Jz22 Q x1 x5 x6 h=(
 bindV (still (aFieldAddr Pg 73 x1 0) h) fun v47 h48 =>
 bindV (aLoadV Pg h48 5 v47) fun v49 h50 =>
 bindV (still (aBin Pg .eql 5 v49 (V.int .u8 0) true) h50) fun v51 h52 =>
 vcIf v51 (
 ACalls Pg 114 [] h52 (aEnd (fun v53 h54 =>
 bindV (still (aFieldAddr Pg 73 x1 1) h54) fun v55 h56 =>
 bindV (aLoadV Pg h56 3 v55) fun v57 h58 =>
 bindV (still (aBin Pg .geq 3 v57 (V.int .i64 10) true) h58) fun v59 h60 =>
 vcG v59 false (
 bindV (still (aFieldAddr Pg 57 x6 0) h60) fun v224 h225 =>
 bindV (aLoadV Pg h225 5 v224) fun v226 h227 =>
 bindV (still (aConv Pg h227 5 3 v226) h227) fun v228 h229 =>
 bindV (aBuiltin Pg h229 .len [222] [v53]) fun v230 h231 =>
 bindV (still (aBin Pg .geq 3 v228 v230 false) h231) fun v232 h233 =>
 Meet (Gze Q x1 x5 x6 v53 v59 v232 h233)) (Meet (Gze Q x1 x5 x6 v53 v59 hole h60))) fun v h=>Q (.panic v) h)) (
 bindV (still (aBin Pg .eql 5 v49 (V.int .u8 5) true) h52) fun v234 h235 =>
 vcIf v234 (
 bindV (still (aFieldAddr Pg 73 x1 1) h235) fun v236 h237 =>
 bindV (aLoadV Pg h237 3 v236) fun v238 h239 =>
 bindV (still (aBin Pg .neq 3 v238 (V.int .i64 0) true) h239) fun v240 h241 =>
 vcG v240 false (
 bindV (still (aFieldAddr Pg 73 x1 4) h241) fun v274 h275 =>
 bindV (aLoadV Pg h275 71 v274) fun v276 h277 =>
 bindV (aBuiltin Pg h277 .len [71] [v276]) fun v278 h279 =>
 bindV (still (aBin Pg .gtr 3 v278 (V.int .i64 2000) true) h279) fun v280 h281 =>
 Meet (Gzu Q x1 x5 v240 v280 h281)) (Meet (Gzu Q x1 x5 v240 hole h241))) (
 bindV (still (aFieldAddr Pg 73 x1 1) h235) fun v282 h283 =>
 bindV (aLoadV Pg h283 3 v282) fun v284 h285 =>
 bindV (still (aConv Pg h285 3 49 v284) h285) fun v286 h287 =>
 ACalls Pg 117 [v286] h287 (aEnd (fun v288 h289 =>
 bindV (aBuildSlice Pg h289 337 2 [(0,x5),(1,v288)]) fun v290 h291 =>
 ACalls Pg 115 [v290] h291 (aEnd (fun v292 h293 =>
 Meet (Jz2e Q v292 h293)) fun v h=>Q (.panic v) h)) fun v h=>Q (.panic v) h)))):=by kernel_rfl
theorem Jz21_eq (Q:AEnd→AH→Prop) (x1 x5 x6 x58:V) (h:AH):Jz21 Q x1 x5 x6 x58 h=(
 vcIf x58 (
 Q (.ret (V.tup [(V.str []),(V.bool false)])) h) (
 Meet (Jz22 Q x1 x5 x6 h))):=by kernel_rfl
theorem Gzd_eq (Q:AEnd→AH→Prop) (x1 x5 x6 x48 x57:V) (h:AH):Gzd Q x1 x5 x6 x48 x57 h=(
 bindV (aPick x48 (V.bool true) x57 h) fun v45 h46 =>
 Meet (Jz21 Q x1 x5 x6 v45 h46)):=by kernel_rfl
theorem Gzc_eq (Q:AEnd→AH→Prop) (x1 x5 x6 x48 x52 x56:V) (h:AH):Gzc Q x1 x5 x6 x48 x52 x56 h=(
 vcG x48 false (
 bindV (aPick x52 x56 (V.bool false) h) fun v294 h295 =>
 Meet (Gzd Q x1 x5 x6 x48 v294 h295)) (Meet (Gzd Q x1 x5 x6 x48 hole h))):=by kernel_rfl
theorem Gzb_eq (Q:AEnd→AH→Prop) (x1 x5 x6 x48 x52:V) (h:AH):Gzb Q x1 x5 x6 x48 x52 h=(
 vcG x52 true (
 bindV (still (aFieldAddr Pg 73 x1 4) h) fun v296 h297 =>
 bindV (aLoadV Pg h297 71 v296) fun v298 h299 =>
 bindV (aBuiltin Pg h299 .len [71] [v298]) fun v300 h301 =>
 bindV (still (aBin Pg .gtr 3 v300 (V.int .i64 0) true) h301) fun v302 h303 =>
 Meet (Gzc Q x1 x5 x6 x48 x52 v302 h303)) (Meet (Gzc Q x1 x5 x6 x48 x52 hole h))):=by kernel_rfl
theorem Gza_eq (Q:AEnd→AH→Prop) (x1 x5 x6 x43 x46:V) (h:AH):Gza Q x1 x5 x6 x43 x46 h=(
 bindV (aPick x43 x46 (V.bool false) h) fun v43 h44 =>
 vcG v43 false (
 bindV (still (aFieldAddr Pg 73 x1 0) h44) fun v304 h305 =>
 bindV (aLoadV Pg h305 5 v304) fun v306 h307 =>
 bindV (still (aBin Pg .neq 5 v306 (V.int .u8 5) true) h307) fun v308 h309 =>
 Meet (Gzb Q x1 x5 x6 v43 v308 h309)) (Meet (Gzb Q x1 x5 x6 v43 hole h44))):=by kernel_rfl
theorem Jz20_eq (Q:AEnd→AH→Prop) (x1 x4:V) (h:AH):Jz20 Q x1 x4 h=(
 bindV (still (aFieldAddr Pg 73 x1 0) h) fun v21 h22 =>
 bindV (aLoadV Pg h22 5 v21) fun v23 h24 =>
 bindV (still (aIndexAddr Pg 337 x4 v23) h24) fun v25 h26 =>
 bindV (aLoadV Pg h26 9 v25) fun v27 h28 =>
 bindV (still (aFieldAddr Pg 73 x1 3) h28) fun v29 h30 =>
 bindV (aLoadV Pg h30 57 v29) fun v31 h32 =>
 bindV (aAlloc Pg h32 57) fun v33 h34 =>
 bindV (aStoreV Pg h34 57 v33 v31) fun _ h36 =>
 bindV (still (aFieldAddr Pg 73 x1 0) h36) fun v37 h38 =>
 bindV (aLoadV Pg h38 5 v37) fun v39 h40 =>
 bindV (still (aBin Pg .neq 5 v39 (V.int .u8 0) true) h40) fun v41 h42 =>
 vcG v41 true (
 bindV (aLoadV Pg h42 57 v33) fun v310 h311 =>
 bindV (still (aBuild Pg 57 []) h311) fun v312 h313 =>
 bindV (still (aBin Pg .neq 57 v310 v312 false) h313) fun v314 h315 =>
 Meet (Gza Q x1 v27 v33 v41 v314 h315)) (Meet (Gza Q x1 v27 v33 v41 hole h42))):=by kernel_rfl
theorem Jz1z_eq (Q:AEnd→AH→Prop) (x1 x4 x32:V) (h:AH):Jz1z Q x1 x4 x32 h=(
 vcIf x32 (
 Q (.ret (V.tup [(V.str []),(V.bool false)])) h) (
 Meet (Jz20 Q x1 x4 h))):=by kernel_rfl
theorem Gz9_eq (Q:AEnd→AH→Prop) (x1 x4 x28 x31:V) (h:AH):Gz9 Q x1 x4 x28 x31 h=(
 bindV (aPick x28 (V.bool true) x31 h) fun v19 h20 =>
 Meet (Jz1z Q x1 x4 v19 h20)):=by kernel_rfl
theorem Gz8_eq (Q:AEnd→AH→Prop) (x1 x4 x23 x26:V) (h:AH):Gz8 Q x1 x4 x23 x26 h=(
 bindV (aPick x23 (V.bool true) x26 h) fun v17 h18 =>
 vcG v17 false (
 bindV (still (aFieldAddr Pg 73 x1 2) h18) fun v316 h317 =>
 bindV (aLoadV Pg h317 3 v316) fun v318 h319 =>
 bindV (still (aBin Pg .neq 3 v318 (V.int .i64 0) true) h319) fun v320 h321 =>
 Meet (Gz9 Q x1 x4 v17 v320 h321)) (Meet (Gz9 Q x1 x4 v17 hole h18))):=by kernel_rfl
theorem Gz7_eq (Q:AEnd→AH→Prop) (x1 x4 x18 x21:V) (h:AH):Gz7 Q x1 x4 x18 x21 h=(
 bindV (aPick x18 (V.bool true) x21 h) fun v15 h16 =>
 vcG v15 false (
 bindV (still (aFieldAddr Pg 73 x1 1) h16) fun v322 h323 =>
 bindV (aLoadV Pg h323 3 v322) fun v324 h325 =>
 bindV (still (aBin Pg .geq 3 v324 (V.int .i64 2147483648) true) h325) fun v326 h327 =>
 Meet (Gz8 Q x1 x4 v15 v326 h327)) (Meet (Gz8 Q x1 x4 v15 hole h16))):=by kernel_rfl
theorem S122 (Q:AEnd→AH→Prop) (a0:V) (h:AH):vc Pg N122 B122 K122 (vcRet Pg R122 Q) (initEnv 0 [a0]) h=(
 bindV (aNew Pg h 73 a0) fun v1 h2 =>
 ACalls Pg 192 [] h2 (aEnd (fun v3 h4 =>
 bindV (still (aFieldAddr Pg 73 v1 0) h4) fun v5 h6 =>
 bindV (aLoadV Pg h6 5 v5) fun v7 h8 =>
 bindV (still (aConv Pg h8 5 3 v7) h8) fun v9 h10 =>
 bindV (aBuiltin Pg h10 .len [337] [v3]) fun v11 h12 =>
 bindV (still (aBin Pg .geq 3 v9 v11 false) h12) fun v13 h14 =>
 vcG v13 false (
 bindV (still (aFieldAddr Pg 73 v1 1) h14) fun v328 h329 =>
 bindV (aLoadV Pg h329 3 v328) fun v330 h331 =>
 bindV (still (aBin Pg .lss 3 v330 (V.int .i64 0) true) h331) fun v332 h333 =>
 Meet (Gz7 Q v1 v3 v13 v332 h333)) (Meet (Gz7 Q v1 v3 v13 hole h14))) fun v h=>Q (.panic v) h)):=by kernel_rfl
theorem C122 (Q:AEnd→AH→Prop) (a0:V) (h:AH) (c :
 bindV (aNew Pg h 73 a0) fun v1 h2 =>
 ACalls Pg 192 [] h2 (aEnd (fun v3 h4 =>
 bindV (still (aFieldAddr Pg 73 v1 0) h4) fun v5 h6 =>
 bindV (aLoadV Pg h6 5 v5) fun v7 h8 =>
 bindV (still (aConv Pg h8 5 3 v7) h8) fun v9 h10 =>
 bindV (aBuiltin Pg h10 .len [337] [v3]) fun v11 h12 =>
 bindV (still (aBin Pg .geq 3 v9 v11 false) h12) fun v13 h14 =>
 vcG v13 false (
 bindV (still (aFieldAddr Pg 73 v1 1) h14) fun v328 h329 =>
 bindV (aLoadV Pg h329 3 v328) fun v330 h331 =>
 bindV (still (aBin Pg .lss 3 v330 (V.int .i64 0) true) h331) fun v332 h333 =>
 Meet (Gz7 Q v1 v3 v13 v332 h333)) (Meet (Gz7 Q v1 v3 v13 hole h14))) fun v h=>Q (.panic v) h)):ACalls Pg 122 [a0] h Q :=
 acalls_of_vc okP Tryz.func122 (show Tryz.f122.body=some B122 from by kernel_rfl) K122 (by rw [← S122 Q a0 h] at c;exact c)
noncomputable def B191:Code:=(Tryz.f191.body).getD .skip
def R191:List ResultVar:=[.tmp 2,.tmp 3]
abbrev N191:Nat:=15
def K191:KT:=(.seq .leaf (.seq .leaf (.seq .leaf .leaf [2,3]) [4,5]) [0])
theorem S191 (Q:AEnd→AH→Prop) (a0:V) (h:AH):vc Pg N191 B191 K191 (vcRet Pg R191 Q) (initEnv 0 [a0]) h=(
 ACalls Pg 111 [a0,(V.str [32])] h (aEnd (fun v1 h2 =>
 bindV (still (aExtract v1 0) h2) fun v3 h4 =>
 bindV (still (aExtract v1 1) h4) fun v5 h6 =>
 bindV (still (aExtract v1 2) h6) fun v7 h8 =>
 Q (.ret (V.tup [v3,v5])) h8) fun v h=>Q (.panic v) h)):=by kernel_rfl
theorem C191 (Q:AEnd→AH→Prop) (a0:V) (h:AH) (c :
 ACalls Pg 111 [a0,(V.str [32])] h (aEnd (fun v1 h2 =>
 bindV (still (aExtract v1 0) h2) fun v3 h4 =>
 bindV (still (aExtract v1 1) h4) fun v5 h6 =>
 bindV (still (aExtract v1 2) h6) fun v7 h8 =>
 Q (.ret (V.tup [v3,v5])) h8) fun v h=>Q (.panic v) h)):ACalls Pg 191 [a0] h Q :=
 acalls_of_vc okP Tryz.func191 (show Tryz.f191.body=some B191 from by kernel_rfl) K191 (by rw [← S191 Q a0 h] at c;exact c)
noncomputable def B192:Code:=(Tryz.f192.body).getD .skip
def R192:List ResultVar:=[.tmp 0]
abbrev N192:Nat:=2
def K192:KT:=(.seq .leaf (.seq .leaf .leaf [0]) [])
theorem S192 (Q:AEnd→AH→Prop) (h:AH):vc Pg N192 B192 K192 (vcRet Pg R192 Q) (initEnv 0 []) h=(
 bindV (aBuildSlice Pg h 337 7 [(0,(V.str [97,115,107])),(1,(V.str [115,116,101,112])),(2,(V.str [114,111,117,110,100])),(3,(V.str [102,117,115,101])),(4,(V.str [102,97,105,108])),(5,(V.str [99,114,97,115,104])),(6,(V.str [111,112,101,110]))]) fun v1 h2 =>
 Q (.ret v1) h2):=by kernel_rfl
theorem C192 (Q:AEnd→AH→Prop) (h:AH) (c :
 bindV (aBuildSlice Pg h 337 7 [(0,(V.str [97,115,107])),(1,(V.str [115,116,101,112])),(2,(V.str [114,111,117,110,100])),(3,(V.str [102,117,115,101])),(4,(V.str [102,97,105,108])),(5,(V.str [99,114,97,115,104])),(6,(V.str [111,112,101,110]))]) fun v1 h2 =>
 Q (.ret v1) h2):ACalls Pg 192 [] h Q :=
 acalls_of_vc okP Tryz.func192 (show Tryz.f192.body=some B192 from by kernel_rfl) K192 (by rw [← S192 Q h] at c;exact c)
noncomputable def B193:Code:=(Tryz.f193.body).getD .skip
def R193:List ResultVar:=[.tmp 2,.tmp 3]
abbrev N193:Nat:=44
def K193:KT:=(.seq .leaf (.join (.join (.reg [[0,9,12],[0,14,18],[0,14,18,21],[0,14,22]]) (.two (.seq .leaf .leaf [2,3]) .leaf) [0,23]) (.seq .leaf (.join (.seq .leaf (.one (.loop (.seq .leaf (.join (.two .leaf .leaf) (.one (.seq .leaf (.join (.join (.reg [[4,6,25,31,33]]) (.two (.seq .leaf .leaf [2,3]) .leaf) [4,6,25,34]) .leaf [4,6,25]) [4,6,25])) [4,25,26]) [4,25,26,27]) [4,25])) [4,25]) (.seq .leaf .leaf [2,3]) [4]) [0,4]) [0]) [0])
def Jz2k (Q:AEnd→AH→Prop) (n:Nat) (x4 x6 x25:V) (h:AH):Prop:=vcAt Pg N193 B193 K193 [1,1,1,0,1,0,0,1,1,0,1,1] [n] (vcRet Pg R193 Q) [(4,x4),(6,x6),(25,x25)] h
def Jz2j (Q:AEnd→AH→Prop) (n:Nat) (x4 x6 x25 x34:V) (h:AH):Prop:=vcAt Pg N193 B193 K193 [1,1,1,0,1,0,0,1,1,0,1,0,1] [n] (vcRet Pg R193 Q) [(4,x4),(6,x6),(25,x25),(34,x34)] h
def Gzz (Q:AEnd→AH→Prop) (n:Nat) (x4 x6 x25 x31 x33:V) (h:AH):Prop:=segAt Pg N193 B193 K193 [1,1,1,0,1,0,0,1,1,0,1,0,0] 2 1 [n] (vcRet Pg R193 Q) [(4,x4),(6,x6),(25,x25),(31,x31),(33,x33)] h
def Jz2i (Q:AEnd→AH→Prop) (n:Nat) (x4 x25 x26:V) (h:AH):Prop:=vcAt Pg N193 B193 K193 [1,1,1,0,1,0,0,1,1] [n] (vcRet Pg R193 Q) [(4,x4),(25,x25),(26,x26)] h
def Jz2l (Q:AEnd→AH→Prop) (x4:V) (h:AH):Prop:=vcAt Pg N193 B193 K193 [1,1,1,1] [] (vcRet Pg R193 Q) [(4,x4)] h
def Lz3v (Q:AEnd→AH→Prop) (n:Nat) (x4 x25:V) (h:AH):Prop:=loopAt Pg N193 B193 K193 [1,1,1,0,1,0] [] n (vcRet Pg R193 Q) [(4,x4),(25,x25)] h
def Jz2h (Q:AEnd→AH→Prop) (x0:V) (h:AH):Prop:=vcAt Pg N193 B193 K193 [1,1] [] (vcRet Pg R193 Q) [(0,x0)] h
def Jz2g (Q:AEnd→AH→Prop) (x0 x23:V) (h:AH):Prop:=vcAt Pg N193 B193 K193 [1,0,1] [] (vcRet Pg R193 Q) [(0,x0),(23,x23)] h
def Gzy (Q:AEnd→AH→Prop) (x0 x14 x22:V) (h:AH):Prop:=segAt Pg N193 B193 K193 [1,0,0] 6 4 [] (vcRet Pg R193 Q) [(0,x0),(14,x14),(22,x22)] h
def Gzx (Q:AEnd→AH→Prop) (x0 x14 x18 x21:V) (h:AH):Prop:=segAt Pg N193 B193 K193 [1,0,0] 5 3 [] (vcRet Pg R193 Q) [(0,x0),(14,x14),(18,x18),(21,x21)] h
def Gzw (Q:AEnd→AH→Prop) (x0 x14 x18:V) (h:AH):Prop:=segAt Pg N193 B193 K193 [1,0,0] 4 2 [] (vcRet Pg R193 Q) [(0,x0),(14,x14),(18,x18)] h
def Gzv (Q:AEnd→AH→Prop) (x0 x9 x12:V) (h:AH):Prop:=segAt Pg N193 B193 K193 [1,0,0] 2 1 [] (vcRet Pg R193 Q) [(0,x0),(9,x9),(12,x12)] h
theorem Jz2k_eq (Q:AEnd→AH→Prop) (n:Nat) (x4 x6 x25:V) (h:AH):Jz2k Q n x4 x6 x25 h=(
 bindV (still (aBin Pg .mul 49 x4 (V.int .u64 10) true) h) fun v19 h20 =>
 bindV (still (aBin Pg .sub 21 x6 (V.int .i32 48) true) h20) fun v21 h22 =>
 bindV (still (aConv Pg h22 21 49 v21) h22) fun v23 h24 =>
 bindV (still (aBin Pg .add 49 v19 v23 false) h24) fun v25 h26 =>
 Meet (Lz3v Q n v25 x25 h26)):=by kernel_rfl
theorem Jz2j_eq (Q:AEnd→AH→Prop) (n:Nat) (x4 x6 x25 x34:V) (h:AH):Jz2j Q n x4 x6 x25 x34 h=(
 vcIf x34 (
 Q (.ret (V.tup [(V.int .u64 0),(V.bool false)])) h) (
 Meet (Jz2k Q n x4 x6 x25 h))):=by kernel_rfl
theorem Gzz_eq (Q:AEnd→AH→Prop) (n:Nat) (x4 x6 x25 x31 x33:V) (h:AH):Gzz Q n x4 x6 x25 x31 x33 h=(
 bindV (aPick x31 (V.bool true) x33 h) fun v17 h18 =>
 Meet (Jz2j Q n x4 x6 x25 v17 h18)):=by kernel_rfl
theorem Jz2i_eq (Q:AEnd→AH→Prop) (n:Nat) (x4 x25 x26:V) (h:AH):Jz2i Q n x4 x25 x26 h=(
 bindV (still (aExtract x26 2) h) fun v13 h14 =>
 bindV (still (aBin Pg .lss 21 v13 (V.int .i32 48) true) h14) fun v15 h16 =>
 vcG v15 false (
 bindV (still (aBin Pg .gtr 21 v13 (V.int .i32 57) true) h16) fun v27 h28 =>
 Meet (Gzz Q n x4 v13 x25 v15 v27 h28)) (Meet (Gzz Q n x4 v13 x25 v15 hole h16))):=by kernel_rfl
theorem Jz2l_eq (Q:AEnd→AH→Prop) (x4:V) (h:AH):Jz2l Q x4 h=(
 bindV (still (aBin Pg .lss 49 x4 (V.int .u64 2147483648) true) h) fun v29 h30 =>
 Q (.ret (V.tup [x4,v29])) h30):=by kernel_rfl
theorem Lz3v_eq (Q:AEnd→AH→Prop) (n:Nat) (x4 x25:V) (h:AH):Lz3v Q (n + 1) x4 x25 h=(
 vcNextS x25 h fun v9 h10 =>
 bindV (still (aExtract v9 0) h10) fun v11 h12 =>
 vcIf v11 (
 Meet (Jz2i Q n x4 x25 v9 h12)) (
 Meet (Jz2l Q x4 h12))):=by kernel_rfl
theorem Jz2h_eq (Q:AEnd→AH→Prop) (x0:V) (h:AH):Jz2h Q x0 h=(
 vcRange Pg 9 x0 h fun v7 h8 =>
 ∃ n,Meet (Lz3v Q n (V.int .u64 0) v7 h8)):=by kernel_rfl
theorem Jz2g_eq (Q:AEnd→AH→Prop) (x0 x23:V) (h:AH):Jz2g Q x0 x23 h=(
 vcIf x23 (
 Q (.ret (V.tup [(V.int .u64 0),(V.bool false)])) h) (
 Meet (Jz2h Q x0 h))):=by kernel_rfl
theorem Gzy_eq (Q:AEnd→AH→Prop) (x0 x14 x22:V) (h:AH):Gzy Q x0 x14 x22 h=(
 bindV (aPick x14 (V.bool true) x22 h) fun v5 h6 =>
 Meet (Jz2g Q x0 v5 h6)):=by kernel_rfl
theorem Gzx_eq (Q:AEnd→AH→Prop) (x0 x14 x18 x21:V) (h:AH):Gzx Q x0 x14 x18 x21 h=(
 vcG x14 false (
 bindV (aPick x18 x21 (V.bool false) h) fun v31 h32 =>
 Meet (Gzy Q x0 x14 v31 h32)) (Meet (Gzy Q x0 x14 hole h))):=by kernel_rfl
theorem Gzw_eq (Q:AEnd→AH→Prop) (x0 x14 x18:V) (h:AH):Gzw Q x0 x14 x18 h=(
 vcG x18 true (
 bindV (still (aIndex Pg 9 x0 (V.int .i64 0)) h) fun v33 h34 =>
 bindV (still (aBin Pg .eql 5 v33 (V.int .u8 48) true) h34) fun v35 h36 =>
 Meet (Gzx Q x0 x14 x18 v35 h36)) (Meet (Gzx Q x0 x14 x18 hole h))):=by kernel_rfl
theorem Gzv_eq (Q:AEnd→AH→Prop) (x0 x9 x12:V) (h:AH):Gzv Q x0 x9 x12 h=(
 bindV (aPick x9 (V.bool true) x12 h) fun v3 h4 =>
 vcG v3 false (
 bindV (aBuiltin Pg h4 .len [9] [x0]) fun v37 h38 =>
 bindV (still (aBin Pg .gtr 3 v37 (V.int .i64 1) true) h38) fun v39 h40 =>
 Meet (Gzw Q x0 v3 v39 h40)) (Meet (Gzw Q x0 v3 hole h4))):=by kernel_rfl
theorem S193 (Q:AEnd→AH→Prop) (a0:V) (h:AH):vc Pg N193 B193 K193 (vcRet Pg R193 Q) (initEnv 0 [a0]) h=(
 bindV (still (aBin Pg .eql 9 a0 (V.str []) true) h) fun v1 h2 =>
 vcG v1 false (
 bindV (aBuiltin Pg h2 .len [9] [a0]) fun v41 h42 =>
 bindV (still (aBin Pg .gtr 3 v41 (V.int .i64 10) true) h42) fun v43 h44 =>
 Meet (Gzv Q a0 v1 v43 h44)) (Meet (Gzv Q a0 v1 hole h2))):=by kernel_rfl
theorem C193 (Q:AEnd→AH→Prop) (a0:V) (h:AH) (c :
 bindV (still (aBin Pg .eql 9 a0 (V.str []) true) h) fun v1 h2 =>
 vcG v1 false (
 bindV (aBuiltin Pg h2 .len [9] [a0]) fun v41 h42 =>
 bindV (still (aBin Pg .gtr 3 v41 (V.int .i64 10) true) h42) fun v43 h44 =>
 Meet (Gzv Q a0 v1 v43 h44)) (Meet (Gzv Q a0 v1 hole h2))):ACalls Pg 193 [a0] h Q :=
 acalls_of_vc okP Tryz.func193 (show Tryz.f193.body=some B193 from by kernel_rfl) K193 (by rw [← S193 Q a0 h] at c;exact c)
noncomputable def B194:Code:=(Tryz.f194.body).getD .skip
def R194:List ResultVar:=[.tmp 2,.tmp 3]
abbrev N194:Nat:=54
def K194:KT:=(.seq .leaf (.join (.seq .leaf (.two (.seq .leaf .leaf [2,3]) .leaf) [0,9]) (.join (.join (.reg [[0,12,16],[0,18,21]]) (.two (.seq .leaf .leaf [2,3]) .leaf) [0,22]) (.seq .leaf (.join (.seq .leaf (.one (.loop (.join (.seq .leaf (.two .leaf .leaf) [0,4,5,26]) (.join (.one (.seq .leaf (.join (.join (.reg [[0,4,5,6,7,40,42]]) (.two (.seq .leaf .leaf [2,3]) .leaf) [0,4,5,6,7,43]) .leaf [0,4,5,6,7]) [0,4,5,6,7])) .leaf [0,4,5]) [0,4,5]) [0,4,5])) [0,4,5]) (.seq .leaf .leaf [2,3]) [4]) [0,4]) [0]) [0]) [0])
def Jz2s (Q:AEnd→AH→Prop) (n:Nat) (x0 x4 x5:V) (h:AH):Prop:=vcAt Pg N194 B194 K194 [1,1,1,1,0,1,0,0,1,1] [n] (vcRet Pg R194 Q) [(0,x0),(4,x4),(5,x5)] h
def Jz2r (Q:AEnd→AH→Prop) (n:Nat) (x0 x4 x5 x6 x7:V) (h:AH):Prop:=vcAt Pg N194 B194 K194 [1,1,1,1,0,1,0,0,1,0,0,1,1] [n] (vcRet Pg R194 Q) [(0,x0),(4,x4),(5,x5),(6,x6),(7,x7)] h
def Jz2q (Q:AEnd→AH→Prop) (n:Nat) (x0 x4 x5 x6 x7 x43:V) (h:AH):Prop:=vcAt Pg N194 B194 K194 [1,1,1,1,0,1,0,0,1,0,0,1,0,1] [n] (vcRet Pg R194 Q) [(0,x0),(4,x4),(5,x5),(6,x6),(7,x7),(43,x43)] h
def Gz12 (Q:AEnd→AH→Prop) (n:Nat) (x0 x4 x5 x6 x7 x40 x42:V) (h:AH):Prop:=segAt Pg N194 B194 K194 [1,1,1,1,0,1,0,0,1,0,0,1,0,0] 2 1 [n] (vcRet Pg R194 Q) [(0,x0),(4,x4),(5,x5),(6,x6),(7,x7),(40,x40),(42,x42)] h
def Jz2p (Q:AEnd→AH→Prop) (n:Nat) (x0 x4 x5:V) (h:AH):Prop:=vcAt Pg N194 B194 K194 [1,1,1,1,0,1,0,0,1] [n] (vcRet Pg R194 Q) [(0,x0),(4,x4),(5,x5)] h
def Jz2t (Q:AEnd→AH→Prop) (x4:V) (h:AH):Prop:=vcAt Pg N194 B194 K194 [1,1,1,1,1] [] (vcRet Pg R194 Q) [(4,x4)] h
def Lz3w (Q:AEnd→AH→Prop) (n:Nat) (x0 x4 x5:V) (h:AH):Prop:=loopAt Pg N194 B194 K194 [1,1,1,1,0,1,0] [] n (vcRet Pg R194 Q) [(0,x0),(4,x4),(5,x5)] h
def Jz2o (Q:AEnd→AH→Prop) (x0:V) (h:AH):Prop:=vcAt Pg N194 B194 K194 [1,1,1] [] (vcRet Pg R194 Q) [(0,x0)] h
def Jz2n (Q:AEnd→AH→Prop) (x0 x22:V) (h:AH):Prop:=vcAt Pg N194 B194 K194 [1,1,0,1] [] (vcRet Pg R194 Q) [(0,x0),(22,x22)] h
def Gz11 (Q:AEnd→AH→Prop) (x0 x18 x21:V) (h:AH):Prop:=segAt Pg N194 B194 K194 [1,1,0,0] 4 2 [] (vcRet Pg R194 Q) [(0,x0),(18,x18),(21,x21)] h
def Gz10 (Q:AEnd→AH→Prop) (x0 x12 x16:V) (h:AH):Prop:=segAt Pg N194 B194 K194 [1,1,0,0] 2 1 [] (vcRet Pg R194 Q) [(0,x0),(12,x12),(16,x16)] h
def Jz2m (Q:AEnd→AH→Prop) (x0:V) (h:AH):Prop:=vcAt Pg N194 B194 K194 [1,1] [] (vcRet Pg R194 Q) [(0,x0)] h
theorem Jz2s_eq (Q:AEnd→AH→Prop) (n:Nat) (x0 x4 x5:V) (h:AH):Jz2s Q n x0 x4 x5 h=(
 bindV (still (aBin Pg .add 3 x5 (V.int .i64 2) true) h) fun v32 h33 =>
 Meet (Lz3w Q n x0 x4 v32 h33)):=by kernel_rfl
theorem Jz2r_eq (Q:AEnd→AH→Prop) (n:Nat) (x0 x4 x5 x6 x7:V) (h:AH):Jz2r Q n x0 x4 x5 x6 x7 h=(
 bindV (still (aBin Pg .shl 3 x6 (V.int .u64 4) true) h) fun v22 h23 =>
 bindV (still (aBin Pg .or 3 v22 x7 false) h23) fun v24 h25 =>
 bindV (still (aConv Pg h25 3 5 v24) h25) fun v26 h27 =>
 bindV (aBuildSlice Pg h27 207 1 [(0,v26)]) fun v28 h29 =>
 bindV (aBuiltin Pg h29 .append [207,207] [x4,v28]) fun v30 h31 =>
 Meet (Jz2s Q n x0 v30 x5 h31)):=by kernel_rfl
theorem Jz2q_eq (Q:AEnd→AH→Prop) (n:Nat) (x0 x4 x5 x6 x7 x43:V) (h:AH):Jz2q Q n x0 x4 x5 x6 x7 x43 h=(
 vcIf x43 (
 Q (.ret (V.tup [(V.str []),(V.bool false)])) h) (
 Meet (Jz2r Q n x0 x4 x5 x6 x7 h))):=by kernel_rfl
theorem Gz12_eq (Q:AEnd→AH→Prop) (n:Nat) (x0 x4 x5 x6 x7 x40 x42:V) (h:AH):Gz12 Q n x0 x4 x5 x6 x7 x40 x42 h=(
 bindV (aPick x40 (V.bool true) x42 h) fun v20 h21 =>
 Meet (Jz2q Q n x0 x4 x5 x6 x7 v20 h21)):=by kernel_rfl
theorem Jz2p_eq (Q:AEnd→AH→Prop) (n:Nat) (x0 x4 x5:V) (h:AH):Jz2p Q n x0 x4 x5 h=(
 bindO (fstV (still (aIndex Pg 9 x0 x5) h)) fun v13 =>
 ∃ v14,ACalls Pg 253 [(V.str [48,49,50,51,52,53,54,55,56,57,97,98,99,100,101,102]),v13] h (pureE v14 h)∧(
 bindO (fstV (still (aBin Pg .add 3 x5 (V.int .i64 1) true) h)) fun v15 =>
 bindO (fstV (still (aIndex Pg 9 x0 v15) h)) fun v16 =>
 ∃ v17,ACalls Pg 253 [(V.str [48,49,50,51,52,53,54,55,56,57,97,98,99,100,101,102]),v16] h (pureE v17 h)∧(
 bindV (still (aBin Pg .lss 3 v14 (V.int .i64 0) true) h) fun v18 h19 =>
 vcG v18 false (
 bindV (still (aBin Pg .lss 3 v17 (V.int .i64 0) true) h19) fun v34 h35 =>
 Meet (Gz12 Q n x0 x4 x5 v14 v17 v18 v34 h35)) (Meet (Gz12 Q n x0 x4 x5 v14 v17 v18 hole h19))))):=by kernel_rfl
theorem Jz2t_eq (Q:AEnd→AH→Prop) (x4:V) (h:AH):Jz2t Q x4 h=(
 bindV (still (aConv Pg h 207 9 x4) h) fun v36 h37 =>
 Q (.ret (V.tup [v36,(V.bool true)])) h37):=by kernel_rfl
theorem Lz3w_eq (Q:AEnd→AH→Prop) (n:Nat) (x0 x4 x5:V) (h:AH):Lz3w Q (n + 1) x0 x4 x5 h=(
 bindV (aBuiltin Pg h .len [9] [x0]) fun v9 h10 =>
 bindV (still (aBin Pg .lss 3 x5 v9 false) h10) fun v11 h12 =>
 vcIf v11 (
 Meet (Jz2p Q n x0 x4 x5 h12)) (
 Meet (Jz2t Q x4 h12))):=by kernel_rfl
theorem Jz2o_eq (Q:AEnd→AH→Prop) (x0:V) (h:AH):Jz2o Q x0 h=(
 ∃ n,Meet (Lz3w Q n x0 (V.slc none 0) (V.int .i64 0) h)):=by kernel_rfl
theorem Jz2n_eq (Q:AEnd→AH→Prop) (x0 x22:V) (h:AH):Jz2n Q x0 x22 h=(
 vcIf x22 (
 Q (.ret (V.tup [(V.str []),(V.bool false)])) h) (
 Meet (Jz2o Q x0 h))):=by kernel_rfl
theorem Gz11_eq (Q:AEnd→AH→Prop) (x0 x18 x21:V) (h:AH):Gz11 Q x0 x18 x21 h=(
 bindV (aPick x18 (V.bool true) x21 h) fun v7 h8 =>
 Meet (Jz2n Q x0 v7 h8)):=by kernel_rfl
theorem Gz10_eq (Q:AEnd→AH→Prop) (x0 x12 x16:V) (h:AH):Gz10 Q x0 x12 x16 h=(
 bindV (aPick x12 (V.bool true) x16 h) fun v5 h6 =>
 vcG v5 false (
 bindV (aBuiltin Pg h6 .len [9] [x0]) fun v38 h39 =>
 bindV (still (aBin Pg .gtr 3 v38 (V.int .i64 128) true) h39) fun v40 h41 =>
 Meet (Gz11 Q x0 v5 v40 h41)) (Meet (Gz11 Q x0 v5 hole h6))):=by kernel_rfl
theorem Jz2m_eq (Q:AEnd→AH→Prop) (x0:V) (h:AH):Jz2m Q x0 h=(
 bindV (still (aBin Pg .eql 9 x0 (V.str []) true) h) fun v3 h4 =>
 vcG v3 false (
 bindV (aBuiltin Pg h4 .len [9] [x0]) fun v42 h43 =>
 bindV (still (aBin Pg .rem 3 v42 (V.int .i64 2) true) h43) fun v44 h45 =>
 bindV (still (aBin Pg .neq 3 v44 (V.int .i64 0) true) h45) fun v46 h47 =>
 Meet (Gz10 Q x0 v3 v46 h47)) (Meet (Gz10 Q x0 v3 hole h4))):=by kernel_rfl
theorem S194 (Q:AEnd→AH→Prop) (a0:V) (h:AH):vc Pg N194 B194 K194 (vcRet Pg R194 Q) (initEnv 0 [a0]) h=(
 bindV (still (aBin Pg .eql 9 a0 (V.str [45]) true) h) fun v1 h2 =>
 vcIf v1 (
 Q (.ret (V.tup [(V.str []),(V.bool true)])) h2) (
 Meet (Jz2m Q a0 h2))):=by kernel_rfl
theorem C194 (Q:AEnd→AH→Prop) (a0:V) (h:AH) (c :
 bindV (still (aBin Pg .eql 9 a0 (V.str [45]) true) h) fun v1 h2 =>
 vcIf v1 (
 Q (.ret (V.tup [(V.str []),(V.bool true)])) h2) (
 Meet (Jz2m Q a0 h2))):ACalls Pg 194 [a0] h Q :=
 acalls_of_vc okP Tryz.func194 (show Tryz.f194.body=some B194 from by kernel_rfl) K194 (by rw [← S194 Q a0 h] at c;exact c)
end Go.Proofs.YtcglbpjpbjaecaaGreat.Sh
namespace Go.Proofs.YtcglbpjpbjaecaaGreat.Sh
open Go Go.Ab Go.RowKit
open Go.Proofs.YtcglbpjpbjaecaaGreat.Ru (Pg okP)
set_option maxRecDepth 100000
noncomputable def B111:Code:=(Tryz.f111.body).getD .skip
def R111:List ResultVar:=[.tmp 4,.tmp 5,.tmp 6]
abbrev N111:Nat:=13
def K111:KT:=(.seq .leaf (.seq .leaf .leaf [4,5,6]) [0,1])
theorem S111 (Q:AEnd→AH→Prop) (a0 a1:V) (h:AH):vc Pg N111 B111 K111 (vcRet Pg R111 Q) (initEnv 0 [a0,a1]) h=(
 ACalls Pg 190 [a0,a1] h (aEnd (fun v1 h2 =>
 bindV (still (aExtract v1 0) h2) fun v3 h4 =>
 bindV (still (aExtract v1 1) h4) fun v5 h6 =>
 bindV (still (aExtract v1 2) h6) fun v7 h8 =>
 Q (.ret (V.tup [v3,v5,v7])) h8) fun v h=>Q (.panic v) h)):=by kernel_rfl
theorem C111 (Q:AEnd→AH→Prop) (a0 a1:V) (h:AH) (c :
 ACalls Pg 190 [a0,a1] h (aEnd (fun v1 h2 =>
 bindV (still (aExtract v1 0) h2) fun v3 h4 =>
 bindV (still (aExtract v1 1) h4) fun v5 h6 =>
 bindV (still (aExtract v1 2) h6) fun v7 h8 =>
 Q (.ret (V.tup [v3,v5,v7])) h8) fun v h=>Q (.panic v) h)):ACalls Pg 111 [a0,a1] h Q :=
 acalls_of_vc okP Tryz.func111 (show Tryz.f111.body=some B111 from by kernel_rfl) K111 (by rw [← S111 Q a0 a1 h] at c;exact c)
noncomputable def B190:Code:=(Tryz.f190.body).getD .skip
def R190:List ResultVar:=[.tmp 4,.tmp 5,.tmp 6]
abbrev N190:Nat:=23
def K190:KT:=(.seq .leaf (.join (.seq .leaf (.seq .leaf (.two (.seq .leaf .leaf [4,5,6]) .leaf) [0,1,7,12]) [0,1,7]) (.seq .leaf .leaf [4,5,6]) [0]) [0,1])
def Jz2f (Q:AEnd→AH→Prop) (x0:V) (h:AH):Prop:=vcAt Pg N190 B190 K190 [1,1] [] (vcRet Pg R190 Q) [(0,x0)] h
theorem Jz2f_eq (Q:AEnd→AH→Prop) (x0:V) (h:AH):Jz2f Q x0 h=(
 Q (.ret (V.tup [x0,(V.str []),(V.bool false)])) h):=by kernel_rfl
theorem S190 (Q:AEnd→AH→Prop) (a0 a1:V) (h:AH):vc Pg N190 B190 K190 (vcRet Pg R190 Q) (initEnv 0 [a0,a1]) h=(
 ACalls Pg 252 [a0,a1] h (aEnd (fun v1 h2 =>
 bindV (still (aBin Pg .geq 3 v1 (V.int .i64 0) true) h2) fun v3 h4 =>
 vcIf v3 (
 bindO (fstV (still (aSlice Pg h4 9 a0 none (some v1)) h4)) fun v5 =>
 bindO (fstV (aBuiltin Pg h4 .len [9] [a1])) fun v6 =>
 bindO (fstV (still (aBin Pg .add 3 v1 v6 false) h4)) fun v7 =>
 bindO (fstV (still (aSlice Pg h4 9 a0 (some v7) none) h4)) fun v8 =>
 Q (.ret (V.tup [v5,v8,(V.bool true)])) h4) (
 Meet (Jz2f Q a0 h4))) fun v h=>Q (.panic v) h)):=by kernel_rfl
theorem C190 (Q:AEnd→AH→Prop) (a0 a1:V) (h:AH) (c :
 ACalls Pg 252 [a0,a1] h (aEnd (fun v1 h2 =>
 bindV (still (aBin Pg .geq 3 v1 (V.int .i64 0) true) h2) fun v3 h4 =>
 vcIf v3 (
 bindO (fstV (still (aSlice Pg h4 9 a0 none (some v1)) h4)) fun v5 =>
 bindO (fstV (aBuiltin Pg h4 .len [9] [a1])) fun v6 =>
 bindO (fstV (still (aBin Pg .add 3 v1 v6 false) h4)) fun v7 =>
 bindO (fstV (still (aSlice Pg h4 9 a0 (some v7) none) h4)) fun v8 =>
 Q (.ret (V.tup [v5,v8,(V.bool true)])) h4) (
 Meet (Jz2f Q a0 h4))) fun v h=>Q (.panic v) h)):ACalls Pg 190 [a0,a1] h Q :=
 acalls_of_vc okP Tryz.func190 (show Tryz.f190.body=some B190 from by kernel_rfl) K190 (by rw [← S190 Q a0 a1 h] at c;exact c)
noncomputable def B252:Code:=(Tryz.f252.body).getD .skip
def R252:List ResultVar:=[.tmp 4]
abbrev N252:Nat:=143
def K252:KT:=(.seq .leaf (.seq .leaf (.join (.one (.join (.reg [[0,1,5,19,22]]) (.two (.seq .leaf .leaf [4]) (.seq .leaf (.two (.seq .leaf .leaf [4]) (.seq .leaf (.two (.seq .leaf .leaf [4]) (.join (.reg [[0,1,5,40,43]]) (.two (.seq .leaf .leaf [4]) .leaf) [0,1,5,36])) [0,1,5,31])) [0,1,5,24])) [0,1,5,16])) (.seq .leaf (.seq .leaf (.seq .leaf (.seq .leaf (.seq .leaf (.join (.one (.loop (.join (.seq .leaf (.two .leaf .leaf) [0,1,5,6,7,8,9,10,59]) (.one (.join (.seq .leaf (.two (.seq .leaf (.join (.seq .leaf (.two (.seq .leaf .leaf [4]) .leaf) [0,1,5,6,7,8,9,10,11,73]) .leaf [0,1,5,6,7,8,9,10,11]) [0,1,5,6,7,8,9,10,11]) .leaf) [0,1,5,6,7,8,9,10,64]) (.join (.join (.reg [[0,1,5,6,7,8,9,10,84,92]]) (.two (.seq .leaf .leaf [4]) .leaf) [0,1,5,6,7,8,9,10,93]) (.seq .leaf (.seq .leaf (.join (.reg [[0,1,5,6,7,8,9,10,102,106]]) (.two (.seq .leaf (.join (.seq .leaf (.two (.seq .leaf .leaf [4]) .leaf) [8,12,114]) (.seq .leaf .leaf [4]) []) [8,12]) (.join (.reg [[0,1,5,6,7,8,9,10,121,126],[0,1,5,6,7,8,9,10,128,131]]) (.two (.seq .leaf (.join (.seq .leaf (.two (.seq .leaf .leaf [4]) .leaf) [8,13,139]) (.seq .leaf .leaf [4]) [8,13]) [8,13]) .leaf) [0,1,5,6,7,8,9,10,132])) [0,1,5,6,7,8,9,10,107]) [0,1,5,6,7,8,9,10]) [0,1,5,6,7,8,9,10]) [0,1,5,6,7,8,9,10]) [0,1,5,6,7,8,9,10])) [0,1,5,6,7,8,9,10]) [0,1,5,6,7,8,9,10])) (.seq .leaf .leaf [4]) []) [0,1,5,6,7,8,9,10]) [0,1,5,6,7,8,9]) [0,1,5,6,7,8]) [0,1,5,6,7]) [0,1,5,6]) [0,1,5]) [0,1,5]) [0,1])
def Gz14 (Q:AEnd→AH→Prop) (x0 x1 x5 x40 x43:V) (h:AH):Prop:=segAt Pg N252 B252 K252 [1,1,0,0,1,1,1,1,1,1,0] 2 1 [] (vcRet Pg R252 Q) [(0,x0),(1,x1),(5,x5),(40,x40),(43,x43)] h
def Jz2w (Q:AEnd→AH→Prop) (x0 x1 x5 x16:V) (h:AH):Prop:=vcAt Pg N252 B252 K252 [1,1,0,0,1] [] (vcRet Pg R252 Q) [(0,x0),(1,x1),(5,x5),(16,x16)] h
def Gz13 (Q:AEnd→AH→Prop) (x0 x1 x5 x19 x22:V) (h:AH):Prop:=segAt Pg N252 B252 K252 [1,1,0,0,0] 2 1 [] (vcRet Pg R252 Q) [(0,x0),(1,x1),(5,x5),(19,x19),(22,x22)] h
theorem Jz2w_eq (Q:AEnd→AH→Prop) (x0 x1 x5 x16:V) (h:AH):Jz2w Q x0 x1 x5 x16 h=(
 vcIf x16 (
 Q (.ret (V.int .i64 0)) h) (
 bindV (still (aBin Pg .eql 3 x5 (V.int .i64 1) true) h) fun v7 h8 =>
 vcIf v7 (
 bindV (still (aIndex Pg 9 x1 (V.int .i64 0)) h8) fun v9 h10 =>
 ACalls Pg 289 [x0,v9] h10 (aEnd (fun v11 h12 =>
 Q (.ret v11) h12) fun v h=>Q (.panic v) h)) (
 bindV (aBuiltin Pg h8 .len [9] [x0]) fun v13 h14 =>
 bindV (still (aBin Pg .geq 3 x5 v13 false) h14) fun v15 h16 =>
 vcIf v15 (
 Q (.ret (V.int .i64 (-1))) h16) (
 bindV (aLoadV Pg h16 3 V.und) fun v17 h18 =>
 bindV (still (aBin Pg .leq 3 x5 v17 false) h18) fun v19 h20 =>
 vcG v19 true (
 bindV (aBuiltin Pg h20 .len [9] [x0]) fun v113 h114 =>
 bindV (still (aBin Pg .leq 3 v113 (V.int .i64 64) true) h114) fun v115 h116 =>
 Meet (Gz14 Q x0 x1 x5 v19 v115 h116)) (Meet (Gz14 Q x0 x1 x5 v19 hole h20)))))):=by kernel_rfl
theorem Gz13_eq (Q:AEnd→AH→Prop) (x0 x1 x5 x19 x22:V) (h:AH):Gz13 Q x0 x1 x5 x19 x22 h=(
 bindV (aPick x19 (V.bool true) x22 h) fun v5 h6 =>
 Meet (Jz2w Q x0 x1 x5 v5 h6)):=by kernel_rfl
theorem S252 (Q:AEnd→AH→Prop) (a0 a1:V) (h:AH):vc Pg N252 B252 K252 (vcRet Pg R252 Q) (initEnv 0 [a0,a1]) h=(
 bindV (aBuiltin Pg h .len [9] [a1]) fun v1 h2 =>
 bindV (still (aBin Pg .eql 3 v1 (V.int .i64 0) true) h2) fun v3 h4 =>
 vcG v3 false (
 bindV (still (aBin Pg .eql 9 a1 a0 false) h4) fun v117 h118 =>
 Meet (Gz13 Q a0 a1 v1 v3 v117 h118)) (Meet (Gz13 Q a0 a1 v1 v3 hole h4))):=by kernel_rfl
theorem C252 (Q:AEnd→AH→Prop) (a0 a1:V) (h:AH) (c :
 bindV (aBuiltin Pg h .len [9] [a1]) fun v1 h2 =>
 bindV (still (aBin Pg .eql 3 v1 (V.int .i64 0) true) h2) fun v3 h4 =>
 vcG v3 false (
 bindV (still (aBin Pg .eql 9 a1 a0 false) h4) fun v117 h118 =>
 Meet (Gz13 Q a0 a1 v1 v3 v117 h118)) (Meet (Gz13 Q a0 a1 v1 v3 hole h4))):ACalls Pg 252 [a0,a1] h Q :=
 acalls_of_vc okP Tryz.func252 (show Tryz.f252.body=some B252 from by kernel_rfl) K252 (by rw [← S252 Q a0 a1 h] at c;exact c)
noncomputable def B253:Code:=(Tryz.f253.body).getD .skip
def R253:List ResultVar:=[.tmp 4]
abbrev N253:Nat:=8
def K253:KT:=(.seq .leaf (.seq .leaf .leaf [4]) [0,1])
theorem S253 (Q:AEnd→AH→Prop) (a0 a1:V) (h:AH):vc Pg N253 B253 K253 (vcRet Pg R253 Q) (initEnv 0 [a0,a1]) h=(
 ACalls Pg 289 [a0,a1] h (aEnd (fun v1 h2 =>
 Q (.ret v1) h2) fun v h=>Q (.panic v) h)):=by kernel_rfl
theorem C253 (Q:AEnd→AH→Prop) (a0 a1:V) (h:AH) (c :
 ACalls Pg 289 [a0,a1] h (aEnd (fun v1 h2 =>
 Q (.ret v1) h2) fun v h=>Q (.panic v) h)):ACalls Pg 253 [a0,a1] h Q :=
 acalls_of_vc okP Tryz.func253 (show Tryz.f253.body=some B253 from by kernel_rfl) K253 (by rw [← S253 Q a0 a1 h] at c;exact c)
end Go.Proofs.YtcglbpjpbjaecaaGreat.Sh
namespace Go.Proofs.YtcglbpjpbjaecaaGreat.Sj
open Go Go.Ab Go.RowKit Go.Proofs
open Go.Proofs.YtcglbpjpbjaecaaGreat.Ru (Pg okP)
set_option maxRecDepth 100000
def ixRen:Go.Shelf.Ren:=⟨fun | 217=>289 | 266=>301 | n=>n,fun | 9=>9 | 5=>5 | 3=>3 | n=>n,fun n=>n⟩
theorem ixLay:Lays.n217 Tryz.prog ixRen:={
 mixed:=by kernel_rfl,
 f217:=Tryz.func289.trans (congrArg some (by kernel_rfl)),
 f266:=Tryz.func301.trans (congrArg some (by kernel_rfl)),
 t3:=Tryz.underlying3,
 a3:=Tryz.isAgg3,
 z3:=Tryz.sizeOf3,
 v3:=Tryz.zeroValue3,
 t5:=Tryz.underlying5,
 a5:=Tryz.isAgg5,
 z5:=Tryz.sizeOf5,
 v5:=Tryz.zeroValue5,
 t9:=Tryz.underlying9,
 a9:=Tryz.isAgg9,
 z9:=Tryz.sizeOf9,
 v9:=Tryz.zeroValue9 }
theorem idxP (s:List UInt8) (c:Int) (h:AH):ACalls Pg 289 [.str s,.int .u8 c] h (pureE (.int .i64 (Go.Lib.indexByte s c.toNat.toUInt8)) h):=by
 intro B ι W vs F r
 obtain ⟨v0,vs0,h0,r0,rfl⟩:=relL_cons_iff.1 r
 obtain ⟨v1,vs1,h1,r1,rfl⟩:=relL_cons_iff.1 r0
 simp only [relL] at r1
 subst r1
 obtain rfl:=rel_str h0
 obtain rfl:=rel_int h1
 refine Calls.mono (Any.stringslite_IndexByte ixLay ⟨s.toArray⟩ c W) ?_
 rintro e w' ⟨rfl,rfl⟩
 exact ⟨ι,h,.ret _,Names.le_refl _,F,mk_int _ _,rfl,rfl⟩
def cutAt (c:UInt8):List UInt8→List UInt8 × List UInt8 × Bool
 | []=>([],[],false)
 | b :: s=>if b=c then ([],s,true) else (b :: (cutAt c s).1,(cutAt c s).2.1,(cutAt c s).2.2)
theorem cut_idx (c:UInt8):∀ s:List UInt8,(Go.Lib.indexByte s c=-1∧cutAt c s=(s,[],false))∨∃ i:Nat,Go.Lib.indexByte s c=i∧i < s.length∧cutAt c s=(s.take i,s.drop (i + 1),true)
 | []=>.inl ⟨rfl,rfl⟩
 | b :: s=>by
   by_cases hb:b=c
   · subst hb
     exact .inr ⟨0,by simp [Go.Lib.indexByte],by simp,by simp [cutAt]⟩
   · rcases cut_idx c s with ⟨h1,h2⟩ | ⟨i,h1,h2,h3⟩
     · exact .inl ⟨by simp [Go.Lib.indexByte,hb,h1],by simp [cutAt,hb,h2]⟩
     · have hne:¬ ((i:Int)=-1):=by omega
       exact .inr ⟨i + 1,by simp [Go.Lib.indexByte,hb,h1,hne],by simp;omega,by simp [cutAt,hb,h3]⟩
theorem byteN (c:UInt8):((c.toNat:Nat):Int).toNat.toUInt8=c:=by simp
section
open Go.Proofs.YtcglbpjpbjaecaaGreat.Sh
theorem idx1 (s:List UInt8) (c:UInt8) (h:AH):ACalls Pg 252 [.str s,.str [c]] h (pureE (.int .i64 (Go.Lib.indexByte s c)) h):=by
 refine C252 _ _ _ _ ?_
 refine bindV_mk (len_str (by kernel_rfl)) ?_
 refine bindS_mk (b_eql_f (by simp)) ?_
 refine g_ff ?_
 refine bindS_mk (t_eql) ?_
 refine Meet.of (cast_p (Gz13_eq _ _ _ _ _ _ _) ?_)
 refine bindV_mk p_f ?_
 refine Meet.of (cast_p (Jz2w_eq _ _ _ _ _ _) ?_)
 refine i_split (fun cc=>?_) (fun cc=>?_)
 · replace cc:=eq_of_beq cc
   subst cc
   exact ⟨by simp [Go.Lib.indexByte],rfl⟩
 · replace cc:=ne_of_beq_false cc
   refine bindS_mk (b_eql_t (by simp)) ?_
   refine i_t ?_
   refine bindS_mk (ixS (b:=c) (by kernel_rfl) (by omega) rfl) ?_
   refine callS (idxP s c.toNat _) ?_
   exact ⟨by simp,rfl⟩
theorem cut190 (s:List UInt8) (c:UInt8) (hs:s.length≤4611686018427387904) (h:AH):ACalls Pg 190 [.str s,.str [c]] h (pureE (.tup [.str (cutAt c s).1,.str (cutAt c s).2.1,.bool (cutAt c s).2.2]) h):=by
 rcases cut_idx c s with ⟨hi,hc⟩ | ⟨i,hi,hl,hc⟩
 · rw [hc]
   refine C190 _ _ _ _ (callS (hi▸idx1 s c h) ?_)
   refine bindS_mk (b_geq_f (by omega)) (i_f (Meet.of ?_))
   rw [Jz2f_eq]
   exact ⟨rfl,rfl⟩
 · rw [hc]
   refine C190 _ _ _ _ (callS (hi▸idx1 s c h) ?_)
   refine bindS_mk (b_geq_t (by omega)) (i_t ?_)
   refine bindSO_mk (sl_str (by kernel_rfl) rfl (bnd_i (by omega)) (by omega) (by omega)) ?_
   refine bindVO_mk (len_str (by kernel_rfl)) ?_
   refine bindSO_mk (w_add (wrap_i64 (by simp only [List.length_cons,List.length_nil];omega) (by simp only [List.length_cons,List.length_nil];omega))) ?_
   refine bindSO_mk (sl_str (by kernel_rfl) (bnd_i (by omega)) rfl (by simp only [List.length_cons,List.length_nil];omega) (by omega)) ?_
   refine ⟨?_,rfl⟩
   have e1:((i:Int) + (([c].length:Nat):Int)).toNat=i + 1:=by simp
   rw [e1]
   simp only [Int.toNat_natCast,List.drop_zero,Nat.sub_zero]
   rw [List.take_of_length_le (l:=s.drop (i + 1)) (by simp)]
theorem cutP (s:List UInt8) (c:UInt8) (hs:s.length≤4611686018427387904) (h:AH):ACalls Pg 111 [.str s,.str [c]] h (pureE (.tup [.str (cutAt c s).1,.str (cutAt c s).2.1,.bool (cutAt c s).2.2]) h):=by
 refine C111 _ _ _ _ (callS (cut190 s c hs h) ?_)
 refine bindS_mk (show aExtract _ _=some _ from rfl) ?_
 refine bindS_mk (show aExtract _ _=some _ from rfl) ?_
 refine bindS_mk (show aExtract _ _=some _ from rfl) ?_
 exact ⟨rfl,rfl⟩
theorem idxB (s:List UInt8) (c:UInt8) (h:AH):ACalls Pg 253 [.str s,.int .u8 c.toNat] h (pureE (.int .i64 (Go.Lib.indexByte s c)) h):=by
 have:=idxP s c.toNat h
 rw [byteN] at this
 exact C253 _ _ _ _ (callS this ⟨rfl,rfl⟩)
end
end Go.Proofs.YtcglbpjpbjaecaaGreat.Sj
namespace Go.Proofs.YtcglbpjpbjaecaaGreat.Sh
open Go Go.Ab Go.RowKit
open Go.Proofs.YtcglbpjpbjaecaaGreat.Ru (Pg okP)
open Go.Proofs.YtcglbpjpbjaecaaGreat.Sj (cutAt cutP cut_idx idxB)
set_option maxRecDepth 10000
theorem wr_i32 {x:Int} (h1:-2147483648≤x) (h2:x < 2147483648):IntKind.i32.wrap x=x:=by
 have e:∀ x:Int,IntKind.i32.wrap x=(if (true && decide (x % 4294967296 ≥ 2147483648))=true then x % 4294967296 - 4294967296 else x % 4294967296):=fun _=>rfl
 rw [e,Bool.true_and]
 by_cases h:x % 4294967296 ≥ 2147483648
 · rw [if_pos (by rw [decide_eq_true_eq];exact h)];omega
 · rw [if_neg (by rw [decide_eq_true_eq];exact h)];omega
theorem wordP (s:List UInt8) (hs:s.length≤4611686018427387904) (h:AH):ACalls Pg 191 [.str s] h (pureE (.tup [.str (cutAt 32 s).1,.str (cutAt 32 s).2.1]) h):=by
 refine C191 _ _ _ (callS (cutP s 32 hs h) ?_)
 refine bindS_mk (show aExtract _ _=some _ from rfl) ?_
 refine bindS_mk (show aExtract _ _=some _ from rfl) ?_
 refine bindS_mk (show aExtract _ _=some _ from rfl) ?_
 exact ⟨rfl,rfl⟩
theorem eventsP (h:AH):ACalls Pg 192 [] h fun e h'=>e=.ret (.slc (some (⟨h.next,.row 9,[]⟩,0)) 7)∧New h h' (.cells true (.row 9) (.agg (kindNames.map .str))):=by
 refine C192 _ _ ?_
 refine bindE (bs_at (e:=9) (z:=.str []) (l:=kindNames.map .str) (by kernel_rfl) (by kernel_rfl) (by kernel_rfl)) fun h1 u1=>?_
 exact ⟨rfl,u1⟩
theorem nextS_mk {h:AH} {n:Nat} {ty:BTy} {s:List UInt8} {pos:Nat} {b:UInt8} {K:V→AH→Prop} (hm:h.m n=some (.sit s pos)) (hb:s[pos]?=some b)
   (k:∀ r w:Nat,(b.toNat < 128→r=b.toNat∧w=1)→(128≤b.toNat→128≤r)→r≤2147483647→K (.tup [.bool true,.int .i64 pos,.int .i32 r]) (h.put n (.sit s (pos + w)))):vcNextS (.ptr (some ⟨n,ty,[]⟩)) h K:=by
 obtain ⟨hp,hx⟩:=List.getElem?_eq_some_iff.1 hb
 have hsz:pos < (⟨s.toArray⟩:ByteArray).size:=by simpa [ByteArray.size] using hp
 have hg:(⟨s.toArray⟩:ByteArray)[pos]'hsz=b:=by
   show (s.toArray)[pos]'_=b
   simpa using hx
 simp only [vcNextS,hm]
 refine ⟨trivial,fun _=>?_,fun h=>by omega⟩
 refine k _ _ (fun h1=>?_) (fun h1=>?_) (Go.decode_le _ _)
 · have:=Go.Ab.decode_ascii (s:=s) (pos:=pos) hb h1
   rw [this];exact ⟨rfl,rfl⟩
 · exact (Go.decode_high _ _ hsz (by rw [hg];exact h1)).1
theorem endS_mk {h:AH} {n:Nat} {ty:BTy} {s:List UInt8} {pos:Nat} {K:V→AH→Prop} (hm:h.m n=some (.sit s pos)) (hp:s.length≤pos) (k:K (.tup [.bool false]) h):vcNextS (.ptr (some ⟨n,ty,[]⟩)) h K:=by
 simp only [vcNextS,hm]
 exact ⟨trivial,fun h=>by omega,fun _=>k⟩
def rdL:Nat→List UInt8→Nat × Bool
 | n,[]=>(n,decide (n < 2147483648))
 | n,c :: s=>if c.toNat < 48∨57 < c.toNat then (0,false) else rdL (n * 10 + (c.toNat - 48)) s
def readT (s:List UInt8):Nat × Bool:=if s.length=0∨10 < s.length∨(1 < s.length∧s.head?=some 48) then (0,false) else rdL 0 s
def rdV (x:Nat × Bool):V:=.tup [.int .u64 x.1,.bool x.2]
section
variable {q:AEnd→Prop}
theorem drop_at {s:List UInt8} {i:Nat} {b:UInt8} (h:s[i]?=some b):s.drop i=b :: s.drop (i + 1):=by
 obtain ⟨h1,h2⟩:=List.getElem?_eq_some_iff.1 h
 rw [List.drop_eq_getElem_cons h1,h2]
theorem loop193 (s:List UInt8) (hs:s.length≤10):∀ (k pos n:Nat) (h:AH) (m a:Nat),s.length - pos=k→k < m→n < 10 ^ pos→pos≤s.length→h.m a=some (.sit s pos)→q (.ret (rdV (rdL n (s.drop pos))))→Lz3v (fun e _=>q e) m (.int .u64 n) (itV a) h:=by
 intro k
 induction k with
 | zero =>
   intro pos n h m a hk hm hn hp hit c
   obtain ⟨m,rfl⟩:∃ j,m=j + 1:=⟨m - 1,by omega⟩
   rw [Lz3v_eq]
   refine endS_mk hit (by omega) ?_
   refine bindS_mk (show aExtract _ _=some _ from rfl) (i_f ?_)
   refine Meet.of ?_
   rw [Jz2l_eq]
   refine bindS_mk (b_lss) ?_
   rw [List.drop_of_length_le (by omega),rdL] at c;have e:decide ((n:Int) < 2147483648)=decide (n < 2147483648):=by by_cases h:n < 2147483648 <;> simp [h] <;> omega
   rw [e];exact c
 | succ k ih =>
   intro pos n h m a hk hm hn hp hit c
   obtain ⟨m,rfl⟩:∃ j,m=j + 1:=⟨m - 1,by omega⟩
   obtain ⟨b,hb⟩:∃ b,s[pos]?=some b:=⟨s[pos]'(by omega),List.getElem?_eq_getElem (by omega)⟩
   have hn9:n < 1000000000:=Nat.lt_of_lt_of_le hn (Nat.pow_le_pow_right (show 10 > 0 by omega) (show pos≤9 by omega))
   have ih:=fun pos n h m a h1 h2 h3 h4 h5 c=>ih pos n h m a h1 h2 h3 h4 h5 c
   rw [Lz3v_eq]
   refine nextS_mk hit hb fun r w hr1 hr2 hr3=>?_
   refine bindS_mk (show aExtract _ _=some _ from rfl) (i_t ?_)
   refine Meet.of ?_
   rw [Jz2i_eq]
   refine bindS_mk (show aExtract _ _=some _ from rfl) ?_
   refine bindS_mk (b_lss) ?_
   refine g_split_f (fun c1=>?_) (fun c1=>?_)
   · try rw [c1]
     replace c1:=of_decide_eq_false c1
     refine bindS_mk (b_gtr) ?_
     refine Meet.of (cast_p (Gzz_eq _ _ _ _ _ _ _ _) ?_)
     refine bindV_mk p_f ?_
     refine Meet.of (cast_p (Jz2j_eq _ _ _ _ _ _ _) ?_)
     refine i_split (fun c2=>?_) (fun c2=>?_)
     · try rw [c2]
       replace c2:=of_decide_eq_true c2
       have hd:s.drop pos=b :: s.drop (pos + 1):=drop_at hb
       rw [hd,rdL,if_pos (by omega)] at c
       exact c
     · try rw [c2]
       replace c2:=of_decide_eq_false c2
       refine Meet.of (cast_p (Jz2k_eq _ _ _ _ _ _) ?_)
       first | refine bindS_mk (w_mul (by first | exact wrap_i64 (by omega) (by omega) | exact wr_u8 (by omega) (by omega) | exact wr_u16 (by omega) (by omega) | exact wr_u32 (by omega) (by omega) | exact wr_u64 (by omega) (by omega))) ?_ | refine bindS_mk (b_mul) ?_
       refine bindS_mk (w_sub (wr_i32 (by omega) (by omega))) ?_
       refine bindS_mk (cv_wr (d:=49) (k:=.u64) (by kernel_rfl) (wr_u64 (by omega) (by omega))) ?_
       first | refine bindS_mk (w_add (by first | exact wrap_i64 (by omega) (by omega) | exact wr_u8 (by omega) (by omega) | exact wr_u16 (by omega) (by omega) | exact wr_u32 (by omega) (by omega) | exact wr_u64 (by omega) (by omega))) ?_ | refine bindS_mk (b_add) ?_
       have hlt:b.toNat < 128:=by rcases Nat.lt_or_ge b.toNat 128 with h1 | h1;exact h1;exact absurd (hr2 h1) (by omega)
       obtain ⟨e1,e2⟩:=hr1 hlt
       subst e1;subst e2
       have hd:s.drop pos=b :: s.drop (pos + 1):=drop_at hb
       rw [hd,rdL,if_neg (by omega)] at c
       refine Meet.of ((congrArg (fun x:Int=>Lz3v (fun e _=>q e) m (.int .u64 x) (itV a) _) (show (n:Int) * 10 + ((b.toNat:Int) - 48)=((n * 10 + (b.toNat - 48):Nat):Int) by omega)).mpr (ih (pos + 1) _ _ m a (by omega) (by omega) ?_ (by omega) (by rw [put_m,if_pos rfl]) c))
       rw [Nat.pow_succ];omega
   · try rw [c1]
     replace c1:=of_decide_eq_true c1
     refine Meet.of (cast_p (Gzz_eq _ _ _ _ _ _ _ _) ?_)
     refine bindV_mk p_t ?_
     refine Meet.of (cast_p (Jz2j_eq _ _ _ _ _ _ _) ?_)
     refine i_t ?_
     have hd:s.drop pos=b :: s.drop (pos + 1):=drop_at hb
     rw [hd,rdL,if_pos (by omega)] at c
     exact c
end
theorem readP (s:List UInt8) (h:AH):ACalls Pg 193 [.str s] h (pureE (rdV (readT s)) h):=by
 refine pure_lift (by rfl) rfl ?_ h
 cases s with
 | nil =>
   refine C193 _ _ _ ?_
   refine bindS_mk t_eql ?_
   refine g_tf ?_
   refine Meet.of (cast_p (Gzv_eq _ _ _ _ _) ?_)
   refine bindV_mk p_t ?_
   refine g_tf ?_
   refine Meet.of (cast_p (Gzw_eq _ _ _ _ _) ?_)
   refine g_hole ?_
   refine Meet.of (cast_p (Gzx_eq _ _ _ _ _ _) ?_)
   refine g_tf ?_
   refine Meet.of (cast_p (Gzy_eq _ _ _ _ _) ?_)
   refine bindV_mk p_t ?_
   refine Meet.of (cast_p (Jz2g_eq _ _ _ _) ?_)
   refine i_t ?_
   rfl
 | cons b0 s0 =>
   obtain ⟨s,hs⟩:∃ s,s=b0 :: s0:=⟨_,rfl⟩
   rw [← hs]
   have hb0:s[0]?=some b0:=by rw [hs];rfl
   have hd0:s.head?=some b0:=by rw [hs];rfl
   have hl0:1≤s.length:=by rw [hs];simp
   have he:(s.head?=some 48)=(b0.toNat=48):=by rw [hd0];exact propext ⟨fun h=>by cases h;rfl,fun h=>congrArg some (UInt8.toNat_inj.1 h)⟩
   clear hs
   refine C193 _ _ _ ?_
   refine bindS_mk (t_eql) ?_
   refine g_split_f (fun c1=>?_) (fun c1=>?_)
   · try rw [c1]
     replace c1:=ne_of_beq_false c1
     refine bindV_mk (len_str (by kernel_rfl)) ?_
     refine bindS_mk (b_gtr) ?_
     refine Meet.of (cast_p (Gzv_eq _ _ _ _ _) ?_)
     refine bindV_mk p_f ?_
     refine g_split_f (fun c2=>?_) (fun c2=>?_)
     · try rw [c2]
       replace c2:=of_decide_eq_false c2
       refine bindV_mk (len_str (by kernel_rfl)) ?_
       refine bindS_mk (b_gtr) ?_
       refine Meet.of (cast_p (Gzw_eq _ _ _ _ _) ?_)
       refine g_split_t (fun c3=>?_) (fun c3=>?_)
       · try rw [c3]
         replace c3:=of_decide_eq_true c3
         refine bindS_mk (ixS (b:=b0) (by kernel_rfl) (by omega) (by simpa using hb0)) ?_
         refine bindS_mk (b_eql) ?_
         refine Meet.of (cast_p (Gzx_eq _ _ _ _ _ _) ?_)
         refine g_ff ?_
         refine bindV_mk p_t ?_
         refine Meet.of (cast_p (Gzy_eq _ _ _ _ _) ?_)
         refine bindV_mk p_f ?_
         refine Meet.of (cast_p (Jz2g_eq _ _ _ _) ?_)
         refine i_split (fun c4=>?_) (fun c4=>?_)
         · try rw [c4]
           replace c4:=eq_of_beq c4
           rw [readT,if_pos (by rw [he];first | omega | (left;rw [c1];rfl))];rfl
         · try rw [c4]
           replace c4:=ne_of_beq_false c4
           refine Meet.of (cast_p (Jz2h_eq _ _ _) ?_)
           have hul:ul Pg 9=some .string:=by kernel_rfl
           refine ⟨hul,s.length + 1,Meet.of ?_⟩
           refine loop193 (q:=fun e=>e=.ret (rdV (readT s))) s (by omega) s.length 0 0 _ (s.length + 1) _ (by omega) (by omega) (by omega) (by omega) (by rw [make_m,if_pos rfl]) ?_
           rw [readT,if_neg (by rw [he];omega)];rfl
       · try rw [c3]
         replace c3:=of_decide_eq_false c3
         refine Meet.of (cast_p (Gzx_eq _ _ _ _ _ _) ?_)
         refine g_ff ?_
         refine bindV_mk p_f ?_
         refine Meet.of (cast_p (Gzy_eq _ _ _ _ _) ?_)
         refine bindV_mk p_f ?_
         refine Meet.of (cast_p (Jz2g_eq _ _ _ _) ?_)
         refine i_f ?_
         refine Meet.of (cast_p (Jz2h_eq _ _ _) ?_)
         have hul:ul Pg 9=some .string:=by kernel_rfl
         refine ⟨hul,s.length + 1,Meet.of ?_⟩
         refine loop193 (q:=fun e=>e=.ret (rdV (readT s))) s (by omega) s.length 0 0 _ (s.length + 1) _ (by omega) (by omega) (by omega) (by omega) (by rw [make_m,if_pos rfl]) ?_
         rw [readT,if_neg (by rw [he];omega)];rfl
     · try rw [c2]
       replace c2:=of_decide_eq_true c2
       refine Meet.of (cast_p (Gzw_eq _ _ _ _ _) ?_)
       refine g_hole ?_
       refine Meet.of (cast_p (Gzx_eq _ _ _ _ _ _) ?_)
       refine g_tf ?_
       refine Meet.of (cast_p (Gzy_eq _ _ _ _ _) ?_)
       refine bindV_mk p_t ?_
       refine Meet.of (cast_p (Jz2g_eq _ _ _ _) ?_)
       refine i_t ?_
       rw [readT,if_pos (by rw [he];first | omega | (left;rw [c1];rfl))];rfl
   · try rw [c1]
     replace c1:=eq_of_beq c1
     refine Meet.of (cast_p (Gzv_eq _ _ _ _ _) ?_)
     refine bindV_mk p_t ?_
     refine g_tf ?_
     refine Meet.of (cast_p (Gzw_eq _ _ _ _ _) ?_)
     refine g_hole ?_
     refine Meet.of (cast_p (Gzx_eq _ _ _ _ _ _) ?_)
     refine g_tf ?_
     refine Meet.of (cast_p (Gzy_eq _ _ _ _ _) ?_)
     refine bindV_mk p_t ?_
     refine Meet.of (cast_p (Jz2g_eq _ _ _ _) ?_)
     refine i_t ?_
     rw [readT,if_pos (by rw [he];first | omega | (left;rw [c1];rfl))];rfl
end Go.Proofs.YtcglbpjpbjaecaaGreat.Sh
namespace Go.Proofs.YtcglbpjpbjaecaaGreat.Sh
open Go Go.Ab Go.RowKit
open Go.Proofs.YtcglbpjpbjaecaaGreat.Ru (Pg okP)
open Go.Proofs.YtcglbpjpbjaecaaGreat.Sj (cutAt cutP cut_idx idxB)
set_option maxRecDepth 10000
def ix16 (b:UInt8):Int:=Go.Lib.indexByte lit16 b
theorem ix16_or (b:UInt8):ix16 b=-1∨(0≤ix16 b∧ix16 b < 16):=by
 rcases cut_idx b lit16 with ⟨h,_⟩ | ⟨i,h,hl,_⟩
 · exact .inl h
 · have:lit16.length=16:=rfl
   unfold ix16;omega
theorem ixP (b:UInt8) (h:AH):ACalls Pg 253 [.str lit16,.int .u8 b.toNat] h (pureE (.int .i64 (ix16 b)) h):=idxB lit16 b h
def bkL:List UInt8→List UInt8→List UInt8 × Bool
 | a :: b :: s,out=>if ix16 a < 0∨ix16 b < 0 then ([],false) else bkL s (out++[UInt8.ofNat (ix16 a * 16 + ix16 b).toNat])
 | _,out=>(out,true)
def backT (s:List UInt8):List UInt8 × Bool:=if s=[45] then ([],true) else if s.length=0∨s.length % 2≠0∨128 < s.length then ([],false) else bkL s []
def bkV (x:List UInt8 × Bool):V:=.tup [.str x.1,.bool x.2]
theorem bkL_len:∀ (k:Nat) (s out:List UInt8),s.length≤k→(bkL s out).1.length≤out.length + s.length
 | 0,s,out,h=>by
   have:s=[]:=List.length_eq_zero_iff.1 (by omega)
   subst this;simp [bkL]
 | k + 1,[],out,h=>by simp [bkL]
 | k + 1,[a],out,h=>by simp [bkL]
 | k + 1,a :: b :: s,out,h=>by
   rw [bkL]
   split
   · simp
   · have:=bkL_len k s (out++[UInt8.ofNat (ix16 a * 16 + ix16 b).toNat]) (by simp at h;omega)
     simp at this ⊢;omega
theorem or16:((List.range 16).all fun h=>(List.range 16).all fun l=>decide (bitI .or .i64 ((h * 16:Nat):Int) (l:Nat)=((h * 16 + l:Nat):Int)))=true:=by kernel_rfl
theorem orP {t:TypeId} {x y:Int} {c:Bool} (h0:0≤x) (h1:x < 16) (k0:0≤y) (k1:y < 16):aBin Pg .or t (.int .i64 (x * 16)) (.int .i64 y) c=some (.int .i64 (x * 16 + y)):=by
 rw [b_or]
 have h:=List.all_eq_true.1 or16 x.toNat (List.mem_range.2 (by omega))
 have h:=List.all_eq_true.1 h y.toNat (List.mem_range.2 (by omega))
 have h:=of_decide_eq_true h
 have e1:((x.toNat * 16:Nat):Int)=x * 16:=by omega
 have e2:((y.toNat:Nat):Int)=y:=by omega
 have e3:((x.toNat * 16 + y.toNat:Nat):Int)=x * 16 + y:=by omega
 rw [e1,e2,e3] at h
 rw [h]
theorem shl4 {t:TypeId} {x:Int} {c:Bool} (h0:0≤x) (h1:x < 16):aBin Pg .shl t (.int .i64 x) (.int .u64 4) c=some (.int .i64 (x * 16)):=by
 rw [b_shl (by omega)]
 have e:shlI .i64 x 4=IntKind.i64.wrap (x * 16):=rfl
 rw [e,wrap_i64 (by omega) (by omega)]
section
variable {q:AEnd→Prop}
theorem loop194 (s:List UInt8) (hs:s.length≤128) (he:s.length % 2=0):∀ (k i:Nat) (x:V) (h:AH) (m:Nat) (out:List UInt8),i≤s.length→i % 2=0→s.length - i≤2 * k→k < m→out.length≤i→BufB 5 h x out→q (.ret (bkV (bkL (s.drop i) out)))→Lz3w (fun e _=>q e) m (.str s) x (.int .i64 i) h:=by
 intro k
 induction k with
 | zero =>
   intro i x h m out hi hi2 hk hm ho hB c
   obtain ⟨m,rfl⟩:∃ j,m=j + 1:=⟨m - 1,by omega⟩
   rw [Lz3w_eq]
   refine bindV_mk (len_str (by kernel_rfl)) ?_
   refine bindS_mk (b_lss) ?_
   refine i_split (fun c1=>?_) (fun c1=>?_)
   · try rw [c1]
     replace c1:=of_decide_eq_true c1
     exfalso;omega
   · try rw [c1]
     replace c1:=of_decide_eq_false c1
     refine Meet.of (cast_p (Jz2t_eq _ _ _) ?_)
     refine bindS_mk (hB.str (d:=9) (by kernel_rfl)) ?_
     rw [List.drop_of_length_le (by omega)] at c;exact c
 | succ k ih =>
   intro i x h m out hi hi2 hk hm ho hB c
   obtain ⟨m,rfl⟩:∃ j,m=j + 1:=⟨m - 1,by omega⟩
   rw [Lz3w_eq]
   refine bindV_mk (len_str (by kernel_rfl)) ?_
   refine bindS_mk (b_lss) ?_
   refine i_split (fun c1=>?_) (fun c1=>?_)
   · try rw [c1]
     replace c1:=of_decide_eq_true c1
     obtain ⟨a,ha⟩:∃ b,s[i]?=some b:=⟨s[i]'(by omega),List.getElem?_eq_getElem (by omega)⟩
     obtain ⟨b,hb⟩:∃ b,s[i + 1]?=some b:=⟨s[i + 1]'(by omega),List.getElem?_eq_getElem (by omega)⟩
     have ka:=ix16_or a
     have kb:=ix16_or b
     have hd:s.drop i=a :: b :: s.drop (i + 2):=by rw [drop_at ha,drop_at hb]
     refine Meet.of (cast_p (Jz2p_eq _ _ _ _ _ _) ?_)
     refine bindSO_mk (ixS (by kernel_rfl) (by omega) (show s[((i:Nat):Int).toNat]?=some a from ha)) ?_
     refine ⟨_,ixP a _,?_⟩
     first | refine bindSO_mk (w_add (by first | exact wrap_i64 (by omega) (by omega) | exact wr_u8 (by omega) (by omega) | exact wr_u16 (by omega) (by omega) | exact wr_u32 (by omega) (by omega) | exact wr_u64 (by omega) (by omega))) ?_ | refine bindSO_mk (b_add) ?_
     refine bindSO_mk (ixS (by kernel_rfl) (by omega) (by rw [show (((i:Nat):Int) + 1).toNat=i + 1 by omega];exact hb)) ?_
     refine ⟨_,ixP b _,?_⟩
     refine bindS_mk ((show aBin Pg .lss 3 (.int .i64 (ix16 a)) (.int .i64 0) true=_ from b_lss)) ?_
     refine g_split_f (fun c2=>?_) (fun c2=>?_)
     · try rw [c2]
       replace c2:=of_decide_eq_false c2
       refine bindS_mk ((show aBin Pg .lss 3 (.int .i64 (ix16 b)) (.int .i64 0) true=_ from b_lss)) ?_
       refine Meet.of (cast_p (Gz12_eq _ _ _ _ _ _ _ _ _ _) ?_)
       refine bindV_mk p_f ?_
       refine Meet.of (cast_p (Jz2q_eq _ _ _ _ _ _ _ _ _) ?_)
       refine i_split (fun c3=>?_) (fun c3=>?_)
       · try rw [c3]
         replace c3:=of_decide_eq_true c3
         rw [hd,bkL,if_pos (by omega)] at c;exact c
       · try rw [c3]
         replace c3:=of_decide_eq_false c3
         refine Meet.of (cast_p (Jz2r_eq _ _ _ _ _ _ _ _) ?_)
         refine bindS_mk (shl4 (by omega) (by omega)) ?_
         refine bindS_mk (orP (by omega) (by omega) (by omega) (by omega)) ?_
         refine bindS_mk (cv_wr (d:=5) (k:=.u8) (by kernel_rfl) (wr_u8 (by omega) (by omega))) ?_
         refine bindE (bs1_at (e:=5) (by kernel_rfl) z5 (by kernel_rfl)) fun h4 u4=>?_
         have n4:=u4.next
         have f4_4:=u4.at_
         obtain ⟨v,h5,e5,B,hn5,_⟩:=(hB.keep (by omega) (fun k hk=>u4.other k hk)).app (w:=[UInt8.ofNat (ix16 a * 16 + ix16 b).toNat]) ap207 b5 ((elems_row f4_4).trans (byte1 (by omega) (by omega))) (by simp) (by simp;omega)
         refine bindV_mk (e5) ?_
         refine Meet.of (cast_p (Jz2s_eq _ _ _ _ _ _) ?_)
         first | refine bindS_mk (w_add (by first | exact wrap_i64 (by omega) (by omega) | exact wr_u8 (by omega) (by omega) | exact wr_u16 (by omega) (by omega) | exact wr_u32 (by omega) (by omega) | exact wr_u64 (by omega) (by omega))) ?_ | refine bindS_mk (b_add) ?_
         refine Meet.of ((congrArg (fun x:Int=>Lz3w (fun e _=>q e) m (.str s) v (.int .i64 x) _) (show ((i:Nat):Int) + 2=((i + 2:Nat):Int) by omega)).mpr (ih (i + 2) _ _ m _ (by omega) (by omega) (by omega) (by omega) (by simp;omega) B ?_))
         rw [hd,bkL,if_neg (by omega)] at c;exact c
     · try rw [c2]
       replace c2:=of_decide_eq_true c2
       refine Meet.of (cast_p (Gz12_eq _ _ _ _ _ _ _ _ _ _) ?_)
       refine bindV_mk p_t ?_
       refine Meet.of (cast_p (Jz2q_eq _ _ _ _ _ _ _ _ _) ?_)
       refine i_t ?_
       rw [hd,bkL,if_pos (by omega)] at c;exact c
   · try rw [c1]
     replace c1:=of_decide_eq_false c1
     refine Meet.of (cast_p (Jz2t_eq _ _ _) ?_)
     refine bindS_mk (hB.str (d:=9) (by kernel_rfl)) ?_
     rw [List.drop_of_length_le (by omega)] at c;exact c
end
theorem backP (s:List UInt8) (h:AH):ACalls Pg 194 [.str s] h (pureE (bkV (backT s)) h):=by
 refine pure_lift (by rfl) rfl ?_ h
 refine C194 _ _ _ ?_
 refine bindS_mk (t_eql) ?_
 refine i_split (fun c1=>?_) (fun c1=>?_)
 · try rw [c1]
   replace c1:=eq_of_beq c1
   rw [backT,if_pos c1];rfl
 · try rw [c1]
   replace c1:=ne_of_beq_false c1
   refine Meet.of (cast_p (Jz2m_eq _ _ _) ?_)
   have h45:s≠[45]:=c1
   refine bindS_mk (t_eql) ?_
   refine g_split_f (fun c2=>?_) (fun c2=>?_)
   · try rw [c2]
     replace c2:=ne_of_beq_false c2
     refine bindV_mk (len_str (by kernel_rfl)) ?_
     first | refine bindS_mk (w_rem (by omega) (by omega)) ?_ | refine bindS_mk (b_rem (by decide)) ?_
     refine bindS_mk (b_neq) ?_
     refine Meet.of (cast_p (Gz10_eq _ _ _ _ _) ?_)
     refine bindV_mk p_f ?_
     refine g_split_f (fun c3=>?_) (fun c3=>?_)
     · try rw [c3]
       replace c3:=eq_of_bne_false c3
       refine bindV_mk (len_str (by kernel_rfl)) ?_
       refine bindS_mk (b_gtr) ?_
       refine Meet.of (cast_p (Gz11_eq _ _ _ _ _) ?_)
       refine bindV_mk p_f ?_
       refine Meet.of (cast_p (Jz2n_eq _ _ _ _) ?_)
       refine i_split (fun c4=>?_) (fun c4=>?_)
       · try rw [c4]
         replace c4:=of_decide_eq_true c4
         rw [backT,if_neg h45,if_pos (by first | omega | (left;simp [*]))];rfl
       · try rw [c4]
         replace c4:=of_decide_eq_false c4
         refine Meet.of (cast_p (Jz2o_eq _ _ _) ?_)
         have hl0:s.length≠0:=fun e=>absurd (List.length_eq_zero_iff.1 e) (by assumption)
         have hc:¬ (s.length=0∨s.length % 2≠0∨128 < s.length):=by omega
         exact ⟨s.length + 1,Meet.of (loop194 (q:=fun e=>e=.ret (bkV (backT s))) s (by omega) (by omega) s.length 0 _ _ _ [] (by omega) (by omega) (by omega) (by omega) (by simp) (.inl ⟨rfl,rfl⟩) (by rw [backT,if_neg h45,if_neg hc];rfl))⟩
     · try rw [c3]
       replace c3:=ne_of_bne c3
       refine Meet.of (cast_p (Gz11_eq _ _ _ _ _) ?_)
       refine bindV_mk p_t ?_
       refine Meet.of (cast_p (Jz2n_eq _ _ _ _) ?_)
       refine i_t ?_
       rw [backT,if_neg h45,if_pos (by first | omega | (left;simp [*]))];rfl
   · try rw [c2]
     replace c2:=eq_of_beq c2
     refine Meet.of (cast_p (Gz10_eq _ _ _ _ _) ?_)
     refine bindV_mk p_t ?_
     refine g_tf ?_
     refine Meet.of (cast_p (Gz11_eq _ _ _ _ _) ?_)
     refine bindV_mk p_t ?_
     refine Meet.of (cast_p (Jz2n_eq _ _ _ _) ?_)
     refine i_t ?_
     rw [backT,if_neg h45,if_pos (by first | omega | (left;simp [*]))];rfl
end Go.Proofs.YtcglbpjpbjaecaaGreat.Sh
namespace Go.Proofs.YtcglbpjpbjaecaaGreat.Sh
open Go Go.Ab Go.RowKit
open Go.Proofs.YtcglbpjpbjaecaaGreat.Ru (Pg okP)
set_option maxRecDepth 10000
def KeepB (h:AH) (k:V) (l:List Bool):Prop :=
 (k=.slc none 0∧l=[])∨∃ n,n < h.next∧k=.slc (some (⟨n,.row 4,[]⟩,0)) l.length∧h.m n=some (.cells true (.row 4) (.agg (boolsV l)))
theorem KeepB.shape {h:AH} {k:V} {l:List Bool} (b:KeepB h k l):∃ a,k=.slc a l.length:=by
 rcases b with ⟨rfl,rfl⟩ | ⟨n,_,rfl,_⟩ <;> exact ⟨_,rfl⟩
theorem KeepB.keep {h h':AH} {k:V} {l:List Bool} (b:KeepB h k l) (hn:h.next≤h'.next) (hk:∀ n,n < h.next→h'.m n=h.m n):KeepB h' k l:=by
 rcases b with ⟨rfl,rfl⟩ | ⟨n,h1,rfl,h3⟩
 · exact .inl ⟨rfl,rfl⟩
 · exact .inr ⟨n,by omega,rfl,(hk n h1).trans h3⟩
def Ends (v:V) (h0:AH):AEnd→AH→Prop:=fun e h'=>e=.ret v∧∀ n,n < h0.next→h'.m n=h0.m n
def rowV (k:Nat):V:=.agg [.str (nameOf k),.bool (fTxn k),.bool (fPage k),.bool (fOff k),.bool (fOff k)]
theorem getRow {k:Nat} (h:k < 8):getV (.agg callV) [0 + (k:Int).toNat]=some (rowV k):=by
 have:∀ y:Fin 8,getV (.agg callV) [0 + (y.val:Int).toNat]=some (rowV y.val):=by
   intro y
   match y with
   | ⟨0,_⟩=>rfl
   | ⟨1,_⟩=>rfl
   | ⟨2,_⟩=>rfl
   | ⟨3,_⟩=>rfl
   | ⟨4,_⟩=>rfl
   | ⟨5,_⟩=>rfl
   | ⟨6,_⟩=>rfl
   | ⟨7,_⟩=>rfl
 exact this ⟨k,h⟩
theorem getKind {k:Nat} (h:k < 7):getV (.agg (kindNames.map V.str)) [0 + (k:Int).toNat]=some (.str (kindName k)):=by
 have:∀ y:Fin 7,getV (.agg (kindNames.map V.str)) [0 + (y.val:Int).toNat]=some (.str (kindName y.val)):=by
   intro y
   match y with
   | ⟨0,_⟩=>rfl
   | ⟨1,_⟩=>rfl
   | ⟨2,_⟩=>rfl
   | ⟨3,_⟩=>rfl
   | ⟨4,_⟩=>rfl
   | ⟨5,_⟩=>rfl
   | ⟨6,_⟩=>rfl
 exact this ⟨k,h⟩
theorem kindName_len (k:Nat):(kindName k).length≤10:=by
 by_cases h:k < 7
 · have:∀ y:Fin 7,(kindName y.val).length≤10:=by decide +kernel
   exact this ⟨k,h⟩
 · unfold kindName;rw [List.getD_eq_getElem?_getD,List.getElem?_eq_none (by show 7≤k;omega)];decide
def pTxn (e:Ev):List UInt8:=if fTxn e.ck then 32 :: dec e.txn else []
def pPage (e:Ev):List UInt8:=if fPage e.ck then 32 :: dec e.page else []
def pOff (e:Ev):List UInt8:=if fOff e.ck then 32 :: (dec e.off.toNat++32 :: hexS e.s) else []
theorem numN (n:Nat) (hn:n < 18446744073709551616) (h:AH):ACalls Pg 117 [.int .u64 n] h (pureE (.str (dec n)) h):=numP n (by omega) (by omega) h
section
variable (e:Ev) (ok:e.ok) {v:V} {h0:AH} {n1 n6 n8:Nat} {h:AH} {k:V}
include ok
theorem st3 (s:List UInt8) (hs:s.length≤500) (h64:e.s.length≤64) (ho:0≤e.off) (hv:.tup [.str (s++pOff e),.bool true]=v) (hn:h0.next≤h.next) (fr:∀ n,n < h0.next→h.m n=h0.m n) (hm6:h.m n6=some (.cells true (.one 57) (cV e))) (hn6:n6 < h.next∧h0.next≤n6) (hm8:h.m n8=some (.cells true (.one 225) (rowV e.ck))) (hn8:n8 < h.next∧h0.next≤n8):Jz28 (Ends v h0) (.str s) (.ptr (some ⟨n6,.one 57,[]⟩)) (.ptr (some ⟨n8,.one 225,[]⟩)) h:=by
 have k1:=ok.kind;have k2:=ok.a;have k3:=ok.b;have k4:=ok.ck;have k5:=ok.txn;have k6:=ok.page;have k7:=ok.off;have k8:=ok.s;have k9:=ok.keep
 rw [Jz28_eq]
 refine bindS_mk (fa_mk (by kernel_rfl)) ?_
 refine bindV_mk (ld_mk hm8 (by kernel_rfl) rfl) ?_
 refine i_split (fun c1=>?_) (fun c1=>?_)
 · try rw [c1]
   refine bindSO_mk (fa_mk (by kernel_rfl)) ?_
   refine bindVO_mk (ld_mk hm6 (by kernel_rfl) rfl) ?_
   refine bindSO_mk (cv_wr (d:=49) (k:=.u64) (by kernel_rfl) (wr_u64 (by omega) (by omega))) ?_
   refine ⟨_,numP _ (by omega) (by omega) _,?_⟩
   refine bindSO_mk (fa_mk (by kernel_rfl)) ?_
   refine bindVO_mk (ld_mk hm6 (by kernel_rfl) rfl) ?_
   refine ⟨_,bytesP _ (by omega) _,?_⟩
   refine bindE (bs3_at (e:=9) (by kernel_rfl) z9 (by kernel_rfl) (by kernel_rfl) (by kernel_rfl)) fun h2 u2=>?_
   have n2:=u2.next
   have fFR_2:=fun k (hk:k < h0.next)=>(u2.other k (by omega)).trans (fr k hk)
   have fX6_2:=(u2.other _ (by omega)).trans hm6
   have fX8_2:=(u2.other _ (by omega)).trans hm8
   have f2_2:=u2.at_
   refine ⟨_,wordsP _ _ [s,dec e.off.toNat,hexS e.s] _ f2_2 (by simp) (by simp) (by rw [jn3];have l1:=hexS_len e.s;have l2:=dec_len20 (n:=e.off.toNat) (by omega);simp;omega),?_⟩
   refine Meet.of (cast_p (Jz2e_eq _ _ _) ?_)
   refine ⟨congrArg AEnd.ret ?_,fFR_2⟩
   rw [← hv,pOff];simp [*,jn3,jn2]
 · try rw [c1]
   refine Meet.of (cast_p (Jz2e_eq _ _ _) ?_)
   refine ⟨congrArg AEnd.ret ?_,fr⟩
   rw [← hv,pOff];simp [*,jn3,jn2]
theorem st2 (s:List UInt8) (hs:s.length≤400) (h64:e.s.length≤64) (ho:0≤e.off) (hv:.tup [.str (s++(pPage e++pOff e)),.bool true]=v) (hn:h0.next≤h.next) (fr:∀ n,n < h0.next→h.m n=h0.m n) (hm6:h.m n6=some (.cells true (.one 57) (cV e))) (hn6:n6 < h.next∧h0.next≤n6) (hm8:h.m n8=some (.cells true (.one 225) (rowV e.ck))) (hn8:n8 < h.next∧h0.next≤n8):Jz27 (Ends v h0) (.str s) (.ptr (some ⟨n6,.one 57,[]⟩)) (.ptr (some ⟨n8,.one 225,[]⟩)) h:=by
 have k1:=ok.kind;have k2:=ok.a;have k3:=ok.b;have k4:=ok.ck;have k5:=ok.txn;have k6:=ok.page;have k7:=ok.off;have k8:=ok.s;have k9:=ok.keep
 rw [Jz27_eq]
 refine bindS_mk (fa_mk (by kernel_rfl)) ?_
 refine bindV_mk (ld_mk hm8 (by kernel_rfl) rfl) ?_
 refine i_split (fun c1=>?_) (fun c1=>?_)
 · try rw [c1]
   refine bindS_mk (fa_mk (by kernel_rfl)) ?_
   refine bindV_mk (ld_mk hm6 (by kernel_rfl) rfl) ?_
   refine bindS_mk (cv_wr (d:=49) (k:=.u64) (by kernel_rfl) (wr_u64 (by omega) (by omega))) ?_
   refine callS (numN e.page (by omega) _) ?_
   refine bindE (bs2_at (e:=9) (by kernel_rfl) z9 (by kernel_rfl) (by kernel_rfl)) fun h2 u2=>?_
   have n2:=u2.next
   have fFR_2:=fun k (hk:k < h0.next)=>(u2.other k (by omega)).trans (fr k hk)
   have fX6_2:=(u2.other _ (by omega)).trans hm6
   have fX8_2:=(u2.other _ (by omega)).trans hm8
   have f2_2:=u2.at_
   refine callS (wordsP _ _ [s,dec e.page] _ f2_2 (by simp) (by simp) (by rw [jn2];have l2:=dec_len20 (n:=e.page) (by omega);simp;omega)) ?_
   refine Meet.of (st3 e ok _ (by first | omega | (rw [jn2];have l2:=dec_len20 (n:=e.page) (by omega);simp;omega)) h64 ho ?_ (by omega) fFR_2 fX6_2 (by omega) fX8_2 (by omega))
   rw [← hv,pPage];simp [*,jn2]
 · try rw [c1]
   refine Meet.of (st3 e ok _ (by first | omega | (rw [jn2];have l2:=dec_len20 (n:=e.page) (by omega);simp;omega)) h64 ho ?_ (by omega) fr hm6 (by omega) hm8 (by omega))
   rw [← hv,pPage];simp [*,jn2]
theorem st1 (s:List UInt8) (hs:s.length≤100) (h64:e.s.length≤64) (ho:0≤e.off) (ha:0≤e.a) (hv:.tup [.str (s++32 :: (dec e.a.toNat++32 :: (nameOf e.ck++(pTxn e++(pPage e++pOff e))))),.bool true]=v) (hn:h0.next≤h.next) (fr:∀ n,n < h0.next→h.m n=h0.m n) (hm1:h.m n1=some (.cells true (.one 73) (evV e k))) (hn1:n1 < h.next∧h0.next≤n1) (hm6:h.m n6=some (.cells true (.one 57) (cV e))) (hn6:n6 < h.next∧h0.next≤n6) (hm8:h.m n8=some (.cells true (.one 225) (rowV e.ck))) (hn8:n8 < h.next∧h0.next≤n8):Jz26 (Ends v h0) (.ptr (some ⟨n1,.one 73,[]⟩)) (.str s) (.ptr (some ⟨n6,.one 57,[]⟩)) (.ptr (some ⟨n8,.one 225,[]⟩)) h:=by
 have k1:=ok.kind;have k2:=ok.a;have k3:=ok.b;have k4:=ok.ck;have k5:=ok.txn;have k6:=ok.page;have k7:=ok.off;have k8:=ok.s;have k9:=ok.keep
 rw [Jz26_eq]
 refine bindSO_mk (fa_mk (by kernel_rfl)) ?_
 refine bindVO_mk (ld_mk hm1 (by kernel_rfl) rfl) ?_
 refine bindSO_mk (cv_wr (d:=49) (k:=.u64) (by kernel_rfl) (wr_u64 (by omega) (by omega))) ?_
 refine ⟨_,numP _ (by omega) (by omega) _,?_⟩
 refine bindSO_mk (fa_mk (by kernel_rfl)) ?_
 refine bindVO_mk (ld_mk hm8 (by kernel_rfl) rfl) ?_
 refine bindE (bs3_at (e:=9) (by kernel_rfl) z9 (by kernel_rfl) (by kernel_rfl) (by kernel_rfl)) fun h1 u1=>?_
 have n1:=u1.next
 have fFR_1:=fun k (hk:k < h0.next)=>(u1.other k (by omega)).trans (fr k hk)
 have fX1_1:=(u1.other _ (by omega)).trans hm1
 have fX6_1:=(u1.other _ (by omega)).trans hm6
 have fX8_1:=(u1.other _ (by omega)).trans hm8
 have f1_1:=u1.at_
 refine ⟨_,wordsP _ _ [s,dec e.a.toNat,nameOf e.ck] _ f1_1 (by simp) (by simp) (by rw [jn3];have l1:=name_len e.ck;have l2:=dec_len20 (n:=e.a.toNat) (by omega);simp;omega),?_⟩
 refine bindS_mk (fa_mk (by kernel_rfl)) ?_
 refine bindV_mk (ld_mk fX8_1 (by kernel_rfl) rfl) ?_
 refine i_split (fun c2=>?_) (fun c2=>?_)
 · try rw [c2]
   refine bindS_mk (fa_mk (by kernel_rfl)) ?_
   refine bindV_mk (ld_mk fX6_1 (by kernel_rfl) rfl) ?_
   refine callS (numN e.txn (by omega) _) ?_
   refine bindE (bs2_at (e:=9) (by kernel_rfl) z9 (by kernel_rfl) (by kernel_rfl)) fun h3 u3=>?_
   have n3:=u3.next
   have fFR_3:=fun k (hk:k < h0.next)=>(u3.other k (by omega)).trans (fFR_1 k hk)
   have fX1_3:=(u3.other _ (by omega)).trans fX1_1
   have fX6_3:=(u3.other _ (by omega)).trans fX6_1
   have fX8_3:=(u3.other _ (by omega)).trans fX8_1
   have f1_3:=(u3.other _ (by omega)).trans f1_1
   have f3_3:=u3.at_
   refine callS (wordsP _ _ [jn [s,dec e.a.toNat,nameOf e.ck],dec e.txn] _ f3_3 (by simp) (by simp) (by rw [jn2,jn3];have l1:=name_len e.ck;have l2:=dec_len20 (n:=e.a.toNat) (by omega);have l3:=dec_len20 (n:=e.txn) (by omega);simp;omega)) ?_
   refine Meet.of (st2 e ok _ (by simp only [jn2,jn3];have l1:=name_len e.ck;have l2:=dec_len20 (n:=e.a.toNat) (by omega);have l3:=dec_len20 (n:=e.txn) (by omega);simp;omega) h64 ho ?_ (by omega) fFR_3 fX6_3 (by omega) fX8_3 (by omega))
   rw [← hv,pTxn];simp [*,jn2,jn3]
 · try rw [c2]
   refine Meet.of (st2 e ok _ (by simp only [jn2,jn3];have l1:=name_len e.ck;have l2:=dec_len20 (n:=e.a.toNat) (by omega);have l3:=dec_len20 (n:=e.txn) (by omega);simp;omega) h64 ho ?_ (by omega) fFR_1 fX6_1 (by omega) fX8_1 (by omega))
   rw [← hv,pTxn];simp [*,jn2,jn3]
theorem g20 (hA:e.kind=0∧0≤e.a∧e.a < 10∧e.b=0∧e.keep.length=0∧e.ck < 8∧e.txn < 2147483648∧0≤e.off∧e.off < 2147483648∧e.s.length≤64) (hT:¬ (1≤e.ck∧e.ck≤4)→e.txn=0) (hP:¬ (e.ck=1∨e.ck=2)→e.page=0) (hO:e.ck≠2→e.off=0) (hv:e.lineV=v) (hn:h0.next≤h.next) (fr:∀ n,n < h0.next→h.m n=h0.m n) (hm1:h.m n1=some (.cells true (.one 73) (evV e k))) (hn1:n1 < h.next∧h0.next≤n1) (hm6:h.m n6=some (.cells true (.one 57) (cV e))) (hn6:n6 < h.next∧h0.next≤n6) (hm8:h.m n8=some (.cells true (.one 225) (rowV e.ck))) (hn8:n8 < h.next∧h0.next≤n8):Gzr (Ends v h0) (.ptr (some ⟨n1,.one 73,[]⟩)) (.str (kindName 0)) (.ptr (some ⟨n6,.one 57,[]⟩)) (.ptr (some ⟨n8,.one 225,[]⟩)) (.bool false) (.bool (!fOff e.ck)) h:=by
 have k1:=ok.kind;have k2:=ok.a;have k3:=ok.b;have k4:=ok.ck;have k5:=ok.txn;have k6:=ok.page;have k7:=ok.off;have k8:=ok.s;have k9:=ok.keep
 rw [Gzr_eq]
 refine g_split_t (fun c1=>?_) (fun c1=>?_)
 · try rw [c1]
   try simp [fTxn,fPage,fOff] at c1
   refine bindS_mk (fa_mk (by kernel_rfl)) ?_
   refine bindV_mk (ld_mk hm6 (by kernel_rfl) rfl) ?_
   refine bindS_mk (t_neq) ?_
   refine Meet.of (cast_p (Gzs_eq _ _ _ _ _ _ _ _ _) ?_)
   refine g_ff ?_
   refine bindV_mk p_t ?_
   refine Meet.of (cast_p (Gzt_eq _ _ _ _ _ _ _ _) ?_)
   refine bindV_mk p_f ?_
   refine Meet.of (cast_p (Jz25_eq _ _ _ _ _ _ _) ?_)
   refine i_split (fun c2=>?_) (fun c2=>?_)
   · try rw [c2]
     have l2:e.s.length≠0:=fun h=>absurd (List.length_eq_zero_iff.1 h) (by simpa using c2)
     exact ⟨congrArg AEnd.ret ((hv▸line_no (by unfold Ev.fine;omega))),fr⟩
   · try rw [c2]
     have l2:e.s.length=0:=List.length_eq_zero_iff.2 (by simpa using c2)
     refine Meet.of (st1 e ok (kindName 0) (by decide) (by omega) (by omega) (by omega) ?_ (by omega) fr hm1 (by omega) hm6 (by omega) hm8 (by omega))
     exact (line_yes (e:=e) (by unfold Ev.fine;omega) (by rw [Ev.txt,if_pos (by omega)];rfl)).trans hv
 · try rw [c1]
   try simp [fTxn,fPage,fOff] at c1
   refine Meet.of (cast_p (Gzs_eq _ _ _ _ _ _ _ _ _) ?_)
   refine g_ff ?_
   refine bindV_mk p_f ?_
   refine Meet.of (cast_p (Gzt_eq _ _ _ _ _ _ _ _) ?_)
   refine bindV_mk p_f ?_
   refine Meet.of (cast_p (Jz25_eq _ _ _ _ _ _ _) ?_)
   refine i_f ?_
   refine Meet.of (st1 e ok (kindName 0) (by decide) (by omega) (by omega) (by omega) ?_ (by omega) fr hm1 (by omega) hm6 (by omega) hm8 (by omega))
   exact (line_yes (e:=e) (by unfold Ev.fine;omega) (by rw [Ev.txt,if_pos (by omega)];rfl)).trans hv
theorem g16 (hA:e.kind=0∧0≤e.a∧e.a < 10∧e.b=0∧e.keep.length=0∧e.ck < 8∧e.txn < 2147483648∧0≤e.off∧e.off < 2147483648∧e.s.length≤64) (hT:¬ (1≤e.ck∧e.ck≤4)→e.txn=0) (hP:¬ (e.ck=1∨e.ck=2)→e.page=0) (hv:e.lineV=v) (hn:h0.next≤h.next) (fr:∀ n,n < h0.next→h.m n=h0.m n) (hm1:h.m n1=some (.cells true (.one 73) (evV e k))) (hn1:n1 < h.next∧h0.next≤n1) (hm6:h.m n6=some (.cells true (.one 57) (cV e))) (hn6:n6 < h.next∧h0.next≤n6) (hm8:h.m n8=some (.cells true (.one 225) (rowV e.ck))) (hn8:n8 < h.next∧h0.next≤n8):Gzo (Ends v h0) (.ptr (some ⟨n1,.one 73,[]⟩)) (.str (kindName 0)) (.ptr (some ⟨n6,.one 57,[]⟩)) (.ptr (some ⟨n8,.one 225,[]⟩)) (.bool false) (.bool (!fOff e.ck)) h:=by
 have k1:=ok.kind;have k2:=ok.a;have k3:=ok.b;have k4:=ok.ck;have k5:=ok.txn;have k6:=ok.page;have k7:=ok.off;have k8:=ok.s;have k9:=ok.keep
 rw [Gzo_eq]
 refine g_split_t (fun c1=>?_) (fun c1=>?_)
 · try rw [c1]
   try simp [fTxn,fPage,fOff] at c1
   refine bindS_mk (fa_mk (by kernel_rfl)) ?_
   refine bindV_mk (ld_mk hm6 (by kernel_rfl) rfl) ?_
   refine bindS_mk (b_gtr) ?_
   refine Meet.of (cast_p (Gzp_eq _ _ _ _ _ _ _ _ _) ?_)
   refine g_ff ?_
   refine bindV_mk p_t ?_
   refine Meet.of (cast_p (Gzq_eq _ _ _ _ _ _ _ _) ?_)
   refine bindV_mk p_f ?_
   refine g_split_f (fun c2=>?_) (fun c2=>?_)
   · try rw [c2]
     replace c2:=of_decide_eq_false c2
     refine bindS_mk (fa_mk (by kernel_rfl)) ?_
     refine bindV_mk (ld_mk hm8 (by kernel_rfl) rfl) ?_
     refine bindS_mk (u_not) ?_
     exact Meet.of (g20 e ok hA hT hP (by omega) hv (by omega) fr hm1 (by omega) hm6 (by omega) hm8 (by omega))
   · try rw [c2]
     replace c2:=of_decide_eq_true c2
     refine Meet.of (cast_p (Gzr_eq _ _ _ _ _ _ _ _) ?_)
     refine g_hole ?_
     refine Meet.of (cast_p (Gzs_eq _ _ _ _ _ _ _ _ _) ?_)
     refine g_tf ?_
     refine Meet.of (cast_p (Gzt_eq _ _ _ _ _ _ _ _) ?_)
     refine bindV_mk p_t ?_
     refine Meet.of (cast_p (Jz25_eq _ _ _ _ _ _ _) ?_)
     refine i_t ?_
     exact ⟨congrArg AEnd.ret ((hv▸line_no (by unfold Ev.fine;omega))),fr⟩
 · try rw [c1]
   try simp [fTxn,fPage,fOff] at c1
   refine Meet.of (cast_p (Gzp_eq _ _ _ _ _ _ _ _ _) ?_)
   refine g_ff ?_
   refine bindV_mk p_f ?_
   refine Meet.of (cast_p (Gzq_eq _ _ _ _ _ _ _ _) ?_)
   refine bindV_mk p_f ?_
   refine g_ff ?_
   refine bindS_mk (fa_mk (by kernel_rfl)) ?_
   refine bindV_mk (ld_mk hm8 (by kernel_rfl) rfl) ?_
   refine bindS_mk (u_not) ?_
   exact Meet.of (g20 e ok hA hT hP (by omega) hv (by omega) fr hm1 (by omega) hm6 (by omega) hm8 (by omega))
theorem g12 (hA:e.kind=0∧0≤e.a∧e.a < 10∧e.b=0∧e.keep.length=0∧e.ck < 8∧e.txn < 2147483648∧0≤e.off∧e.off < 2147483648∧e.s.length≤64) (hT:¬ (1≤e.ck∧e.ck≤4)→e.txn=0) (hv:e.lineV=v) (hn:h0.next≤h.next) (fr:∀ n,n < h0.next→h.m n=h0.m n) (hm1:h.m n1=some (.cells true (.one 73) (evV e k))) (hn1:n1 < h.next∧h0.next≤n1) (hm6:h.m n6=some (.cells true (.one 57) (cV e))) (hn6:n6 < h.next∧h0.next≤n6) (hm8:h.m n8=some (.cells true (.one 225) (rowV e.ck))) (hn8:n8 < h.next∧h0.next≤n8):Gzl (Ends v h0) (.ptr (some ⟨n1,.one 73,[]⟩)) (.str (kindName 0)) (.ptr (some ⟨n6,.one 57,[]⟩)) (.ptr (some ⟨n8,.one 225,[]⟩)) (.bool false) (.bool (!fPage e.ck)) h:=by
 have k1:=ok.kind;have k2:=ok.a;have k3:=ok.b;have k4:=ok.ck;have k5:=ok.txn;have k6:=ok.page;have k7:=ok.off;have k8:=ok.s;have k9:=ok.keep
 rw [Gzl_eq]
 refine g_split_t (fun c1=>?_) (fun c1=>?_)
 · try rw [c1]
   try simp [fTxn,fPage,fOff] at c1
   refine bindS_mk (fa_mk (by kernel_rfl)) ?_
   refine bindV_mk (ld_mk hm6 (by kernel_rfl) rfl) ?_
   refine bindS_mk (b_gtr) ?_
   refine Meet.of (cast_p (Gzm_eq _ _ _ _ _ _ _ _ _) ?_)
   refine g_ff ?_
   refine bindV_mk p_t ?_
   refine Meet.of (cast_p (Gzn_eq _ _ _ _ _ _ _ _) ?_)
   refine bindV_mk p_f ?_
   refine g_split_f (fun c2=>?_) (fun c2=>?_)
   · try rw [c2]
     replace c2:=of_decide_eq_false c2
     refine bindS_mk (fa_mk (by kernel_rfl)) ?_
     refine bindV_mk (ld_mk hm8 (by kernel_rfl) rfl) ?_
     refine bindS_mk (u_not) ?_
     exact Meet.of (g16 e ok hA hT (by omega) hv (by omega) fr hm1 (by omega) hm6 (by omega) hm8 (by omega))
   · try rw [c2]
     replace c2:=of_decide_eq_true c2
     refine Meet.of (cast_p (Gzo_eq _ _ _ _ _ _ _ _) ?_)
     refine g_hole ?_
     refine Meet.of (cast_p (Gzp_eq _ _ _ _ _ _ _ _ _) ?_)
     refine g_tf ?_
     refine Meet.of (cast_p (Gzq_eq _ _ _ _ _ _ _ _) ?_)
     refine bindV_mk p_t ?_
     refine g_tf ?_
     refine Meet.of (cast_p (Gzr_eq _ _ _ _ _ _ _ _) ?_)
     refine g_hole ?_
     refine Meet.of (cast_p (Gzs_eq _ _ _ _ _ _ _ _ _) ?_)
     refine g_tf ?_
     refine Meet.of (cast_p (Gzt_eq _ _ _ _ _ _ _ _) ?_)
     refine bindV_mk p_t ?_
     refine Meet.of (cast_p (Jz25_eq _ _ _ _ _ _ _) ?_)
     refine i_t ?_
     exact ⟨congrArg AEnd.ret ((hv▸line_no (by unfold Ev.fine;omega))),fr⟩
 · try rw [c1]
   try simp [fTxn,fPage,fOff] at c1
   refine Meet.of (cast_p (Gzm_eq _ _ _ _ _ _ _ _ _) ?_)
   refine g_ff ?_
   refine bindV_mk p_f ?_
   refine Meet.of (cast_p (Gzn_eq _ _ _ _ _ _ _ _) ?_)
   refine bindV_mk p_f ?_
   refine g_ff ?_
   refine bindS_mk (fa_mk (by kernel_rfl)) ?_
   refine bindV_mk (ld_mk hm8 (by kernel_rfl) rfl) ?_
   refine bindS_mk (u_not) ?_
   exact Meet.of (g16 e ok hA hT (by omega) hv (by omega) fr hm1 (by omega) hm6 (by omega) hm8 (by omega))
theorem g8 (hA:e.kind=0∧0≤e.a∧e.a < 10∧e.b=0∧e.keep.length=0∧e.ck < 8∧e.txn < 2147483648∧0≤e.off∧e.off < 2147483648∧e.s.length≤64) (hv:e.lineV=v) (hn:h0.next≤h.next) (fr:∀ n,n < h0.next→h.m n=h0.m n) (hm1:h.m n1=some (.cells true (.one 73) (evV e k))) (hn1:n1 < h.next∧h0.next≤n1) (hm6:h.m n6=some (.cells true (.one 57) (cV e))) (hn6:n6 < h.next∧h0.next≤n6) (hm8:h.m n8=some (.cells true (.one 225) (rowV e.ck))) (hn8:n8 < h.next∧h0.next≤n8):Gzi (Ends v h0) (.ptr (some ⟨n1,.one 73,[]⟩)) (.str (kindName 0)) (.ptr (some ⟨n6,.one 57,[]⟩)) (.ptr (some ⟨n8,.one 225,[]⟩)) (.bool false) (.bool (!fTxn e.ck)) h:=by
 have k1:=ok.kind;have k2:=ok.a;have k3:=ok.b;have k4:=ok.ck;have k5:=ok.txn;have k6:=ok.page;have k7:=ok.off;have k8:=ok.s;have k9:=ok.keep
 rw [Gzi_eq]
 refine g_split_t (fun c1=>?_) (fun c1=>?_)
 · try rw [c1]
   try simp [fTxn,fPage,fOff] at c1
   refine bindS_mk (fa_mk (by kernel_rfl)) ?_
   refine bindV_mk (ld_mk hm6 (by kernel_rfl) rfl) ?_
   refine bindS_mk (b_gtr) ?_
   refine Meet.of (cast_p (Gzj_eq _ _ _ _ _ _ _ _ _) ?_)
   refine g_ff ?_
   refine bindV_mk p_t ?_
   refine Meet.of (cast_p (Gzk_eq _ _ _ _ _ _ _ _) ?_)
   refine bindV_mk p_f ?_
   refine g_split_f (fun c2=>?_) (fun c2=>?_)
   · try rw [c2]
     replace c2:=of_decide_eq_false c2
     refine bindS_mk (fa_mk (by kernel_rfl)) ?_
     refine bindV_mk (ld_mk hm8 (by kernel_rfl) rfl) ?_
     refine bindS_mk (u_not) ?_
     exact Meet.of (g12 e ok hA (by omega) hv (by omega) fr hm1 (by omega) hm6 (by omega) hm8 (by omega))
   · try rw [c2]
     replace c2:=of_decide_eq_true c2
     refine Meet.of (cast_p (Gzl_eq _ _ _ _ _ _ _ _) ?_)
     refine g_hole ?_
     refine Meet.of (cast_p (Gzm_eq _ _ _ _ _ _ _ _ _) ?_)
     refine g_tf ?_
     refine Meet.of (cast_p (Gzn_eq _ _ _ _ _ _ _ _) ?_)
     refine bindV_mk p_t ?_
     refine g_tf ?_
     refine Meet.of (cast_p (Gzo_eq _ _ _ _ _ _ _ _) ?_)
     refine g_hole ?_
     refine Meet.of (cast_p (Gzp_eq _ _ _ _ _ _ _ _ _) ?_)
     refine g_tf ?_
     refine Meet.of (cast_p (Gzq_eq _ _ _ _ _ _ _ _) ?_)
     refine bindV_mk p_t ?_
     refine g_tf ?_
     refine Meet.of (cast_p (Gzr_eq _ _ _ _ _ _ _ _) ?_)
     refine g_hole ?_
     refine Meet.of (cast_p (Gzs_eq _ _ _ _ _ _ _ _ _) ?_)
     refine g_tf ?_
     refine Meet.of (cast_p (Gzt_eq _ _ _ _ _ _ _ _) ?_)
     refine bindV_mk p_t ?_
     refine Meet.of (cast_p (Jz25_eq _ _ _ _ _ _ _) ?_)
     refine i_t ?_
     exact ⟨congrArg AEnd.ret ((hv▸line_no (by unfold Ev.fine;omega))),fr⟩
 · try rw [c1]
   try simp [fTxn,fPage,fOff] at c1
   refine Meet.of (cast_p (Gzj_eq _ _ _ _ _ _ _ _ _) ?_)
   refine g_ff ?_
   refine bindV_mk p_f ?_
   refine Meet.of (cast_p (Gzk_eq _ _ _ _ _ _ _ _) ?_)
   refine bindV_mk p_f ?_
   refine g_ff ?_
   refine bindS_mk (fa_mk (by kernel_rfl)) ?_
   refine bindV_mk (ld_mk hm8 (by kernel_rfl) rfl) ?_
   refine bindS_mk (u_not) ?_
   exact Meet.of (g12 e ok hA (by omega) hv (by omega) fr hm1 (by omega) hm6 (by omega) hm8 (by omega))
end
end Go.Proofs.YtcglbpjpbjaecaaGreat.Sh
namespace Go.Proofs.YtcglbpjpbjaecaaGreat.Sh
open Go Go.Ab Go.RowKit
open Go.Proofs.YtcglbpjpbjaecaaGreat.Ru (Pg okP)
set_option maxRecDepth 10000
theorem z225:zeroV Pg 225=some (.agg [(.str []),(.bool false),(.bool false),(.bool false),(.bool false)]):=by kernel_rfl
theorem zs225:hasShape Pg (.agg [(.str []),(.bool false),(.bool false),(.bool false),(.bool false)]) 225=true:=by kernel_rfl
section
variable (e:Ev) (ok:e.ok) {v:V} {h0:AH} {n1 n6 n8:Nat} {h:AH} {k:V}
include ok
theorem ask (hA:e.kind=0∧0≤e.a∧e.a < 10∧e.b=0∧e.keep.length=0∧e.ck < 8) (hv:e.lineV=v) (hn:h0.next≤h.next) (fr:∀ n,n < h0.next→h.m n=h0.m n) (hm1:h.m n1=some (.cells true (.one 73) (evV e k))) (hn1:n1 < h.next∧h0.next≤n1) (hm6:h.m n6=some (.cells true (.one 57) (cV e))) (hn6:n6 < h.next∧h0.next≤n6) {nC:Nat} (hmC:h.m nC=some (.cells true (.row 225) (.agg callV))) (hnC:nC < h.next):Jz24 (Ends v h0) (.ptr (some ⟨n1,.one 73,[]⟩)) (.str (kindName 0)) (.ptr (some ⟨n6,.one 57,[]⟩)) (.slc (some (⟨nC,.row 225,[]⟩,0)) 8) h:=by
 have k1:=ok.kind;have k2:=ok.a;have k3:=ok.b;have k4:=ok.ck;have k5:=ok.txn;have k6:=ok.page;have k7:=ok.off;have k8:=ok.s;have k9:=ok.keep
 rw [Jz24_eq]
 refine bindS_mk (fa_mk (by kernel_rfl)) ?_
 refine bindV_mk (ld_mk hm6 (by kernel_rfl) rfl) ?_
 refine bindS_mk (ia_slc _ (by kernel_rfl) (by omega) (by omega)) ?_
 refine bindV_mk (ld_mk hmC (by kernel_rfl) (getRow (k:=e.ck) (by omega))) ?_
 refine bindE (al_at z225 zs225) fun h1 u1=>?_
 have n1:=u1.next
 have fFR_1:=fun k (hk:k < h0.next)=>(u1.other k (by omega)).trans (fr k hk)
 have fX1_1:=(u1.other _ (by omega)).trans hm1
 have fX6_1:=(u1.other _ (by omega)).trans hm6
 have fC_1:=(u1.other _ (by omega)).trans hmC
 have f1_1:=u1.at_
 refine bindE (st_at f1_1 (by kernel_rfl) rfl (by kernel_rfl) rfl) fun h2 u2=>?_
 have n2:=u2.next
 have fFR_2:=fun k (hk:k < h0.next)=>(u2.other k (by omega)).trans (fFR_1 k hk)
 have fX1_2:=(u2.other _ (by omega)).trans fX1_1
 have fX6_2:=(u2.other _ (by omega)).trans fX6_1
 have fC_2:=(u2.other _ (by omega)).trans fC_1
 have f1_2:=u2.at_
 refine bindS_mk (fa_mk (by kernel_rfl)) ?_
 refine bindV_mk (ld_mk fX6_2 (by kernel_rfl) rfl) ?_
 refine bindS_mk (b_geq) ?_
 refine g_split_f (fun c3=>?_) (fun c3=>?_)
 · try rw [c3]
   replace c3:=of_decide_eq_false c3
   refine bindS_mk (fa_mk (by kernel_rfl)) ?_
   refine bindV_mk (ld_mk fX6_2 (by kernel_rfl) rfl) ?_
   refine bindS_mk (b_lss) ?_
   refine Meet.of (cast_p (Gzf_eq _ _ _ _ _ _ _ _) ?_)
   refine bindV_mk p_f ?_
   refine g_split_f (fun c4=>?_) (fun c4=>?_)
   · try rw [c4]
     replace c4:=of_decide_eq_false c4
     refine bindS_mk (fa_mk (by kernel_rfl)) ?_
     refine bindV_mk (ld_mk fX6_2 (by kernel_rfl) rfl) ?_
     refine bindS_mk (b_geq) ?_
     refine Meet.of (cast_p (Gzg_eq _ _ _ _ _ _ _ _) ?_)
     refine bindV_mk p_f ?_
     refine g_split_f (fun c5=>?_) (fun c5=>?_)
     · try rw [c5]
       replace c5:=of_decide_eq_false c5
       refine bindS_mk (fa_mk (by kernel_rfl)) ?_
       refine bindV_mk (ld_mk fX6_2 (by kernel_rfl) rfl) ?_
       refine bindV_mk (len_str (by kernel_rfl)) ?_
       refine bindS_mk (b_gtr) ?_
       refine Meet.of (cast_p (Gzh_eq _ _ _ _ _ _ _ _) ?_)
       refine bindV_mk p_f ?_
       refine g_split_f (fun c6=>?_) (fun c6=>?_)
       · try rw [c6]
         replace c6:=of_decide_eq_false c6
         refine bindS_mk (fa_mk (by kernel_rfl)) ?_
         refine bindV_mk (ld_mk f1_2 (by kernel_rfl) rfl) ?_
         refine bindS_mk (u_not) ?_
         exact Meet.of (g8 e ok (by omega) hv (by omega) fFR_2 fX1_2 (by omega) fX6_2 (by omega) f1_2 (by omega))
       · try rw [c6]
         replace c6:=of_decide_eq_true c6
         refine Meet.of (cast_p (Gzi_eq _ _ _ _ _ _ _ _) ?_)
         refine g_hole ?_
         refine Meet.of (cast_p (Gzj_eq _ _ _ _ _ _ _ _ _) ?_)
         refine g_tf ?_
         refine Meet.of (cast_p (Gzk_eq _ _ _ _ _ _ _ _) ?_)
         refine bindV_mk p_t ?_
         refine g_tf ?_
         refine Meet.of (cast_p (Gzl_eq _ _ _ _ _ _ _ _) ?_)
         refine g_hole ?_
         refine Meet.of (cast_p (Gzm_eq _ _ _ _ _ _ _ _ _) ?_)
         refine g_tf ?_
         refine Meet.of (cast_p (Gzn_eq _ _ _ _ _ _ _ _) ?_)
         refine bindV_mk p_t ?_
         refine g_tf ?_
         refine Meet.of (cast_p (Gzo_eq _ _ _ _ _ _ _ _) ?_)
         refine g_hole ?_
         refine Meet.of (cast_p (Gzp_eq _ _ _ _ _ _ _ _ _) ?_)
         refine g_tf ?_
         refine Meet.of (cast_p (Gzq_eq _ _ _ _ _ _ _ _) ?_)
         refine bindV_mk p_t ?_
         refine g_tf ?_
         refine Meet.of (cast_p (Gzr_eq _ _ _ _ _ _ _ _) ?_)
         refine g_hole ?_
         refine Meet.of (cast_p (Gzs_eq _ _ _ _ _ _ _ _ _) ?_)
         refine g_tf ?_
         refine Meet.of (cast_p (Gzt_eq _ _ _ _ _ _ _ _) ?_)
         refine bindV_mk p_t ?_
         refine Meet.of (cast_p (Jz25_eq _ _ _ _ _ _ _) ?_)
         refine i_t ?_
         exact ⟨congrArg AEnd.ret ((hv▸line_no (by unfold Ev.fine;omega))),fFR_2⟩
     · try rw [c5]
       replace c5:=of_decide_eq_true c5
       refine Meet.of (cast_p (Gzh_eq _ _ _ _ _ _ _ _) ?_)
       refine bindV_mk p_t ?_
       refine g_tf ?_
       refine Meet.of (cast_p (Gzi_eq _ _ _ _ _ _ _ _) ?_)
       refine g_hole ?_
       refine Meet.of (cast_p (Gzj_eq _ _ _ _ _ _ _ _ _) ?_)
       refine g_tf ?_
       refine Meet.of (cast_p (Gzk_eq _ _ _ _ _ _ _ _) ?_)
       refine bindV_mk p_t ?_
       refine g_tf ?_
       refine Meet.of (cast_p (Gzl_eq _ _ _ _ _ _ _ _) ?_)
       refine g_hole ?_
       refine Meet.of (cast_p (Gzm_eq _ _ _ _ _ _ _ _ _) ?_)
       refine g_tf ?_
       refine Meet.of (cast_p (Gzn_eq _ _ _ _ _ _ _ _) ?_)
       refine bindV_mk p_t ?_
       refine g_tf ?_
       refine Meet.of (cast_p (Gzo_eq _ _ _ _ _ _ _ _) ?_)
       refine g_hole ?_
       refine Meet.of (cast_p (Gzp_eq _ _ _ _ _ _ _ _ _) ?_)
       refine g_tf ?_
       refine Meet.of (cast_p (Gzq_eq _ _ _ _ _ _ _ _) ?_)
       refine bindV_mk p_t ?_
       refine g_tf ?_
       refine Meet.of (cast_p (Gzr_eq _ _ _ _ _ _ _ _) ?_)
       refine g_hole ?_
       refine Meet.of (cast_p (Gzs_eq _ _ _ _ _ _ _ _ _) ?_)
       refine g_tf ?_
       refine Meet.of (cast_p (Gzt_eq _ _ _ _ _ _ _ _) ?_)
       refine bindV_mk p_t ?_
       refine Meet.of (cast_p (Jz25_eq _ _ _ _ _ _ _) ?_)
       refine i_t ?_
       exact ⟨congrArg AEnd.ret ((hv▸line_no (by unfold Ev.fine;omega))),fFR_2⟩
   · try rw [c4]
     replace c4:=of_decide_eq_true c4
     refine Meet.of (cast_p (Gzg_eq _ _ _ _ _ _ _ _) ?_)
     refine bindV_mk p_t ?_
     refine g_tf ?_
     refine Meet.of (cast_p (Gzh_eq _ _ _ _ _ _ _ _) ?_)
     refine bindV_mk p_t ?_
     refine g_tf ?_
     refine Meet.of (cast_p (Gzi_eq _ _ _ _ _ _ _ _) ?_)
     refine g_hole ?_
     refine Meet.of (cast_p (Gzj_eq _ _ _ _ _ _ _ _ _) ?_)
     refine g_tf ?_
     refine Meet.of (cast_p (Gzk_eq _ _ _ _ _ _ _ _) ?_)
     refine bindV_mk p_t ?_
     refine g_tf ?_
     refine Meet.of (cast_p (Gzl_eq _ _ _ _ _ _ _ _) ?_)
     refine g_hole ?_
     refine Meet.of (cast_p (Gzm_eq _ _ _ _ _ _ _ _ _) ?_)
     refine g_tf ?_
     refine Meet.of (cast_p (Gzn_eq _ _ _ _ _ _ _ _) ?_)
     refine bindV_mk p_t ?_
     refine g_tf ?_
     refine Meet.of (cast_p (Gzo_eq _ _ _ _ _ _ _ _) ?_)
     refine g_hole ?_
     refine Meet.of (cast_p (Gzp_eq _ _ _ _ _ _ _ _ _) ?_)
     refine g_tf ?_
     refine Meet.of (cast_p (Gzq_eq _ _ _ _ _ _ _ _) ?_)
     refine bindV_mk p_t ?_
     refine g_tf ?_
     refine Meet.of (cast_p (Gzr_eq _ _ _ _ _ _ _ _) ?_)
     refine g_hole ?_
     refine Meet.of (cast_p (Gzs_eq _ _ _ _ _ _ _ _ _) ?_)
     refine g_tf ?_
     refine Meet.of (cast_p (Gzt_eq _ _ _ _ _ _ _ _) ?_)
     refine bindV_mk p_t ?_
     refine Meet.of (cast_p (Jz25_eq _ _ _ _ _ _ _) ?_)
     refine i_t ?_
     exact ⟨congrArg AEnd.ret ((hv▸line_no (by unfold Ev.fine;omega))),fFR_2⟩
 · try rw [c3]
   replace c3:=of_decide_eq_true c3
   refine Meet.of (cast_p (Gzf_eq _ _ _ _ _ _ _ _) ?_)
   refine bindV_mk p_t ?_
   refine g_tf ?_
   refine Meet.of (cast_p (Gzg_eq _ _ _ _ _ _ _ _) ?_)
   refine bindV_mk p_t ?_
   refine g_tf ?_
   refine Meet.of (cast_p (Gzh_eq _ _ _ _ _ _ _ _) ?_)
   refine bindV_mk p_t ?_
   refine g_tf ?_
   refine Meet.of (cast_p (Gzi_eq _ _ _ _ _ _ _ _) ?_)
   refine g_hole ?_
   refine Meet.of (cast_p (Gzj_eq _ _ _ _ _ _ _ _ _) ?_)
   refine g_tf ?_
   refine Meet.of (cast_p (Gzk_eq _ _ _ _ _ _ _ _) ?_)
   refine bindV_mk p_t ?_
   refine g_tf ?_
   refine Meet.of (cast_p (Gzl_eq _ _ _ _ _ _ _ _) ?_)
   refine g_hole ?_
   refine Meet.of (cast_p (Gzm_eq _ _ _ _ _ _ _ _ _) ?_)
   refine g_tf ?_
   refine Meet.of (cast_p (Gzn_eq _ _ _ _ _ _ _ _) ?_)
   refine bindV_mk p_t ?_
   refine g_tf ?_
   refine Meet.of (cast_p (Gzo_eq _ _ _ _ _ _ _ _) ?_)
   refine g_hole ?_
   refine Meet.of (cast_p (Gzp_eq _ _ _ _ _ _ _ _ _) ?_)
   refine g_tf ?_
   refine Meet.of (cast_p (Gzq_eq _ _ _ _ _ _ _ _) ?_)
   refine bindV_mk p_t ?_
   refine g_tf ?_
   refine Meet.of (cast_p (Gzr_eq _ _ _ _ _ _ _ _) ?_)
   refine g_hole ?_
   refine Meet.of (cast_p (Gzs_eq _ _ _ _ _ _ _ _ _) ?_)
   refine g_tf ?_
   refine Meet.of (cast_p (Gzt_eq _ _ _ _ _ _ _ _) ?_)
   refine bindV_mk p_t ?_
   refine Meet.of (cast_p (Jz25_eq _ _ _ _ _ _ _) ?_)
   refine i_t ?_
   exact ⟨congrArg AEnd.ret ((hv▸line_no (by unfold Ev.fine;omega))),fFR_2⟩
omit ok in
theorem drop_at' {α:Type} {s:List α} {i:Nat} {b:α} (h:s[i]?=some b):s.drop i=b :: s.drop (i + 1):=by
 obtain ⟨h1,h2⟩:=List.getElem?_eq_some_iff.1 h
 rw [List.drop_eq_getElem_cons h1,h2]
omit ok in
theorem boolsV_get {l:List Bool} {i:Nat} {b:Bool} (h:l[i]?=some b):(boolsV l)[i]?=some (.bool b):=by simp [boolsV,h]
theorem crashL (hk:KeepB h k e.keep) (hl:e.keep.length≤2000) (hn:h0.next≤h.next) (fr:∀ n,n < h0.next→h.m n=h0.m n) (hm1:h.m n1=some (.cells true (.one 73) (evV e k))) (hn1:n1 < h.next∧h0.next≤n1):∀ (j i:Nat) (s:List UInt8) (m:Nat),i≤e.keep.length→e.keep.length - i=j→j < m→s.length≤100 + i→.tup [.str (s++(bitsT (e.keep.drop i)++(if e.keep.length=0 then [45] else []))),.bool true]=v→Lz3u (Ends v h0) m (.ptr (some ⟨n1,.one 73,[]⟩)) (.str s) k (.int .i64 e.keep.length) (.int .i64 i) h:=by
 have k1:=ok.kind;have k2:=ok.a;have k3:=ok.b;have k4:=ok.ck;have k5:=ok.txn;have k6:=ok.page;have k7:=ok.off;have k8:=ok.s;have k9:=ok.keep
 obtain ⟨a,rfl⟩:=hk.shape
 intro j
 induction j with
 | zero =>
   intro i s m hi hj hm hs hv
   obtain ⟨m,rfl⟩:∃ j,m=j + 1:=⟨m - 1,by omega⟩
   rw [Lz3u_eq]
   refine bindS_mk (b_lss) ?_
   refine i_split (fun c1=>?_) (fun c1=>?_)
   · try rw [c1]
     replace c1:=of_decide_eq_true c1
     exfalso;omega
   · try rw [c1]
     replace c1:=of_decide_eq_false c1
     refine Meet.of (cast_p (Jz2d_eq _ _ _ _) ?_)
     refine bindS_mk (fa_mk (by kernel_rfl)) ?_
     refine bindV_mk (ld_mk hm1 (by kernel_rfl) rfl) ?_
     refine bindV_mk (len_slc (by kernel_rfl)) ?_
     refine bindS_mk (b_eql) ?_
     refine i_split (fun c2=>?_) (fun c2=>?_)
     · try rw [c2]
       replace c2:=eq_of_beq c2
       refine bindS_mk (t_add (by first | omega | (simp only [List.length_append] at *;omega) | (simp;omega))) ?_
       refine Meet.of (cast_p (Jz2e_eq _ _ _) ?_)
       refine ⟨congrArg AEnd.ret ?_,fr⟩
       rw [← hv,List.drop_of_length_le (by omega)]
       first | rw [if_pos (by omega)] | rw [if_neg (by omega)]
       simp [bitsT]
     · try rw [c2]
       replace c2:=ne_of_beq_false c2
       refine Meet.of (cast_p (Jz2e_eq _ _ _) ?_)
       refine ⟨congrArg AEnd.ret ?_,fr⟩
       rw [← hv,List.drop_of_length_le (by omega)]
       first | rw [if_pos (by omega)] | rw [if_neg (by omega)]
       simp [bitsT]
 | succ j ih =>
   intro i s m hi hj hm hs hv
   obtain ⟨m,rfl⟩:∃ j,m=j + 1:=⟨m - 1,by omega⟩
   have ih:=fun i s m h1 h2 h3 h4 h5=>ih i s m h1 h2 h3 h4 h5
   obtain ⟨b,hb0⟩:∃ b,e.keep[i]?=some b:=⟨e.keep[i]'(by omega),List.getElem?_eq_getElem (by omega)⟩
   have hd:e.keep.drop i=b :: e.keep.drop (i + 1):=drop_at' hb0
   rw [Lz3u_eq]
   refine bindS_mk (b_lss) ?_
   refine (show decide (((i:Nat):Int) < ((e.keep.length:Nat):Int))=true from decide_eq_true (by omega))▸i_t ?_
   rcases hk with ⟨_,hk⟩ | ⟨nK,hnK,hke,hmK⟩
   · rw [hk] at hb0;cases hb0
   obtain ⟨rfl,_⟩:=V.slc.injEq ..▸hke
   refine Meet.of ?_
   rw [Jz2b_eq]
   refine bindS_mk (ia_slc _ (by kernel_rfl) (by omega) (by omega)) ?_
   refine bindV_mk (ld_mk hmK (by kernel_rfl) (getV_row (boolsV_get (by rw [show 0 + ((i:Nat):Int).toNat=i by omega];exact hb0)))) ?_
   refine i_split (fun hb2=>?_) (fun hb2=>?_)
   · skip
     refine bindS_mk (t_add (by first | omega | (simp only [List.length_append] at *;omega) | (simp;omega))) ?_
     refine Meet.of (cast_p (Jz2c_eq _ _ _ _ _ _ _ _) ?_)
     first | refine bindS_mk (w_add (by first | exact wrap_i64 (by omega) (by omega) | exact wr_u8 (by omega) (by omega) | exact wr_u16 (by omega) (by omega) | exact wr_u32 (by omega) (by omega) | exact wr_u64 (by omega) (by omega))) ?_ | refine bindS_mk (b_add) ?_
     refine Meet.of ((congrArg (fun x:Int=>Lz3u (Ends v h0) m (.ptr (some ⟨n1,.one 73,[]⟩)) _ _ (.int .i64 e.keep.length) (.int .i64 x) h) (show ((i:Nat):Int) + 1=((i + 1:Nat):Int) by omega)).mpr (ih (i + 1) _ m (by omega) (by omega) (by omega) (by simp;omega) ?_))
     rw [← hv,hd];simp [bitsT,hb2]
   · skip
     refine bindS_mk (t_add (by first | omega | (simp only [List.length_append] at *;omega) | (simp;omega))) ?_
     refine Meet.of (cast_p (Jz2c_eq _ _ _ _ _ _ _ _) ?_)
     first | refine bindS_mk (w_add (by first | exact wrap_i64 (by omega) (by omega) | exact wr_u8 (by omega) (by omega) | exact wr_u16 (by omega) (by omega) | exact wr_u32 (by omega) (by omega) | exact wr_u64 (by omega) (by omega))) ?_ | refine bindS_mk (b_add) ?_
     refine Meet.of ((congrArg (fun x:Int=>Lz3u (Ends v h0) m (.ptr (some ⟨n1,.one 73,[]⟩)) _ _ (.int .i64 e.keep.length) (.int .i64 x) h) (show ((i:Nat):Int) + 1=((i + 1:Nat):Int) by omega)).mpr (ih (i + 1) _ m (by omega) (by omega) (by omega) (by simp;omega) ?_))
     rw [← hv,hd];simp [bitsT,hb2]
end
end Go.Proofs.YtcglbpjpbjaecaaGreat.Sh
namespace Go.Proofs.YtcglbpjpbjaecaaGreat.Sh
open Go Go.Ab Go.RowKit
open Go.Proofs.YtcglbpjpbjaecaaGreat.Ru (Pg okP)
set_option maxRecDepth 10000
theorem z57:zeroV Pg 57=some (.agg [(.int .u8 0),(.int .u64 0),(.int .u16 0),(.int .i64 0),(.str [])]):=by kernel_rfl
theorem zs57:hasShape Pg (.agg [(.int .u8 0),(.int .u64 0),(.int .u16 0),(.int .i64 0),(.str [])]) 57=true:=by kernel_rfl
section
variable (e:Ev) (ok:e.ok) {v:V} {h0:AH} {n1 n6 n8:Nat} {h:AH} {k:V}
include ok
theorem sw (hA:e.kind < 7∧0≤e.a∧e.a < 2147483648∧e.b=0∧(e.kind≠0→e.ck=0∧e.txn=0∧e.page=0∧e.off=0∧e.s.length=0)∧(e.kind≠5→e.keep.length=0)) {s5:List UInt8} (hs5:s5=kindName e.kind) (hk:KeepB h k e.keep) (hv:e.lineV=v) (hn:h0.next≤h.next) (fr:∀ n,n < h0.next→h.m n=h0.m n) (hm1:h.m n1=some (.cells true (.one 73) (evV e k))) (hn1:n1 < h.next∧h0.next≤n1) (hm6:h.m n6=some (.cells true (.one 57) (cV e))) (hn6:n6 < h.next∧h0.next≤n6):Jz22 (Ends v h0) (.ptr (some ⟨n1,.one 73,[]⟩)) (.str s5) (.ptr (some ⟨n6,.one 57,[]⟩)) h:=by
 have k1:=ok.kind;have k2:=ok.a;have k3:=ok.b;have k4:=ok.ck;have k5:=ok.txn;have k6:=ok.page;have k7:=ok.off;have k8:=ok.s;have k9:=ok.keep
 obtain ⟨a,rfl⟩:=hk.shape
 rw [Jz22_eq]
 refine bindS_mk (fa_mk (by kernel_rfl)) ?_
 refine bindV_mk (ld_mk hm1 (by kernel_rfl) rfl) ?_
 refine bindS_mk (b_eql) ?_
 refine i_split (fun c1=>?_) (fun c1=>?_)
 · try rw [c1]
   replace c1:=eq_of_beq c1
   refine callQ (callsP _) fun h2 u2=>?_
   have n2:=u2.next
   have fFR_2:=fun k (hk:k < h0.next)=>(u2.other k (by omega)).trans (fr k hk)
   have fX1_2:=(u2.other _ (by omega)).trans hm1
   have fX6_2:=(u2.other _ (by omega)).trans hm6
   have fC_2:=u2.at_
   refine bindS_mk (fa_mk (by kernel_rfl)) ?_
   refine bindV_mk (ld_mk fX1_2 (by kernel_rfl) rfl) ?_
   refine bindS_mk (b_geq) ?_
   refine g_split_f (fun c3=>?_) (fun c3=>?_)
   · try rw [c3]
     replace c3:=of_decide_eq_false c3
     refine bindS_mk (fa_mk (by kernel_rfl)) ?_
     refine bindV_mk (ld_mk fX6_2 (by kernel_rfl) rfl) ?_
     first | refine bindS_mk (cv_wr (d:=3) (k:=.i64) (by kernel_rfl) (by first | exact wrap_i64 (by omega) (by omega) | exact wr_u8 (by omega) (by omega) | exact wr_u16 (by omega) (by omega) | exact wr_u32 (by omega) (by omega) | exact wr_u64 (by omega) (by omega))) ?_ | refine bindS_mk (cv_int (d:=3) .i64 (by kernel_rfl)) ?_
     refine bindV_mk (len_slc (by kernel_rfl)) ?_
     refine bindS_mk (b_geq) ?_
     refine Meet.of (cast_p (Gze_eq _ _ _ _ _ _ _ _) ?_)
     refine bindV_mk p_f ?_
     refine Meet.of (cast_p (Jz23_eq _ _ _ _ _ _ _) ?_)
     refine i_split (fun c4=>?_) (fun c4=>?_)
     · try rw [c4]
       replace c4:=of_decide_eq_true c4
       exact ⟨congrArg AEnd.ret (hv▸line_no (by unfold Ev.fine;omega)),fFR_2⟩
     · try rw [c4]
       replace c4:=of_decide_eq_false c4
       have e0:e.kind=0:=by omega
       rw [e0] at hs5;subst hs5
       exact Meet.of (ask e ok (by omega) hv (by omega) fFR_2 fX1_2 (by omega) fX6_2 (by omega) fC_2 (by omega))
   · try rw [c3]
     replace c3:=of_decide_eq_true c3
     refine Meet.of (cast_p (Gze_eq _ _ _ _ _ _ _ _) ?_)
     refine bindV_mk p_t ?_
     refine Meet.of (cast_p (Jz23_eq _ _ _ _ _ _ _) ?_)
     refine i_t ?_
     exact ⟨congrArg AEnd.ret (hv▸line_no (by unfold Ev.fine;omega)),fFR_2⟩
 · try rw [c1]
   replace c1:=ne_of_beq_false c1
   refine bindS_mk (b_eql) ?_
   refine i_split (fun c5=>?_) (fun c5=>?_)
   · try rw [c5]
     replace c5:=eq_of_beq c5
     refine bindS_mk (fa_mk (by kernel_rfl)) ?_
     refine bindV_mk (ld_mk hm1 (by kernel_rfl) rfl) ?_
     refine bindS_mk (b_neq) ?_
     refine g_split_f (fun c6=>?_) (fun c6=>?_)
     · try rw [c6]
       replace c6:=eq_of_bne_false c6
       refine bindS_mk (fa_mk (by kernel_rfl)) ?_
       refine bindV_mk (ld_mk hm1 (by kernel_rfl) rfl) ?_
       refine bindV_mk (len_slc (by kernel_rfl)) ?_
       refine bindS_mk (b_gtr) ?_
       refine Meet.of (cast_p (Gzu_eq _ _ _ _ _ _) ?_)
       refine bindV_mk p_f ?_
       refine Meet.of (cast_p (Jz29_eq _ _ _ _ _) ?_)
       refine i_split (fun c7=>?_) (fun c7=>?_)
       · try rw [c7]
         replace c7:=of_decide_eq_true c7
         exact ⟨congrArg AEnd.ret (hv▸line_no (by unfold Ev.fine;omega)),fr⟩
       · try rw [c7]
         replace c7:=of_decide_eq_false c7
         refine Meet.of (cast_p (Jz2a_eq _ _ _ _) ?_)
         refine bindS_mk (t_add (by rw [hs5];have l1:=kindName_len e.kind;simp;omega)) ?_
         refine bindS_mk (fa_mk (by kernel_rfl)) ?_
         refine bindV_mk (ld_mk hm1 (by kernel_rfl) rfl) ?_
         refine bindV_mk (len_slc (by kernel_rfl)) ?_
         have e5:e.kind=5:=by omega
         rw [e5] at hs5;subst hs5
         refine ⟨e.keep.length + 1,Meet.of (crashL e ok hk (by omega) (by omega) fr hm1 (by omega) e.keep.length 0 _ _ (by omega) (by omega) (by omega) (by decide) ?_)⟩
         refine (line_yes (e:=e) (by unfold Ev.fine;omega) ?_).trans hv
         rw [Ev.txt,if_neg (show ¬ e.kind=0 by omega),if_pos e5,List.drop_zero]
         have e6:kindName 5=[99,114,97,115,104]:=rfl
         rw [e6]
         by_cases hz:e.keep.length=0
         · rw [if_pos hz,if_pos hz,List.length_eq_zero_iff.1 hz];rfl
         · rw [if_neg hz,if_neg hz,List.append_nil];rfl
     · try rw [c6]
       replace c6:=ne_of_bne c6
       refine Meet.of (cast_p (Gzu_eq _ _ _ _ _ _) ?_)
       refine bindV_mk p_t ?_
       refine Meet.of (cast_p (Jz29_eq _ _ _ _ _) ?_)
       refine i_t ?_
       exact ⟨congrArg AEnd.ret (hv▸line_no (by unfold Ev.fine;omega)),fr⟩
   · try rw [c5]
     replace c5:=ne_of_beq_false c5
     refine bindS_mk (fa_mk (by kernel_rfl)) ?_
     refine bindV_mk (ld_mk hm1 (by kernel_rfl) rfl) ?_
     refine bindS_mk (cv_wr (d:=49) (k:=.u64) (by kernel_rfl) (wr_u64 (by omega) (by omega))) ?_
     refine callS (numP _ (by omega) (by omega) _) ?_
     refine bindE (bs2_at (e:=9) (by kernel_rfl) z9 (by kernel_rfl) (by kernel_rfl)) fun h8 u8=>?_
     have n8:=u8.next
     have fFR_8:=fun k (hk:k < h0.next)=>(u8.other k (by omega)).trans (fr k hk)
     have fX1_8:=(u8.other _ (by omega)).trans hm1
     have fX6_8:=(u8.other _ (by omega)).trans hm6
     have f8_8:=u8.at_
     refine callS (wordsP _ _ [s5,dec e.a.toNat] _ f8_8 (by simp) (by simp) (by rw [jn2,hs5];have l1:=kindName_len e.kind;have l2:=dec_len20 (n:=e.a.toNat) (by omega);simp;omega)) ?_
     refine Meet.of (cast_p (Jz2e_eq _ _ _) ?_)
     exact ⟨congrArg AEnd.ret ((line_yes (e:=e) (by unfold Ev.fine;omega) (by rw [Ev.txt,if_neg (by omega),if_neg (by omega),hs5,jn2])).trans hv),fFR_8⟩
omit ok in
theorem lineV_old (e:Ev) (m:Nat→Bool):oldV m e.lineV=true:=rfl
theorem line0 {k:V} (hk:KeepB h0 k e.keep):ACalls Pg 122 [evV e k] h0 (Ends e.lineV h0):=by
 have k1:=ok.kind;have k2:=ok.a;have k3:=ok.b;have k4:=ok.ck;have k5:=ok.txn;have k6:=ok.page;have k7:=ok.off;have k8:=ok.s;have k9:=ok.keep
 obtain ⟨a,rfl⟩:=hk.shape
 obtain ⟨v,hv⟩:∃ v,e.lineV=v:=⟨_,rfl⟩
 rw [hv]
 refine C122 _ _ _ ?_
 refine bindE (new_at (s73 e a _)) fun h1 u1=>?_
 have n1:=u1.next
 have fFR_1:=fun k (hk:k < h0.next)=>(u1.other k (by omega)).trans ((fun n (_:n < h0.next)=>rfl) k hk)
 have f1_1:=u1.at_
 refine callQ (eventsP _) fun h2 u2=>?_
 have n2:=u2.next
 have fFR_2:=fun k (hk:k < h0.next)=>(u2.other k (by omega)).trans (fFR_1 k hk)
 have f1_2:=(u2.other _ (by omega)).trans f1_1
 have fE_2:=u2.at_
 refine bindS_mk (fa_mk (by kernel_rfl)) ?_
 refine bindV_mk (ld_mk f1_2 (by kernel_rfl) rfl) ?_
 first | refine bindS_mk (cv_wr (d:=3) (k:=.i64) (by kernel_rfl) (by first | exact wrap_i64 (by omega) (by omega) | exact wr_u8 (by omega) (by omega) | exact wr_u16 (by omega) (by omega) | exact wr_u32 (by omega) (by omega) | exact wr_u64 (by omega) (by omega))) ?_ | refine bindS_mk (cv_int (d:=3) .i64 (by kernel_rfl)) ?_
 refine bindV_mk (len_slc (by kernel_rfl)) ?_
 refine bindS_mk (b_geq) ?_
 refine g_split_f (fun c3=>?_) (fun c3=>?_)
 · try rw [c3]
   replace c3:=of_decide_eq_false c3
   refine bindS_mk (fa_mk (by kernel_rfl)) ?_
   refine bindV_mk (ld_mk f1_2 (by kernel_rfl) rfl) ?_
   refine bindS_mk (b_lss) ?_
   refine Meet.of (cast_p (Gz7_eq _ _ _ _ _ _) ?_)
   refine bindV_mk p_f ?_
   refine g_split_f (fun c4=>?_) (fun c4=>?_)
   · try rw [c4]
     replace c4:=of_decide_eq_false c4
     refine bindS_mk (fa_mk (by kernel_rfl)) ?_
     refine bindV_mk (ld_mk f1_2 (by kernel_rfl) rfl) ?_
     refine bindS_mk (b_geq) ?_
     refine Meet.of (cast_p (Gz8_eq _ _ _ _ _ _) ?_)
     refine bindV_mk p_f ?_
     refine g_split_f (fun c5=>?_) (fun c5=>?_)
     · try rw [c5]
       replace c5:=of_decide_eq_false c5
       refine bindS_mk (fa_mk (by kernel_rfl)) ?_
       refine bindV_mk (ld_mk f1_2 (by kernel_rfl) rfl) ?_
       refine bindS_mk (b_neq) ?_
       refine Meet.of (cast_p (Gz9_eq _ _ _ _ _ _) ?_)
       refine bindV_mk p_f ?_
       refine Meet.of (cast_p (Jz1z_eq _ _ _ _ _) ?_)
       refine i_split (fun c6=>?_) (fun c6=>?_)
       · try rw [c6]
         replace c6:=ne_of_bne c6
         exact ⟨congrArg AEnd.ret (hv▸line_no (by unfold Ev.fine;omega)),fFR_2⟩
       · try rw [c6]
         replace c6:=eq_of_bne_false c6
         refine Meet.of (cast_p (Jz20_eq _ _ _ _) ?_)
         refine bindS_mk (fa_mk (by kernel_rfl)) ?_
         refine bindV_mk (ld_mk f1_2 (by kernel_rfl) rfl) ?_
         refine bindS_mk (ia_slc _ (by kernel_rfl) (by omega) (by omega)) ?_
         refine bindV_mk (ld_mk fE_2 (by kernel_rfl) (getKind (k:=e.kind) (by omega))) ?_
         refine bindS_mk (fa_mk (by kernel_rfl)) ?_
         refine bindV_mk (ld_mk f1_2 (by kernel_rfl) rfl) ?_
         refine bindE (al_at z57 zs57) fun h7 u7=>?_
         have n7:=u7.next
         have fFR_7:=fun k (hk:k < h0.next)=>(u7.other k (by omega)).trans (fFR_2 k hk)
         have f1_7:=(u7.other _ (by omega)).trans f1_2
         have fE_7:=(u7.other _ (by omega)).trans fE_2
         have f7_7:=u7.at_
         refine bindE (st_at f7_7 (by kernel_rfl) rfl (s57 e) rfl) fun h8 u8=>?_
         have n8:=u8.next
         have fFR_8:=fun k (hk:k < h0.next)=>(u8.other k (by omega)).trans (fFR_7 k hk)
         have f1_8:=(u8.other _ (by omega)).trans f1_7
         have fE_8:=(u8.other _ (by omega)).trans fE_7
         have f7_8:=u8.at_
         refine bindS_mk (fa_mk (by kernel_rfl)) ?_
         refine bindV_mk (ld_mk f1_8 (by kernel_rfl) rfl) ?_
         refine bindS_mk (b_neq) ?_
         refine g_split_t (fun c9=>?_) (fun c9=>?_)
         · try rw [c9]
           replace c9:=ne_of_bne c9
           refine bindV_mk (ld_mk f7_8 (by kernel_rfl) rfl) ?_
           refine bindS_mk (build57) ?_
           refine bindS_mk (ne57 e _) ?_
           refine Meet.of (cast_p (Gza_eq _ _ _ _ _ _ _) ?_)
           refine bindV_mk p_t ?_
           refine g_split_f (fun c10=>?_) (fun c10=>?_)
           · try rw [c10]
             have l10:(e.ck=0∧e.txn=0∧e.page=0∧e.off=0∧e.s.length=0):=of_decide_eq_true (by simpa only [Bool.not_eq_false'] using c10)
             refine bindS_mk (fa_mk (by kernel_rfl)) ?_
             refine bindV_mk (ld_mk f1_8 (by kernel_rfl) rfl) ?_
             refine bindS_mk (b_neq) ?_
             refine Meet.of (cast_p (Gzb_eq _ _ _ _ _ _ _) ?_)
             refine g_split_t (fun c11=>?_) (fun c11=>?_)
             · try rw [c11]
               replace c11:=ne_of_bne c11
               refine bindS_mk (fa_mk (by kernel_rfl)) ?_
               refine bindV_mk (ld_mk f1_8 (by kernel_rfl) rfl) ?_
               refine bindV_mk (len_slc (by kernel_rfl)) ?_
               refine bindS_mk (b_gtr) ?_
               refine Meet.of (cast_p (Gzc_eq _ _ _ _ _ _ _ _) ?_)
               refine g_ff ?_
               refine bindV_mk p_t ?_
               refine Meet.of (cast_p (Gzd_eq _ _ _ _ _ _ _) ?_)
               refine bindV_mk p_f ?_
               refine Meet.of (cast_p (Jz21_eq _ _ _ _ _ _) ?_)
               refine i_split (fun c12=>?_) (fun c12=>?_)
               · try rw [c12]
                 replace c12:=of_decide_eq_true c12
                 exact ⟨congrArg AEnd.ret (hv▸line_no (by unfold Ev.fine;omega)),fFR_8⟩
               · try rw [c12]
                 replace c12:=of_decide_eq_false c12
                 exact Meet.of (sw e ok (by omega) rfl (hk.keep (by omega) (fun n hn=>fFR_8 n hn)) hv (by omega) fFR_8 f1_8 (by omega) f7_8 (by omega))
             · try rw [c11]
               replace c11:=eq_of_bne_false c11
               refine Meet.of (cast_p (Gzc_eq _ _ _ _ _ _ _ _) ?_)
               refine g_ff ?_
               refine bindV_mk p_f ?_
               refine Meet.of (cast_p (Gzd_eq _ _ _ _ _ _ _) ?_)
               refine bindV_mk p_f ?_
               refine Meet.of (cast_p (Jz21_eq _ _ _ _ _ _) ?_)
               refine i_f ?_
               exact Meet.of (sw e ok (by omega) rfl (hk.keep (by omega) (fun n hn=>fFR_8 n hn)) hv (by omega) fFR_8 f1_8 (by omega) f7_8 (by omega))
           · try rw [c10]
             have l10:¬ (e.ck=0∧e.txn=0∧e.page=0∧e.off=0∧e.s.length=0):=of_decide_eq_false (by simpa only [Bool.not_eq_true'] using c10)
             refine Meet.of (cast_p (Gzb_eq _ _ _ _ _ _ _) ?_)
             refine g_hole ?_
             refine Meet.of (cast_p (Gzc_eq _ _ _ _ _ _ _ _) ?_)
             refine g_tf ?_
             refine Meet.of (cast_p (Gzd_eq _ _ _ _ _ _ _) ?_)
             refine bindV_mk p_t ?_
             refine Meet.of (cast_p (Jz21_eq _ _ _ _ _ _) ?_)
             refine i_t ?_
             exact ⟨congrArg AEnd.ret (hv▸line_no (by unfold Ev.fine;omega)),fFR_8⟩
         · try rw [c9]
           replace c9:=eq_of_bne_false c9
           refine Meet.of (cast_p (Gza_eq _ _ _ _ _ _ _) ?_)
           refine bindV_mk p_f ?_
           refine g_ff ?_
           refine bindS_mk (fa_mk (by kernel_rfl)) ?_
           refine bindV_mk (ld_mk f1_8 (by kernel_rfl) rfl) ?_
           refine bindS_mk (b_neq) ?_
           refine Meet.of (cast_p (Gzb_eq _ _ _ _ _ _ _) ?_)
           refine g_split_t (fun c13=>?_) (fun c13=>?_)
           · try rw [c13]
             replace c13:=ne_of_bne c13
             refine bindS_mk (fa_mk (by kernel_rfl)) ?_
             refine bindV_mk (ld_mk f1_8 (by kernel_rfl) rfl) ?_
             refine bindV_mk (len_slc (by kernel_rfl)) ?_
             refine bindS_mk (b_gtr) ?_
             refine Meet.of (cast_p (Gzc_eq _ _ _ _ _ _ _ _) ?_)
             refine g_ff ?_
             refine bindV_mk p_t ?_
             refine Meet.of (cast_p (Gzd_eq _ _ _ _ _ _ _) ?_)
             refine bindV_mk p_f ?_
             refine Meet.of (cast_p (Jz21_eq _ _ _ _ _ _) ?_)
             refine i_split (fun c14=>?_) (fun c14=>?_)
             · try rw [c14]
               replace c14:=of_decide_eq_true c14
               exact ⟨congrArg AEnd.ret (hv▸line_no (by unfold Ev.fine;omega)),fFR_8⟩
             · try rw [c14]
               replace c14:=of_decide_eq_false c14
               exact Meet.of (sw e ok (by omega) rfl (hk.keep (by omega) (fun n hn=>fFR_8 n hn)) hv (by omega) fFR_8 f1_8 (by omega) f7_8 (by omega))
           · try rw [c13]
             replace c13:=eq_of_bne_false c13
             refine Meet.of (cast_p (Gzc_eq _ _ _ _ _ _ _ _) ?_)
             refine g_ff ?_
             refine bindV_mk p_f ?_
             refine Meet.of (cast_p (Gzd_eq _ _ _ _ _ _ _) ?_)
             refine bindV_mk p_f ?_
             refine Meet.of (cast_p (Jz21_eq _ _ _ _ _ _) ?_)
             refine i_f ?_
             exact Meet.of (sw e ok (by omega) rfl (hk.keep (by omega) (fun n hn=>fFR_8 n hn)) hv (by omega) fFR_8 f1_8 (by omega) f7_8 (by omega))
     · try rw [c5]
       replace c5:=of_decide_eq_true c5
       refine Meet.of (cast_p (Gz9_eq _ _ _ _ _ _) ?_)
       refine bindV_mk p_t ?_
       refine Meet.of (cast_p (Jz1z_eq _ _ _ _ _) ?_)
       refine i_t ?_
       exact ⟨congrArg AEnd.ret (hv▸line_no (by unfold Ev.fine;omega)),fFR_2⟩
   · try rw [c4]
     replace c4:=of_decide_eq_true c4
     refine Meet.of (cast_p (Gz8_eq _ _ _ _ _ _) ?_)
     refine bindV_mk p_t ?_
     refine g_tf ?_
     refine Meet.of (cast_p (Gz9_eq _ _ _ _ _ _) ?_)
     refine bindV_mk p_t ?_
     refine Meet.of (cast_p (Jz1z_eq _ _ _ _ _) ?_)
     refine i_t ?_
     exact ⟨congrArg AEnd.ret (hv▸line_no (by unfold Ev.fine;omega)),fFR_2⟩
 · try rw [c3]
   replace c3:=of_decide_eq_true c3
   refine Meet.of (cast_p (Gz7_eq _ _ _ _ _ _) ?_)
   refine bindV_mk p_t ?_
   refine g_tf ?_
   refine Meet.of (cast_p (Gz8_eq _ _ _ _ _ _) ?_)
   refine bindV_mk p_t ?_
   refine g_tf ?_
   refine Meet.of (cast_p (Gz9_eq _ _ _ _ _ _) ?_)
   refine bindV_mk p_t ?_
   refine Meet.of (cast_p (Jz1z_eq _ _ _ _ _) ?_)
   refine i_t ?_
   exact ⟨congrArg AEnd.ret (hv▸line_no (by unfold Ev.fine;omega)),fFR_2⟩
theorem lineP {k:V} (hk:KeepB h0 k e.keep):ACalls Pg 122 [evV e k] h0 (pureE e.lineV h0) :=
 acalls_forget (lineV_old e _) (line0 e ok hk)
end
end Go.Proofs.YtcglbpjpbjaecaaGreat.Sh
namespace Go.Proofs.YtcglbpjpbjaecaaGreat.Sh
open Go Go.Ab Go.RowKit
open Go.Proofs.YtcglbpjpbjaecaaGreat.Ru (Pg okP)
open Go.Proofs.YtcglbpjpbjaecaaGreat.Sj (cutAt cutP cut_idx idxB)
set_option maxRecDepth 10000
def ev0:Ev:=⟨0,0,0,0,0,0,0,[],[]⟩
def kindL (w:List UInt8):List (List UInt8)→Nat→Nat→Nat
 | [],_,kd=>kd
 | x :: l,i,kd=>kindL w l (i + 1) (if x=w then i else kd)
def kindIx (w:List UInt8):Nat:=kindL w kindNames 0 0
structure Cs where
 e:Ev
 rest:List UInt8
def rdN (s:List UInt8):Nat:=(readT s).1
def Cs.txn (c:Cs):Cs:=⟨{ c.e with txn:=rdN (cutAt 32 c.rest).1 },(cutAt 32 c.rest).2.1⟩
def Cs.page (c:Cs):Cs:=⟨{ c.e with page:=rdN (cutAt 32 c.rest).1 % 65536 },(cutAt 32 c.rest).2.1⟩
def Cs.off (c:Cs):Cs:=⟨{ c.e with off:=rdN (cutAt 32 c.rest).1,s:=(backT (cutAt 32 c.rest).2.1).1 },(cutAt 32 c.rest).2.1⟩
def callStep (k:Nat) (c:Cs):Cs :=
 let c:Cs:=⟨{ c.e with ck:=k },c.rest⟩
 let c:=if fTxn k then c.txn else c
 let c:=if fPage k then c.page else c
 if fOff k then c.off else c
def callL (name:List UInt8):Nat→Nat→Cs→Cs
 | 0,_,c=>c
 | j + 1,i,c=>callL name j (i + 1) (if nameOf i=name then callStep i c else c)
def evT (s:List UInt8):Ev :=
 let w:=(cutAt 32 s).1
 let rest:=(cutAt 32 s).2.1
 let k:=kindIx w
 if k=0 then (callL (cutAt 32 (cutAt 32 rest).2.1).1 8 0 ⟨{ ev0 with a:=rdN (cutAt 32 rest).1 },(cutAt 32 (cutAt 32 rest).2.1).2.1⟩).e
 else if k=5 then { ev0 with kind:=5,keep:=if rest=[45] then [] else rest.map fun b=>b == 49 }
 else { ev0 with kind:=k,a:=rdN rest }
theorem cutAt_len (c:UInt8):∀ s:List UInt8,(cutAt c s).1.length≤s.length∧(cutAt c s).2.1.length≤s.length
 | []=>by simp [cutAt]
 | b :: s=>by
   have:=cutAt_len c s
   unfold cutAt
   split
   · simp
   · simp;omega
theorem rdL_lt:∀ (s:List UInt8) (n m:Nat),n < 10 ^ m→(rdL n s).1 < 10 ^ (m + s.length)
 | [],n,m,h=>by simpa [rdL] using h
 | c :: s,n,m,h=>by
   unfold rdL
   split
   · exact Nat.pos_of_ne_zero (by simp)
   · rename_i hc
     have:=rdL_lt s (n * 10 + (c.toNat - 48)) (m + 1) (by rw [Nat.pow_succ];omega)
     rw [List.length_cons,show m + (s.length + 1)=m + 1 + s.length by omega]
     exact this
theorem rdN_lt (s:List UInt8):rdN s < 10000000000:=by
 unfold rdN readT
 split
 · decide
 · rename_i h
   have:=rdL_lt s 0 0 (by decide)
   have h2:(10:Nat) ^ (0 + s.length)≤10 ^ 10:=Nat.pow_le_pow_right (by decide) (by omega)
   exact Nat.lt_of_lt_of_le this h2
theorem kindL_le (w:List UInt8):∀ (l:List (List UInt8)) (i kd m:Nat),kd≤m→i + l.length≤m + 1→kindL w l i kd≤m
 | [],i,kd,m,h,_=>h
 | x :: l,i,kd,m,h,h2=>by
   unfold kindL
   simp at h2
   refine kindL_le w l (i + 1) _ m ?_ (by omega)
   split <;> omega
theorem kindIx_lt (w:List UInt8):kindIx w < 7:=by
 have:=kindL_le w kindNames 0 0 6 (by omega) (by decide)
 unfold kindIx;omega
end Go.Proofs.YtcglbpjpbjaecaaGreat.Sh
