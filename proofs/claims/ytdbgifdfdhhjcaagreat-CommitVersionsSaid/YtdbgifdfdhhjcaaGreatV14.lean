import Derived.Test.YtdbgifdfdhhjcaaGreatV13
import Derived.Test.YtdbgifdfdhhjcaaGreatV05
set_option linter.unusedVariables false
set_option linter.unusedSimpArgs false
set_option linter.unusedSectionVars false
noncomputable section
namespace Go.Proofs.YtdbgifdfdhhjcaaGreat.Sh
section
open Go Go.Ab Go.RowKit
open Go.Proofs.YtdbgifdfdhhjcaaGreat.Ru (Pg yL)
set_option maxRecDepth 100000
noncomputable section
variable (Q:yO->AH->Prop) (ds:List AD) (n n1 n2:Nat) (x0 x1 x2 x4 x5 x6 x7 x8 x9 x10 x11 x12 x13 x14 x15 x16 x17 x18 x19 x20 x24 x25 x26 x27 x28 x29 x30 x33:V) (a0 a1 a2:V) (h:AH)
def B41:=bd Tryz.f41
def R41:List ResultVar:=[.tmp 2]
abbrev N41:=14
def K41:KT:=(sQ lF (jN (jN (.rm [[0,5,7]]) (.two (sQ lF lF [2]) lF) [0,8]) (sQ lF lF [2]) [0]) [0])
def W41 (p l:List Nat) (e:zJ):Prop:=xG Pg N41 B41 K41 p l (zn Pg R41 Q) e h
def z8k:Prop:=W41 Q h [1,1] [] [(0,x0)]
def z2O:Prop:=W41 Q h [1,0,1] [] [(0,x0),(8,x8)]
def Gzy:Prop:=yu Pg N41 B41 K41 [1,0,0] 2 1 [] (zn Pg R41 Q) [(0,x0),(5,x5),(7,x7)] h
theorem G6:z8k Q x0 h=(
 z0 (qy Pg h 121) λb c =>
 z0 (qy Pg c 121) λd e =>
 z0 (z03 (z0y 125 [(0,x0),(1,b),(2,d)]) e) λf g =>
 z0 (z0G g 125 f) λi j =>
 Q (.ret i) j):=K_
theorem Hv:z2O Q x0 x8 h=(
 zP x8 (
 Q (.ret (V.ptr none)) h) (
 z7 (z8k Q x0 h))):=K_
theorem z3J:Gzy Q x0 x5 x7 h=(
 z0 (yc x5 (V.bool true) x7 h) λb c =>
 z7 (z2O Q x0 b c)):=K_
theorem C41 (c :
 z0 (z03 (z0s .lss 3 a0 (V.int .i64 1) true) h) λb c =>
 vp b false (
 z0 (z03 (z0s .gtr 3 a0 (V.int .i64 2048) true) c) λd e =>
 z7 (Gzy Q a0 b d e)) (z7 (Gzy Q a0 b yw c))):z0q 41 [a0] h Q :=
 mkC Tryz.func41 B41 N41 K41 R41 c
def B42:=bd Tryz.f42
def R42:List ResultVar:=[.tmp 6]
abbrev N42:=62
def K42:KT:=(sQ lF (jN (jN (.rm [[0,1,5,12,16]]) (.two (sQ lF lF [6]) lF) [0,1,5,17]) (jN (jN (.rm [[0,1,5,20,26]]) (.two (sQ lF lF [6]) lF) [0,1,5,27]) (jN (sQ lF (sQ lF (.two (sQ lF lF [6]) lF) [0,1,5,7,31]) [0,1,5,7]) (jN (sQ lF (.one (.loop (sQ lF (jN (.two lF lF) (jN (.one (sQ lF (sQ lF (sQ (.nG [8]) (.nG [6,7,10]) [0,1,5,9,33]) [0,1,5,9,33]) [0,1,5,8,33])) lF [0,1,5,33]) [0,1,5,33]) [0,1,5,33,34]) [0,1,5,33])) [0,1,5,33]) (sQ lF lF [6]) []) [0,1,5]) [0,1,5]) [0,1,5]) [0,1,5])
def AY (p l:List Nat) (e:zJ):Prop:=xG Pg N42 B42 K42 p l (zn Pg R42 Q) e h
def z6q:Prop:=AY Q h [1,1,1,1,0,1,0,0,1,1,1] [n] [(0,x0),(1,x1),(5,x5),(33,x33)]
def zbC:Prop:=AY Q h [1,1,1,1,0,1,0,0,1,1] [n] [(0,x0),(1,x1),(5,x5),(33,x33)]
def zbI:Prop:=AY Q h [1,1,1,1,1] [] []
def G9:Prop:=xX Pg N42 B42 K42 [1,1,1,1,0,1,0] [] n (zn Pg R42 Q) [(0,x0),(1,x1),(5,x5),(33,x33)] h
def z3Z:Prop:=AY Q h [1,1,1,1] [] [(0,x0),(1,x1),(5,x5)]
def z9q:Prop:=AY Q h [1,1,1] [] [(0,x0),(1,x1),(5,x5)]
def z6b:Prop:=AY Q h [1,1,0,1] [] [(0,x0),(1,x1),(5,x5),(27,x27)]
def z4b:Prop:=yu Pg N42 B42 K42 [1,1,0,0] 2 1 [] (zn Pg R42 Q) [(0,x0),(1,x1),(5,x5),(20,x20),(26,x26)] h
def zaD:Prop:=AY Q h [1,1] [] [(0,x0),(1,x1),(5,x5)]
def z2q:Prop:=AY Q h [1,0,1] [] [(0,x0),(1,x1),(5,x5),(17,x17)]
def Gzz:Prop:=yu Pg N42 B42 K42 [1,0,0] 2 1 [] (zn Pg R42 Q) [(0,x0),(1,x1),(5,x5),(12,x12),(16,x16)] h
theorem EY:z6q Q n x0 x1 x5 x33 h=(
 z0 (z03 (z0s .add 3 x33 (V.int .i64 1) true) h) λb c =>
 z7 (G9 Q n x0 x1 x5 b c)):=K_
theorem IB:zbC Q n x0 x1 x5 x33 h=(
 z0 (z03 (z0y 198 [(0,x1),(1,x33)]) h) λb c =>
 z0 (z0o c 111 x5) λd e =>
 z0q 95 [d,x33] e (zS (λf g =>
 z0 (z03 (z0y 211 [(0,b),(1,f)]) g) λi j =>
 z0 (z0D j 211) λk l =>
 z0 (z0t l 211 k i) λ_ m =>
 zc (zj (y7 x0 m)) λo =>
 zc (zj (z03 (z0e 125 o 2) m)) λp =>
 zc (zj (z0o m 121 p)) λq =>
 (
 zc (zj (z03 (z0e 211 k 0) m)) λr =>
 zc (zj (z0o m 198 r)) λs =>
 (
 zc (zj (z03 (z0e 211 k 1) m)) λt =>
 zc (zj (z0o m 199 t)) λu =>
 (
 z0 (tq (sX Pg m 121 q s u)) λ_ w=>(
 zc (zj (y7 x0 w)) λy =>
 zc (zj (z03 (z0e 125 y 3) w)) λz =>
 zc (zj (z0o w 122 z)) λA =>
 (
 zc (zj (z0o w 211 k)) λB =>
 (
 z0 (yp Pg w 122 1 [(0,B)]) λC D=>(z0o D 122 z=some (A,D))/\(
 z0 (z0u D .append [122,122] [A,C]) λE F=>(
 zc (zj (y7 x0 F)) λG =>
 zc (zj (z03 (z0e 125 G 3) F)) λH =>
 z0 (z0t F 122 H E) λ_ I=>(
 z7 (z6q Q n x0 x1 x5 x33 I))))))))))) λv h=>Q (.panic v) h)):=K_
theorem Hf:zbI Q h=(
 Q (.ret (V.int .i64 0)) h):=K_
theorem Pn:G9 Q (n+1) x0 x1 x5 x33 h=(
 z0 (z03 (z0s .lss 3 x33 (V.int .i64 4) true) h) λb c =>
 zP b (
 z7 (zbC Q n x0 x1 x5 x33 c)) (
 z7 (zbI Q c))):=K_
theorem CM:z3Z Q x0 x1 x5 h=(
 ∃ n,z7 (G9 Q n x0 x1 x5 (V.int .i64 0) h)):=K_
theorem Hd:z9q Q x0 x1 x5 h=(
 z0q 94 [x0] h (zS (λb c =>
 z0 (z03 (z0s .neq 36 b (V.int .i64 0) true) c) λd e =>
 zP d (
 Q (.ret b) e) (
 z7 (z3Z Q x0 x1 x5 e))) λv h=>Q (.panic v) h)):=K_
theorem Hp:z6b Q x0 x1 x5 x27 h=(
 zP x27 (
 Q (.ret (V.int .i64 1)) h) (
 z7 (z9q Q x0 x1 x5 h))):=K_
theorem HQ:z4b Q x0 x1 x5 x20 x26 h=(
 z0 (yc x20 (V.bool true) x26 h) λb c =>
 z7 (z6b Q x0 x1 x5 b c)):=K_
theorem I8:zaD Q x0 x1 x5 h=(
 z0 (z03 (z0s .lss 3 x1 (V.int .i64 0) true) h) λb c =>
 vp b false (
 z0 (y7 x0 c) λd e =>
 z0 (z03 (z0e 125 d 0) e) λf g =>
 z0 (z0o g 3 f) λi j =>
 z0 (z03 (z0s .geq 3 x1 i false) j) λk l =>
 z7 (z4b Q x0 x1 x5 b k l)) (z7 (z4b Q x0 x1 x5 b yw c))):=K_
theorem EF:z2q Q x0 x1 x5 x17 h=(
 zP x17 (
 Q (.ret (V.int .i64 4)) h) (
 z7 (zaD Q x0 x1 x5 h))):=K_
theorem KM:Gzz Q x0 x1 x5 x12 x16 h=(
 z0 (yc x12 (V.bool true) x16 h) λb c =>
 z7 (z2q Q x0 x1 x5 b c)):=K_
theorem C42 (c :
 z0 (z0G h 111 a2) λb c =>
 z0 (z03 (z0s .eql 23 a0 (V.ptr none) true) c) λd e =>
 vp d false (
 z0 (y7 a0 e) λf g =>
 z0 (z03 (z0e 125 f 7) g) λi j =>
 z0 (z0o j 4 i) λk l =>
 z7 (Gzz Q a0 a1 b d k l)) (z7 (Gzz Q a0 a1 b d yw e))):z0q 42 [a0,a1,a2] h Q :=
 mkC Tryz.func42 B42 N42 K42 R42 c
def B45:=bd Tryz.f45
def R45:List ResultVar:=[.tmp 2]
abbrev N45:=19
def K45:KT:=(sQ lF (jN (jN (.rm [[0,6,10]]) (.two (sQ lF lF [2]) lF) [0,11]) (jN (sQ lF (sQ lF (.two (sQ lF lF [2]) lF) [0,3,15]) [0,3]) (sQ lF (sQ lF lF [2]) []) [0]) [0]) [0])
def W45 (p l:List Nat) (e:zJ):Prop:=xG Pg N45 B45 K45 p l (zn Pg R45 Q) e h
def z6p:Prop:=W45 Q h [1,1,1] [] [(0,x0)]
def zbc:Prop:=W45 Q h [1,1] [] [(0,x0)]
def z9V:Prop:=W45 Q h [1,0,1] [] [(0,x0),(11,x11)]
def z1u:Prop:=yu Pg N45 B45 K45 [1,0,0] 2 1 [] (zn Pg R45 Q) [(0,x0),(6,x6),(10,x10)] h
theorem El:z6p Q x0 h=(
 z0q 84 [x0,(V.y8 none 0),(V.bool true)] h (zS (λb c =>
 Q (.ret (V.int .i64 0)) c) λv h=>Q (.panic v) h)):=K_
theorem D6:zbc Q x0 h=(
 z0q 94 [x0] h (zS (λb c =>
 z0 (z03 (z0s .neq 36 b (V.int .i64 0) true) c) λd e =>
 zP d (
 Q (.ret b) e) (
 z7 (z6p Q x0 e))) λv h=>Q (.panic v) h)):=K_
theorem Cb:z9V Q x0 x11 h=(
 zP x11 (
 Q (.ret (V.int .i64 4)) h) (
 z7 (zbc Q x0 h))):=K_
theorem Wp:z1u Q x0 x6 x10 h=(
 z0 (yc x6 (V.bool true) x10 h) λb c =>
 z7 (z9V Q x0 b c)):=K_
theorem C45 (c :
 z0 (z03 (z0s .eql 23 a0 (V.ptr none) true) h) λb c =>
 vp b false (
 z0 (y7 a0 c) λd e =>
 z0 (z03 (z0e 125 d 7) e) λf g =>
 z0 (z0o g 4 f) λi j =>
 z7 (z1u Q a0 b i j)) (z7 (z1u Q a0 b yw c))):z0q 45 [a0] h Q :=
 mkC Tryz.func45 B45 N45 K45 R45 c
def B57:=bd Tryz.f57
def KN:List ResultVar:=[.cell 4 111,.tmp 5]
abbrev N57:=39
def K57:KT:=(sQ lF (jN (jN (.rm [[0,1,4,9,13]]) (.two (sQ lF lF [4,5]) lF) [0,1,4,14]) (jN (jN (.rm [[0,1,4,18,24]]) (.two (sQ lF lF [4,5]) lF) [0,1,4,25]) (jN (sQ lF (sQ lF (.two (sQ lF lF [4,5]) lF) [0,1,4,6,30]) [0,1,4,6]) (sQ lF lF [4,5]) [0,1,4]) [0,1,4]) [0,1,4]) [0,1,4])
def W57 (p l:List Nat) (e:zJ):Prop:=xG Pg N57 B57 K57 p l (zn Pg KN Q) e h
def zaQ:Prop:=W57 Q h [1,1,1,1] [] [(0,x0),(1,x1),(4,x4)]
def z7p:Prop:=W57 Q h [1,1,1] [] [(0,x0),(1,x1),(4,x4)]
def z6k:Prop:=W57 Q h [1,1,0,1] [] [(0,x0),(1,x1),(4,x4),(25,x25)]
def z3S:Prop:=yu Pg N57 B57 K57 [1,1,0,0] 2 1 [] (zn Pg KN Q) [(0,x0),(1,x1),(4,x4),(18,x18),(24,x24)] h
def z82:Prop:=W57 Q h [1,1] [] [(0,x0),(1,x1),(4,x4)]
def zc5:Prop:=W57 Q h [1,0,1] [] [(0,x0),(1,x1),(4,x4),(14,x14)]
def z2o:Prop:=yu Pg N57 B57 K57 [1,0,0] 2 1 [] (zn Pg KN Q) [(0,x0),(1,x1),(4,x4),(9,x9),(13,x13)] h
theorem Wj:zaQ Q x0 x1 x4 h=(
 z0 (y7 x0 h) λb c =>
 z0 (z03 (z0e 125 b 2) c) λd e =>
 z0 (z0o e 121 d) λf g =>
 z0q 111 [f,x1] g (zS (λi j =>
 z0 (z0t j 111 x4 i) λ_ k =>
 yq (zX Pg [(4,x4),(5,(V.int .i64 0))] k KN) λv=>Q (.ret v) k) λv h=>Q (.panic v) h)):=K_
theorem IK:z7p Q x0 x1 x4 h=(
 z0q 94 [x0] h (zS (λb c =>
 z0 (z03 (z0s .neq 36 b (V.int .i64 0) true) c) λd e =>
 zP d (
 z0 (z03 (z0y 111 []) e) λf g =>
 z0 (z0t g 111 x4 f) λ_ i =>
 yq (zX Pg [(4,x4),(5,b)] i KN) λv=>Q (.ret v) i) (
 z7 (zaQ Q x0 x1 x4 e))) λv h=>Q (.panic v) h)):=K_
theorem DJ:z6k Q x0 x1 x4 x25 h=(
 zP x25 (
 z0 (z03 (z0y 111 []) h) λb c =>
 z0 (z0t c 111 x4 b) λ_ d =>
 yq (zX Pg [(4,x4),(5,(V.int .i64 1))] d KN) λv=>Q (.ret v) d) (
 z7 (z7p Q x0 x1 x4 h))):=K_
theorem P4:z3S Q x0 x1 x4 x18 x24 h=(
 z0 (yc x18 (V.bool true) x24 h) λb c =>
 z7 (z6k Q x0 x1 x4 b c)):=K_
theorem DZ:z82 Q x0 x1 x4 h=(
 z0 (z03 (z0s .lss 3 x1 (V.int .i64 0) true) h) λb c =>
 vp b false (
 z0 (y7 x0 c) λd e =>
 z0 (z03 (z0e 125 d 0) e) λf g =>
 z0 (z0o g 3 f) λi j =>
 z0 (z03 (z0s .geq 3 x1 i false) j) λk l =>
 z7 (z3S Q x0 x1 x4 b k l)) (z7 (z3S Q x0 x1 x4 b yw c))):=K_
theorem FO:zc5 Q x0 x1 x4 x14 h=(
 zP x14 (
 z0 (z03 (z0y 111 []) h) λb c =>
 z0 (z0t c 111 x4 b) λ_ d =>
 yq (zX Pg [(4,x4),(5,(V.int .i64 4))] d KN) λv=>Q (.ret v) d) (
 z7 (z82 Q x0 x1 x4 h))):=K_
theorem IL:z2o Q x0 x1 x4 x9 x13 h=(
 z0 (yc x9 (V.bool true) x13 h) λb c =>
 z7 (zc5 Q x0 x1 x4 b c)):=K_
theorem C57 (c :
 z0 (z0D h 111) λb c =>
 z0 (z03 (z0s .eql 23 a0 (V.ptr none) true) c) λd e =>
 vp d false (
 z0 (y7 a0 e) λf g =>
 z0 (z03 (z0e 125 f 7) g) λi j =>
 z0 (z0o j 4 i) λk l =>
 z7 (z2o Q a0 a1 b d k l)) (z7 (z2o Q a0 a1 b d yw e))):z0q 57 [a0,a1] h Q :=
 mkC Tryz.func57 B57 N57 K57 KN c
def B84:=bd Tryz.f84
def R84:List ResultVar:=[]
abbrev N84:=43
def K84:KT:=(jN (sQ lF (.one (.loop (sQ lF (jN (.two lF lF) (jN (.one (sQ lF (jN (.rm [[0,1,2,6,7,11,12,13,19,24],[0,1,2,7,11,12,13,19,24,28],[0,1,2,7,11,12,13,19,29]]) (.two (.nG [8]) lF) [0,1,2,7,11,12,13,30]) [0,1,2,6,7,11,12,13])) lF [0,1,2,11,12,13]) [0,1,2,11,12,13]) [0,1,2,11,12,13,14]) [0,1,2,11,12,13])) [0,1,2,11,12,13]) lF [0])
def X84 (p:List Nat) (i g:Nat) (l:List Nat) (e:zJ):Prop:=yu Pg N84 B84 K84 p i g l (zn Pg R84 Q) e h
def W84 (p l:List Nat) (e:zJ):Prop:=xG Pg N84 B84 K84 p l (zn Pg R84 Q) e h
def zaf:Prop:=W84 Q h [0,1,0,0,1,1,1] [n] [(0,x0),(1,x1),(2,x2),(11,x11),(12,x12),(13,x13)]
def z6F:Prop:=W84 Q h [0,1,0,0,1,1,0,0,1,1] [n] [(0,x0),(1,x1),(2,x2),(7,x7),(11,x11),(12,x12),(13,x13),(30,x30)]
def z1z:Prop:=X84 Q h [0,1,0,0,1,1,0,0,1,0] 4 3 [n] [(0,x0),(1,x1),(2,x2),(7,x7),(11,x11),(12,x12),(13,x13),(19,x19),(29,x29)]
def z1h:Prop:=X84 Q h [0,1,0,0,1,1,0,0,1,0] 3 2 [n] [(0,x0),(1,x1),(2,x2),(7,x7),(11,x11),(12,x12),(13,x13),(19,x19),(24,x24),(28,x28)]
def z48:Prop:=X84 Q h [0,1,0,0,1,1,0,0,1,0] 2 1 [n] [(0,x0),(1,x1),(2,x2),(6,x6),(7,x7),(11,x11),(12,x12),(13,x13),(19,x19),(24,x24)]
def z9m:Prop:=W84 Q h [0,1,0,0,1,1] [n] [(0,x0),(1,x1),(2,x2),(11,x11),(12,x12),(13,x13)]
def HJ:Prop:=W84 Q h [1] [] [(0,x0)]
def z2j:Prop:=xX Pg N84 B84 K84 [0,1,0] [] n (zn Pg R84 Q) [(0,x0),(1,x1),(2,x2),(11,x11),(12,x12),(13,x13)] h
theorem QB:zaf Q n x0 x1 x2 x11 x12 x13 h=(
 z0 (z03 (z0s .add 3 x13 (V.int .i64 1) true) h) λb c =>
 z7 (z2j Q n x0 x1 x2 x11 x12 b c)):=K_
theorem Xo:z6F Q n x0 x1 x2 x7 x11 x12 x13 x30 h=(
 zP x30 (
 zc (zj (y7 x0 h)) λb =>
 zc (zj (z03 (z0e 125 b 1) h)) λc =>
 zc (zj (z0o h 121 c)) λd =>
 (
 zc (zj (z03 (z0e 211 x7 0) h)) λe =>
 zc (zj (z0o h 198 e)) λf =>
 (
 zc (zj (z03 (z0e 211 x7 1) h)) λg =>
 zc (zj (z0o h 199 g)) λi =>
 (
 z0 (tq (sX Pg h 121 d f i)) λ_ j=>(
 z7 (zaf Q n x0 x1 x2 x11 x12 x13 j)))))) (
 z7 (zaf Q n x0 x1 x2 x11 x12 x13 h))):=K_
theorem lP:z1z Q n x0 x1 x2 x7 x11 x12 x13 x19 x29 h=(
 z0 (yc x19 (V.bool true) x29 h) λb c =>
 z7 (z6F Q n x0 x1 x2 x7 x11 x12 x13 b c)):=K_
theorem iI:z1h Q n x0 x1 x2 x7 x11 x12 x13 x19 x24 x28 h=(
 vp x19 false (
 z0 (yc x24 x28 (V.bool false) h) λb c =>
 z7 (z1z Q n x0 x1 x2 x7 x11 x12 x13 x19 b c)) (z7 (z1z Q n x0 x1 x2 x7 x11 x12 x13 x19 yw h))):=K_
theorem Ga:z48 Q n x0 x1 x2 x6 x7 x11 x12 x13 x19 x24 h=(
 vp x24 true (
 z0 (z03 (z0w 99 x1 x6) h) λb c =>
 z0 (z0o c 4 b) λd e =>
 z7 (z1h Q n x0 x1 x2 x7 x11 x12 x13 x19 x24 d e)) (z7 (z1h Q n x0 x1 x2 x7 x11 x12 x13 x19 x24 yw h))):=K_
theorem QP:z9m Q n x0 x1 x2 x11 x12 x13 h=(
 z0 (z03 (z0w 122 x11 x13) h) λb c =>
 z0 (z0o c 211 b) λd e =>
 z0 (z0D e 211) λf g =>
 z0 (z0t g 211 f d) λ_ i =>
 vp x2 false (
 z0 (z0u i .len [99] [x1]) λj k =>
 z0 (z03 (z0s .lss 3 x13 j false) k) λl m =>
 z7 (z48 Q n x0 x1 x2 x13 f x11 x12 x13 x2 l m)) (z7 (z48 Q n x0 x1 x2 x13 f x11 x12 x13 x2 yw i))):=K_
theorem QS:HJ Q x0 h=(
 z0 (y7 x0 h) λb c =>
 z0 (z03 (z0e 125 b 3) c) λd e =>
 z0 (z0t e 122 d (V.y8 none 0)) λ_ f =>
 Q (.ret (V.yX [])) f):=K_
theorem z0K:z2j Q (n+1) x0 x1 x2 x11 x12 x13 h=(
 z0 (z03 (z0s .lss 3 x13 x12 false) h) λb c =>
 zP b (
 z7 (z9m Q n x0 x1 x2 x11 x12 x13 c)) (
 z7 (HJ Q x0 c))):=K_
theorem C84 (c :
 z0 (y7 a0 h) λb c =>
 z0 (z03 (z0e 125 b 3) c) λd e =>
 z0 (z0o e 122 d) λf g =>
 z0 (z0u g .len [122] [f]) λi j =>
 ∃ n,z7 (z2j Q n a0 a1 a2 f i (V.int .i64 0) j)):z0q 84 [a0,a1,a2] h Q :=
 mkC Tryz.func84 B84 N84 K84 R84 c
def B94:=bd Tryz.f94
def R94:List ResultVar:=[.tmp 2]
abbrev N94:=38
def K94:KT:=(sQ lF (sQ lF (jN (jN (.rm [[0,15,24]]) (.two (sQ lF (sQ lF lF [2]) []) lF) [0,25]) (jN (sQ lF (.two (sQ lF lF [2]) lF) [37]) (sQ lF lF [2]) []) [0]) [0]) [0])
def W94 (p l:List Nat) (e:zJ):Prop:=xG Pg N94 B94 K94 p l (zn Pg R94 Q) e h
def zcs:Prop:=W94 Q h [1,1,1,1] [] []
def zaW:Prop:=W94 Q h [1,1,1] [] [(0,x0)]
def z22:Prop:=W94 Q h [1,1,0,1] [] [(0,x0),(25,x25)]
def z1G:Prop:=bH Pg N94 B94 K94 [1,1,0,0] 2 1 15 [] (zn Pg R94 Q) [(0,x0),(15,x15),(24,x24)] h
theorem Df:zcs Q h=(
 Q (.ret (V.int .i64 0)) h):=K_
theorem HS:zaW Q x0 h=(
 zc (zj (y7 x0 h)) λb =>
 zc (zj (z03 (z0e 125 b 4) h)) λc =>
 zc (zj (z0o h 123 c)) λd =>
 zc (zj (y7 x0 h)) λe =>
 zc (zj (z03 (z0e 125 e 6) h)) λf =>
 zc (zj (z0o h 3 f)) λg =>
 zc (zj (z03 (sB Pg h 123 d g false) h)) λi =>
 zP i (
 Q (.ret (V.int .i64 3)) h) (
 z7 (zcs Q h))):=K_
theorem EX:z22 Q x0 x25 h=(
 zP x25 (
 z0 (y7 x0 h) λb c =>
 z0 (z03 (z0e 125 b 7) c) λd e =>
 z0 (z0t e 4 d (V.bool true)) λ_ f =>
 Q (.ret (V.int .i64 4)) f) (
 z7 (zaW Q x0 h))):=K_
theorem I5:z1G Q x0 x15 x24 h=(
 zc (zj (yc x15 x24 (V.bool false) h)) λb =>
 z7 (z22 Q x0 b h)):=K_
theorem C94 (c :
 z0 (y7 a0 h) λb c =>
 z0 (z03 (z0e 125 b 6) c) λd e =>
 z0 (z0o e 3 d) λf g =>
 z0 (z03 (z0s .add 3 f (V.int .i64 1) true) g) λi j =>
 z0 (y7 a0 j) λk l =>
 z0 (z03 (z0e 125 k 6) l) λm o =>
 z0 (z0t o 3 m i) λ_ p =>
 zc (zj (y7 a0 p)) λq =>
 zc (zj (z03 (z0e 125 q 5) p)) λr =>
 zc (zj (z0o p 3 r)) λs =>
 zc (zj (z03 (z0s .geq 3 s (V.int .i64 1) true) p)) λt =>
 vp t true (
 zc (zj (y7 a0 p)) λu =>
 zc (zj (z03 (z0e 125 u 6) p)) λw =>
 zc (zj (z0o p 3 w)) λy =>
 zc (zj (y7 a0 p)) λz =>
 zc (zj (z03 (z0e 125 z 5) p)) λA =>
 zc (zj (z0o p 3 A)) λB =>
 zc (zj (z03 (z0s .eql 3 y B false) p)) λC =>
 z7 (z1G Q a0 t C p)) (z7 (z1G Q a0 t yw p))):z0q 94 [a0] h Q :=
 mkC Tryz.func94 B94 N94 K94 R94 c
def ED:=bd Tryz.f111
def Or:List ResultVar:=[.cell 4 111]
abbrev z2S:=20
def HA:KT:=(sQ lF (sQ lF (jN (sQ lF (.one (.loop (sQ lF (jN (.two lF lF) (jN (.one (sQ lF (.nG [8]) [0,1,4,5,6,7])) lF [0,1,4,5,7]) [0,1,4,5,7]) [0,1,4,5,7,8]) [0,1,4,5,7])) [0,1,4,5,7]) (sQ lF lF [4]) [4,5]) [0,1,4,5]) [0,1,4])
def z1U (p l:List Nat) (e:zJ):Prop:=xG Pg z2S ED HA p l (zn Pg Or Q) e h
def ze7:Prop:=z1U Q h [1,1,0,1,0,0,1,1,1] [n] [(0,x0),(1,x1),(4,x4),(5,x5),(7,x7)]
def zea:Prop:=z1U Q h [1,1,0,1,0,0,1,1] [n] [(0,x0),(1,x1),(4,x4),(5,x5),(7,x7)]
def z6U:Prop:=z1U Q h [1,1,1] [] [(4,x4),(5,x5)]
def HL:Prop:=xX Pg z2S ED HA [1,1,0,1,0] [] n (zn Pg Or Q) [(0,x0),(1,x1),(4,x4),(5,x5),(7,x7)] h
theorem z4o:ze7 Q n x0 x1 x4 x5 x7 h=(
 z0 (z03 (z0s .add 3 x7 (V.int .i64 1) true) h) λb c =>
 z7 (HL Q n x0 x1 x4 x5 b c)):=K_
theorem z4m:zea Q n x0 x1 x4 x5 x7 h=(
 zc (zj (z0o h 111 x5)) λb =>
 (
 zc (zj (z03 (z0y 198 [(0,x1),(1,x7)]) h)) λc =>
 zc (zj (z03 (sB Pg h 121 x0 c false) h)) λd =>
 (
 ∃ e,z0q 149 [b,x7,d] h (zO e h)/\(
 (
 z0 (z0t h 111 x5 e) λ_ f=>(
 z7 (ze7 Q n x0 x1 x4 x5 x7 f))))))):=K_
theorem Cw:z6U Q x4 x5 h=(
 z0 (z0o h 111 x5) λb c =>
 z0 (z0t c 111 x4 b) λ_ d =>
 yq (zX Pg [(4,x4)] d Or) λv=>Q (.ret v) d):=K_
theorem Iw:HL Q (n+1) x0 x1 x4 x5 x7 h=(
 z0 (z03 (z0s .lss 3 x7 (V.int .i64 4) true) h) λb c =>
 zP b (
 z7 (zea Q n x0 x1 x4 x5 x7 c)) (
 z7 (z6U Q x4 x5 c))):=K_
theorem C111 (c :
 z0 (z0D h 111) λb c =>
 z0 (z0D c 111) λd e =>
 ∃ n,z7 (HL Q n a0 a1 b d (V.int .i64 0) e)):z0q 111 [a0,a1] h Q :=
 mkC Tryz.func111 ED z2S HA Or c
def z40:=bd Tryz.f138
def z6e:List ResultVar:=[.tmp 2]
abbrev zbW:=9
def z3A:KT:=(sQ lF (jN (sQ lF (.two (sQ lF lF [2]) lF) [0,4]) (sQ lF lF [2]) [0]) [0])
def zay:Prop:=xG Pg zbW z40 z3A [1,1] [] (zn Pg z6e Q) [(0,x0)] h
theorem XG:zay Q x0 h=(
 z0 (y7 x0 h) λb c =>
 z0 (z03 (z0e 125 b 0) c) λd e =>
 z0 (z0o e 3 d) λf g =>
 Q (.ret f) g):=K_
theorem C138 (c :
 z0 (z03 (z0s .eql 23 a0 (V.ptr none) true) h) λb c =>
 zP b (
 Q (.ret (V.int .i64 0)) c) (
 z7 (zay Q a0 c))):z0q 138 [a0] h Q :=
 mkC Tryz.func138 z40 zbW z3A z6e c
end
end
open Go Go.Ab Go.RowKit
open Go.Proofs.YtdbgifdfdhhjcaaGreat.Ru (Pg yL)
set_option maxRecDepth 10000
set_option linter.unusedSectionVars false
def vC (v:V) (h0:AH):yO->AH->Prop:=λe h'=>e=.ret v/\∀ n,n<h0.next->h'.m n=h0.m n
theorem rE (m:Nat->Bool) (l:List UInt8):tK m (.agg (zd l))=true:=by
 show oh m (zd l)=true;induction l with
 | nil=>rfl
 | cons b l ih=>exact ih
abbrev Sm:=List ((Nat × Nat) × List UInt8)
def cW (b i:Nat):V:=.agg [.int .i64 b,.int .i64 i]
def Te (l:Sm):List (V × V):=l.map λx=>(cW x.1.1 x.1.2,.agg (zd x.2))
def vr:Sm->Nat × Nat->Option (Nat × List UInt8)
 | [],_=>none
 | (k',s) :: l,k=>if k'=k then some (0,s) else (vr l k).map λx=>(x.1+1,x.2)
def aU (l:Sm) (k:Nat × Nat):Option (List UInt8):=(vr l k).map (·.2)
def sV:Sm->Nat × Nat->List UInt8->Sm
 | [],k,s=>[(k,s)]
 | (k',s') :: l,k,s=>if k'=k then (k,s) :: l else (k',s') :: sV l k s
theorem z25 (b i b' i':Nat):wW (cW b i) (cW b' i')=some (decide ((b',i')=(b,i))):=by
 simp only [cW,wW,v9,if_true];by_cases h1:b=b'
 ·by_cases h2:i=i'
  ·subst h1 h2;simp
  ·subst h1;have:((i:Int) == (i':Int))=false:=beq_eq_false_iff_ne.2 O_;simp [this,Ne.symm h2]
 ·have:((b:Int) == (b':Int))=false:=beq_eq_false_iff_ne.2 O_;simp [this,Ne.symm h1]
theorem cU (b i:Nat):∀ l:Sm,rk (cW b i) (Te l)=some ((vr l (b,i)).map λx=>(x.1,.agg (zd x.2)))
 | []=>rfl
 | ((b',i'),s) :: l=>by
  have e:Te (((b',i'),s) :: l)=(cW b' i',.agg (zd s)) :: Te l:=rfl;rw [e,rk,z25];by_cases h:(b',i')=(b,i)
  ·rw [decide_eq_true h,vr,if_pos h];rfl
  ·rw [decide_eq_false h,vr,if_neg h];simp only [cU b i l];cases vr l (b,i) with
   | none=>rfl
   | some x=>rfl
theorem Z2 {k:Nat × Nat} {s s0:List UInt8}:∀ {l:Sm} {j:Nat},vr l k=some (j,s0)->(Te l).set j (cW k.1 k.2,.agg (zd s))=Te (sV l k s)
 | [],j,h=>by cases h
 | (k',s') :: l,j,h=>by
  unfold vr at h;by_cases q:k'=k
  ·rw [if_pos q] at h;simp only [Option.some.injEq,Prod.mk.injEq] at h;obtain ⟨rfl,rfl⟩:=h;rw [sV,if_pos q];rfl
  ·rw [if_neg q] at h;cases hf:vr l k with
   | none=>rw [hf] at h;cases h
   | some x =>
    rw [hf] at h;simp only [Option.map_some,Option.some.injEq,Prod.mk.injEq] at h;obtain ⟨rfl,rfl⟩:=h;rw [sV,if_neg q];have:=Z2 (s:=s) hf;show (cW k'.1 k'.2,V.agg (zd s')) :: (Te l).set x.1 _=_;rw [this];rfl
theorem aq {k:Nat × Nat} {s:List UInt8}:∀ {l:Sm},vr l k=none->Te l++[(cW k.1 k.2,.agg (zd s))]=Te (sV l k s)
 | [],h=>rfl
 | (k',s') :: l,h=>by
  unfold vr at h;by_cases q:k'=k
  ·rw [if_pos q] at h;cases h
  ·rw [if_neg q] at h;have h2:vr l k=none:=by
    cases hf:vr l k with
    | none=>rfl
    | some x=>rw [hf] at h;cases h
   rw [sV,if_neg q];have:=aq (s:=s) h2;show (cW k'.1 k'.2,V.agg (zd s')) :: (Te l++_)=_;rw [this];rfl
theorem YI (k k2:Nat × Nat) (s:List UInt8):∀ l:Sm,aU (sV l k s) k2=if k=k2 then some s else aU l k2
 | []=>by
  unfold sV aU vr;split <;> simp [vr]
 | (k',s') :: l=>by
  have ih:=YI k k2 s l;unfold aU at ih ⊢;unfold sV;by_cases q:k'=k
  ·rw [if_pos q,vr,vr];subst q;split <;> simp
  ·rw [if_neg q,vr,vr];by_cases r:k'=k2
   ·rw [if_pos r,if_pos r,if_neg (λe=>q (r.trans e.symm))]
   ·rw [if_neg r,if_neg r];simp only [Option.map_map];have e2:((λx:Nat × List UInt8=>x.2) ∘ λx:Nat × List UInt8=>(x.1+1,x.2))=λx=>x.2:=rfl;rw [e2,ih]
def pY (l:Sm):Prop:=∀ x∈l,x.2.length=64
theorem bE {l:Sm} {k:Nat × Nat} {s:List UInt8} (h:pY l) (hs:s.length=64):pY (sV l k s):=by
 induction l with
 | nil=>intro x hx;simp [sV] at hx;subst hx;exact hs
 | cons y l ih =>
  intro x hx;unfold sV at hx;split at hx
  ·rcases List.mem_cons.1 hx with rfl | q
   ·exact hs
   ·exact h x (List.mem_cons_of_mem _ q)
  ·rcases List.mem_cons.1 hx with rfl | q
   ·exact h _ List.mem_cons_self
   ·exact ih (λz hz=>h z (List.mem_cons_of_mem _ hz)) x q
theorem Zh {k:Nat × Nat}:∀ {l:Sm} {x:Nat × List UInt8},vr l k=some x->(k,x.2)∈l
 | [],x,h=>by cases h
 | (k',s') :: l,x,h=>by
  unfold vr at h;by_cases q:k'=k
  ·rw [if_pos q] at h;cases h;subst q;exact List.mem_cons_self
  ·rw [if_neg q] at h;cases hf:vr l k with
   | none=>rw [hf] at h;cases h
   | some y=>rw [hf] at h;cases h;exact List.mem_cons_of_mem _ (Zh (x:=y) hf)
def oZ (l:Sm) (b i:Nat):List UInt8:=(aU l (b,i)).getD (xM 64)
theorem Yj {l:Sm} (h:pY l) (b i:Nat):(oZ l b i).length=64:=by
 unfold oZ aU;cases hf:vr l (b,i) with
 | none=>exact zI 64
 | some x=>exact h _ (Zh hf)
def mO (l:Sm) (b:Nat) (i:Nat):List UInt8:=(List.range i).flatMap (oZ l b)
def tu (l:Sm) (b:Nat):List UInt8:=mO l b 4
theorem ni {l:Sm} (h:pY l) (b:Nat):∀ i:Nat,(mO l b i).length=64*i
 | 0=>rfl
 | i+1=>by
  have ih:=ni h b i;unfold mO at *;rw [List.range_succ,List.flatMap_append,List.length_append,ih];simp [Yj h b i];omega
theorem nj {l:Sm} (h:pY l) (b:Nat):(tu l b).length=256:=ni h b 4
theorem z7l {h:AH} {n:Nat} {l:Sm} (hm:h.m n=some (.mp 198 199 (Te l))) (b i:Nat):sB Pg h 121 (.map (some n)) (cW b i) false=some (.agg (zd (oZ l b i))):=by
 have hu:ul Pg 121=some (.map 198 199):=K_;have hp:(yz Pg 20 198&&zf Pg (cW b i) 198)=true:=K_;unfold sB;rw [hu];simp only [hp,if_true,hm,and_self];rw [cU];unfold oZ aU;cases vr l (b,i) with
 | none=>simp only [Option.map_none,z2D];rfl
 | some x=>rfl
theorem Ak {h:AH} {n:Nat} {l:Sm} (hm:h.m n=some (.mp 198 199 (Te l))) (b i:Nat) {s:List UInt8} (hs:s.length=64) :
 ∃ h',tq (sX Pg h 121 (.map (some n)) (cW b i) (.agg (zd s)))=some (yw,h')/\lD h h' n (.mp 198 199 (Te (sV l (b,i) s))):=by
 have hu:ul Pg 121=some (.map 198 199):=K_;have hp:(yz Pg 20 198&&zf Pg (cW b i) 198)=true:=K_;unfold sX;rw [hu];simp only [hp,bF hs,Bool.and_self,if_true,hm,and_self];rw [cU];cases hf:vr l (b,i) with
 | none =>
  simp only [Option.map_none];rw [aq hf];exact ⟨_,rfl,ot _ _ _⟩
 | some x =>
  simp only [Option.map_some];rw [Z2 hf];exact ⟨_,rfl,ot _ _ _⟩
section
variable {l:Sm} {b:Nat}
theorem z1F (hl:pY l) {i:Nat} (hi:i<4):WT (mO l b i++xM (256-64*i)) i (oZ l b i)=mO l b (i+1)++xM (256-64*(i+1)):=by
 have h1:=ni hl b i;unfold WT;rw [List.take_append_of_le_length O_,List.take_of_length_le O_,List.drop_append,List.drop_eq_nil_of_le O_,List.nil_append,h1];have e1:(xM (256-64*i)).drop (64*i+64-64*i)=xM (256-64*(i+1)):=by
  unfold xM;rw [List.drop_replicate];congr 1;omega
 rw [e1];unfold mO;rw [List.range_succ,List.flatMap_append];simp
theorem QY (hl:pY l) {h0:AH} {n nO nR:Nat} (hR:nR>=h0.next) (hO:nO>=h0.next) (wO:nO≠nR):∀ (j i m:Nat) (h:AH),i+j=4->j<m->h.m n=some (.mp 198 199 (Te l))->(∃ w,h.m nR=some (.cells true (.one 111) w))->h.m nO=some (.cells true (.one 111) (.agg (zd (mO l b i++xM (256-64*i))))) ->
 (∀ q,q<h0.next->h.m q=h0.m q)->HL (vC (.agg (zd (tu l b))) h0) m (.map (some n)) (.int .i64 b) (X2 nR) (X2 nO) (.int .i64 i) h
 | j,i,0,h,sT,hm,_,_,_,_=>by omega
 | 0,i,m+1,h,sT,hm,fm,⟨w,fR⟩,fO,fr=>by
  obtain rfl:i=4:=O_;rw [Iw];refine z6 vq ?_;rw [decide_eq_false O_];apply yZ;have e0:mO l b 4++xM (256-64*4)=tu l b:=by show mO l b 4++[]=_;rw [List.append_nil];rfl
  rw [e0] at fO;refine sm (Cw _ _ _ _) ?_;refine ze (zR (p:=[]) fO K_ rfl) ?_;refine zq (zM (p:=[]) fR K_ rfl (tY (nj hl b)) rfl) λh1 u1=>?_;have q1:=zR (P:=Pg) (t:=111) (p:=[]) u1.at_ K_ (w:=.agg (zd (tu l b))) rfl;simp only [z9] at q1;have q2:=(zK q1).1;refine yr (show zX Pg _ _ Or=some [.agg (zd (tu l b))] by simp [Or,zX,zJ.get,q2]) ?_;exact ⟨rfl,λq hq=>(u1.other _ O_).trans (fr q hq)⟩
 | j+1,i,m+1,h,sT,hm,fm,⟨w,fR⟩,fO,fr=>by
  rw [Iw];refine z6 vq ?_;rw [decide_eq_true O_];apply xz;refine sm (z4m _ _ _ _ _ _ _ _) ?_;refine zN (zR (p:=[]) fO K_ rfl) ?_;refine zg (show zD Pg 198 [(0,.int .i64 b),(1,.int .i64 i)]=some (cW b i) from K_) ?_;refine zg (z7l fm b i) ?_;have hlen:(mO l b i++xM (256-64*i)).length=256:=by rw [List.length_append,ni hl,zI];omega
  refine ⟨_,layP hlen (Yj hl b i) O_ h,?_⟩;rw [z1F hl O_];have O5:(mO l b (i+1)++xM (256-64*(i+1))).length=256:=by rw [List.length_append,ni hl,zI];omega
  refine zq (zM (p:=[]) fO K_ rfl (tY O5) rfl) λh1 u1=>?_;refine sm (z4o _ _ _ _ _ _ _ _) ?_;refine z6 (vu (zW O_ O_)) ?_;have vk:n≠nO:=uQ fm fO (by simp [AO.tag]);exact z7.of (QY hl hR hO wO j (i+1) m h1 O_ O_ ((u1.other _ vk).trans fm) ⟨w,(u1.other _ wO.symm).trans fR⟩ u1.at_ λq hq=>(u1.other _ O_).trans (fr q hq))
end
theorem HI {h:AH} {n:Nat} {l:Sm} (hl:pY l) (hn:n<h.next) (fm:h.m n=some (.mp 198 199 (Te l))) (b:Nat):z0q 111 [.map (some n),.int .i64 b] h (zO (.agg (zd (tu l b))) h):=by
 refine yN (show tK _ (V.agg (zd (tu l b)))=true from rE _ _) ?_;show z0q 111 _ h (vC _ h);refine C111 _ _ _ _ ?_;refine zq (yA SD (tY (zI 256))) λh1 u1=>?_;have n1:=u1.next;refine zq (yA SD (tY (zI 256))) λh2 u2=>?_;have n2:=u2.next;exact ⟨5,z7.of (QY hl (Nat.le_refl _) O_ O_ 4 0 5 h2 O_ O_ ((u2.other _ O_).trans ((u1.other _ O_).trans fm)) ⟨_,(u2.other _ O_).trans u1.at_⟩ u2.at_ λq hq=>(u2.other _ O_).trans (u1.other _ O_))⟩
def nD (e:TypeId) (h:AH) (x:V) (xs:List V):Prop :=
 (x=.y8 none 0/\xs=[])\/∃ n,n<h.next/\x=.y8 (some (⟨n,.row e,[]⟩,0)) xs.length/\h.m n=some (.cells true (.row e) (.agg xs))
theorem nD.zA {T:xr} {e:TypeId} {h h':AH} {x:V} {xs:List V} (b:nD e h x xs) (q:zb T h h') (ht:T.contains (1,e,0)=false):nD e h' x xs:=by
 rcases b with ⟨rfl,rfl⟩ | ⟨n,h1,rfl,h3⟩
 ·exact .inl ⟨rfl,rfl⟩
 ·exact .inr ⟨n,by have:=q.next;omega,rfl,q.at h3 h1 ht⟩
theorem nD.elems {e:TypeId} {h:AH} {x:V} {xs:List V} (b:nD e h x xs):xY Pg h e x=some xs:=by
 rcases b with ⟨rfl,rfl⟩ | ⟨n,h1,rfl,h3⟩
 ·rfl
 ·exact wV h3
theorem nD.shape {e:TypeId} {h:AH} {x:V} {xs:List V} (b:nD e h x xs):∃ a,x=.y8 a xs.length:=by
 rcases b with ⟨rfl,rfl⟩ | ⟨n,h1,rfl,h3⟩ <;> exact ⟨_,rfl⟩
theorem nD.app {e t xt:TypeId} {h:AH} {x y:V} {xs ws:List V} (b:nD e h x xs) (hc:gI Pg t xt e=true) (hy:xY Pg h e y=some ws) (hw:ws≠[]) (hl:(xs.length+ws.length)*Pg.bytesOf e<=140737488355328) :
 ∃ v h',zr Pg h .append [t,xt] [x,y]=some (v,h')/\nD e h' v (xs++ws)/\zb [(1,e,0)] h h':=by
 rcases b with ⟨rfl,rfl⟩ | ⟨n,h1,rfl,h3⟩
 ·obtain ⟨h',e1,u⟩:=Wi (n:=0) hc hy hw (by simpa using hl);exact ⟨_,h',e1,.inr ⟨h.next,by rw [u.next];omega,rfl,u.at_⟩,zb.new u⟩
 ·obtain ⟨h',e1,u⟩:=To (i:=0) (n:=xs.length) hc h1 h3 O_ hy hw hl;refine ⟨_,h',e1,.inr ⟨h.next,by rw [u.next];omega,by rw [List.length_append],?_⟩,zb.rep u h3 (by simp [AO.tag])⟩;rw [u.at_,List.drop_zero,List.take_of_length_le O_]
structure Dk where
 n:Nat
 sure:Sm
 seen:Sm
 zT:Sm
 ug:Int->Bool
 uT:Int
 ops:Nat
 down:Bool
structure Dk.ok (d:Dk):Prop where
 n:1<=d.n/\d.n<=2048
 sure:pY d.sure
 seen:pY d.seen
 zT:pY d.zT
 uT:-9223372036854775808<=d.uT/\d.uT<9223372036854775808
def SM (x:(Nat × Nat) × List UInt8):V:=.agg [cW x.1.1 x.1.2,.agg (zd x.2)]
def fL (h:AH) (v:V) (f:Int->Bool):Prop :=
 (v=.map none/\∀ i,f i=false)\/∃ n es,n<h.next/\v=.map (some n)/\h.m n=some (.mp 3 4 es)/\∀ i:Int,(rk (.int .i64 i) es=some none/\f i=false)\/∃ j,rk (.int .i64 i) es=some (some (j,.bool (f i)))
theorem fL.zA {T:xr} {h h':AH} {v:V} {f:Int->Bool} (b:fL h v f) (q:zb T h h') (ht:T.contains (2,3,4)=false):fL h' v f:=by
 rcases b with ⟨rfl,g⟩ | ⟨n,es,h1,rfl,h3,h4⟩
 ·exact .inl ⟨rfl,g⟩
 ·exact .inr ⟨n,es,by have:=q.next;omega,rfl,q.at h3 h1 ht,h4⟩
theorem fL.look {h:AH} {v:V} {f:Int->Bool} (b:fL h v f) (i:Int):sB Pg h 123 v (.int .i64 i) false=some (.bool (f i)):=by
 have hu:ul Pg 123=some (.map 3 4):=K_;have hp:(yz Pg 20 3&&zf Pg (.int .i64 i) 3)=true:=K_;have hz:xk Pg 4=some (.bool false):=K_;unfold sB;rw [hu];rcases b with ⟨rfl,g⟩ | ⟨n,es,h1,rfl,h3,h4⟩
 ·simp only [hp,if_true,hz,g];rfl
 ·simp only [hp,if_true,h3,and_self];rcases h4 i with ⟨g1,g2⟩ | ⟨j,g1⟩
  ·simp only [g1,hz,g2];rfl
  ·simp only [g1];rfl
def JA (d:Dk) (a b:Nat) (pv fv:V):V:=.agg [.int .i64 d.n,.map (some a),.map (some b),pv,fv,.int .i64 d.uT,.int .i64 d.ops,.bool d.down]
structure Xn (h:AH) (p a b:Nat) (pv fv:V) (d:Dk):Prop where
 vw:h.m p=some (.cells true (.one 125) (JA d a b pv fv))
 T0:h.m a=some (.mp 198 199 (Te d.sure))
 X9:h.m b=some (.mp 198 199 (Te d.seen))
 T1:nD 211 h pv (d.zT.map SM)
 Zv:fL h fv d.ug
 o:p<h.next/\a<h.next/\b<h.next/\a≠b
 ok:d.ok
def qf (h:AH) (p:Nat) (d:Dk):Prop:=∃ a b pv fv,Xn h p a b pv fv d
abbrev pU (p:Nat):V:=.ptr (some ⟨p,.one 125,[]⟩)
abbrev QF:xr:=[(0,125,0)]
abbrev gU:xr:=[(0,125,0),(2,198,199),(1,211,0)]
theorem Xn.zA {T:xr} {h h':AH} {p a b:Nat} {pv fv:V} {d:Dk} (k:Xn h p a b pv fv d) (q:zb T h h') (h1:T.contains (0,125,0)=false) (h2:T.contains (2,198,199)=false) (h3:T.contains (1,211,0)=false) (h4:T.contains (2,3,4)=false):Xn h' p a b pv fv d:=by
 obtain ⟨k1,k2,k3,k4,k5,⟨o1,o2,o3,o4⟩,ok⟩:=k;have:=q.next;exact ⟨q.at k1 o1 h1,q.at k2 o2 h2,q.at k3 o3 h2,k4.zA q h3,k5.zA q h4,⟨O_,O_,O_,o4⟩,ok⟩
theorem qf.zA {T:xr} {h h':AH} {p:Nat} {d:Dk} (k:qf h p d) (q:zb T h h') (h1:T.contains (0,125,0)=false) (h2:T.contains (2,198,199)=false) (h3:T.contains (1,211,0)=false) (h4:T.contains (2,3,4)=false):qf h' p d:=by
 obtain ⟨a,b,pv,fv,k⟩:=k;exact ⟨a,b,pv,fv,k.zA q h1 h2 h3 h4⟩
theorem Xn.set {h h':AH} {p a b:Nat} {pv fv:V} {d d':Dk} (k:Xn h p a b pv fv d) (u:lD h h' p (.cells true (.one 125) (JA d' a b pv fv))) (e1:d'.sure=d.sure) (e2:d'.seen=d.seen) (e3:d'.zT=d.zT) (e4:d'.ug=d.ug) (ok:d'.ok):Xn h' p a b pv fv d':=by
 obtain ⟨k1,k2,k3,k4,k5,⟨o1,o2,o3,o4⟩,_⟩:=k;have q:zb QF h h':=zb.vP u k1 rfl rfl;have:=q.next;refine ⟨u.at_,?_,?_,?_,?_,⟨O_,O_,O_,o4⟩,ok⟩
 ·rw [e1];exact q.at k2 o2 rfl
 ·rw [e2];exact q.at k3 o3 rfl
 ·rw [e3];exact k4.zA q rfl
 ·rw [e4];exact k5.zA q rfl
def Dk.op (d:Dk):Int × Dk :=
 if 1<=d.uT/\((d.ops+1:Nat):Int)=d.uT then (4,{ d with ops:=d.ops+1,down:=true })
 else if d.ug ((d.ops+1:Nat):Int) then (3,{ d with ops:=d.ops+1 }) else (0,{ d with ops:=d.ops+1 })
section
variable {h:AH} {p:Nat} {d:Dk}
theorem Ai {a b:Nat} {pv fv:V} (k:Xn h p a b pv fv d) (ho:d.ops<1000000000000):z0q 94 [pU p] h (xj QF h (.int .i64 d.op.1) λh'=>Xn h' p a b pv fv d.op.2/\qE p h h'):=by
 refine C94 _ _ _ ?_;refine ze rfl ?_;refine z6 (yM K_) ?_;refine ze (zR k.vw K_ (w:=.int .i64 d.ops) rfl) ?_;refine z6 (vu (zW O_ O_)) ?_;refine ze rfl ?_;refine z6 (yM K_) ?_;refine zq (zM k.vw K_ (w:=.int .i64 d.ops) rfl K_ (v':=JA { d with ops:=d.ops+1 } a b pv fv) rfl) λh1 u1=>?_;have k1:=k.set u1 rfl rfl rfl rfl ⟨k.ok.n,k.ok.sure,k.ok.seen,k.ok.zT,k.ok.uT⟩;have q1:zb QF h h1:=zb.vP u1 k.vw rfl rfl;have oo:qE p h h1:=qE.vP u1;have rest:¬ (1<=d.uT/\((d.ops+1:Nat):Int)=d.uT)->∀ c,c=false->z22 (xj QF h (.int .i64 d.op.1) λh'=>Xn h' p a b pv fv d.op.2/\qE p h h') (pU p) (.bool c) h1:=by
  intro hn c hc;subst hc;rw [EX];apply yZ;refine sm (HS _ _ _) ?_;refine zN rfl ?_;refine zg (yM K_) ?_;refine zN (zR k1.vw K_ (w:=fv) rfl) ?_;refine zN rfl ?_;refine zg (yM K_) ?_;refine zN (zR k1.vw K_ (w:=.int .i64 ((d.ops+1:Nat):Int)) rfl) ?_;refine zg (k1.Zv.look _) ?_;have e0:d.op=if d.ug ((d.ops+1:Nat):Int) then (3,{ d with ops:=d.ops+1 }) else (0,{ d with ops:=d.ops+1 }):=by unfold Dk.op;rw [if_neg hn]
  rw [e0];refine wJ (λc=>?_) (λc=>?_)
  ·replace c:d.ug ((d.ops+1:Nat):Int)=true:=c
   rw [if_pos c];exact ⟨rfl,q1,k1,oo⟩
  ·replace c:d.ug ((d.ops+1:Nat):Int)=false:=c
   rw [if_neg (by rw [c];decide)];refine sm (Df _ _) ?_;exact ⟨rfl,q1,k1,oo⟩
 refine zN rfl ?_;refine zg (yM K_) ?_;refine zN (zR k1.vw K_ (w:=.int .i64 d.uT) rfl) ?_;refine zg rB ?_;refine qY (λc=>?_) (λc=>?_)
 ·rw [c]
  replace c:=of_decide_eq_true c
  refine zN rfl ?_;refine zg (yM K_) ?_;refine zN (zR k1.vw K_ (w:=.int .i64 ((d.ops+1:Nat):Int)) rfl) ?_;refine zN rfl ?_;refine zg (yM K_) ?_;refine zN (zR k1.vw K_ (w:=.int .i64 d.uT) rfl) ?_;refine zg qe ?_;refine sm (I5 _ _ _ _ _) ?_;refine zN gD ?_;by_cases e:((d.ops+1:Nat):Int)=d.uT
  ·rw [show (((d.ops+1:Nat):Int) == d.uT)=true from beq_iff_eq.2 e];have e0:d.op=(4,{ d with ops:=d.ops+1,down:=true }):=by unfold Dk.op;rw [if_pos ⟨O_,e⟩]
   rw [e0];refine sm (EX _ _ _ _) ?_;apply xz;refine ze rfl ?_;refine z6 (yM K_) ?_;refine zq (zM k1.vw K_ (w:=.bool d.down) rfl K_ (v':=JA { d with ops:=d.ops+1,down:=true } a b pv fv) rfl) λh2 u2=>?_;have k2:=k1.set u2 rfl rfl rfl rfl ⟨k.ok.n,k.ok.sure,k.ok.seen,k.ok.zT,k.ok.uT⟩;exact ⟨rfl,q1.trans (zb.vP u2 k1.vw rfl rfl),k2,oo.trans (qE.vP u2)⟩
  ·exact z7.of (rest (λq=>e q.2) _ (beq_eq_false_iff_ne.2 e))
 ·rw [c]
  replace c:=of_decide_eq_false c
  refine sm (I5 _ _ _ _ _) ?_;refine zN j9 ?_;exact z7.of (rest (λq=>by omega) _ rfl)
theorem z9b (k:qf h p d) (ho:d.ops<1000000000000):z0q 94 [pU p] h (xj QF h (.int .i64 d.op.1) λh'=>qf h' p d.op.2):=by
 obtain ⟨a,b,pv,fv,k⟩:=k;exact (Ai k ho).mono λe h' q=>⟨q.1,q.2.1,a,b,pv,fv,q.2.2.1⟩
theorem So (k:qf h p d):z0q 138 [pU p] h (zO (.int .i64 d.n) h):=by
 obtain ⟨a,b,pv,fv,k⟩:=k;refine C138 _ _ _ ?_;refine z6 (show zi Pg .eql 23 (.ptr (some _)) (.ptr none) true=some (.bool false) from K_) ?_;apply yZ;refine sm (XG _ _ _) ?_;refine ze rfl ?_;refine z6 (yM K_) ?_;refine ze (zR k.vw K_ rfl) ?_;exact ⟨rfl,rfl⟩
end
set_option maxHeartbeats 4000000
def xi (s:List UInt8):List UInt8:=if s.length<1\/400<s.length then [] else xd s.length 2++xd (Ou s) 4++s
theorem Yb {s:List UInt8} (h:1<=s.length) (h2:s.length<=400):(xi s).length=s.length+6:=by
 unfold xi;rw [if_neg O_];simp only [List.length_append,xL];omega
theorem z1m (s:List UInt8) (hs:s.length<1000000) (h:AH):z0q 132 [.str s] h (zO (.str (xi s)) h):=by
 refine C132 _ _ _ ?_;by_cases c1:s.length<1
 ·have e:xi s=[]:=by unfold xi;rw [if_pos (.inl c1)]
  rw [e];have:(s.length:Int)<1:=O_;refine xq K_ ?_;refine xH O_ ?_;apply tA;refine sm (Sl ..) ?_;apply wc;refine sm (XX ..) ?_;apply xz;exact ⟨rfl,rfl⟩
 have h1:¬ (s.length:Int)<1:=O_;by_cases c2:400<s.length
 ·have e:xi s=[]:=by unfold xi;rw [if_pos (.inr c2)]
  rw [e];refine xq K_ ?_;refine yD O_ ?_;apply xc;refine xq K_ ?_;refine vT O_ ?_;refine sm (Sl ..) ?_;apply yi;refine sm (XX ..) ?_;apply xz;exact ⟨rfl,rfl⟩
 have e:xi s=xd s.length 2++xd (Ou s) 4++s:=by unfold xi;rw [if_neg O_]
 rw [e];have cl:=cz s;refine xq K_ ?_;refine yD O_ ?_;apply xc;refine xq K_ ?_;refine xA O_ ?_;refine sm (Sl ..) ?_;apply yi;refine sm (XX ..) ?_;apply yZ;refine sm (IH ..) ?_;refine xq K_ ?_;refine nh E_ O_ O_ ?_;refine vL (Ye _ _) ?_;refine vL (z7W _ O_ _) ?_;refine nh E_ O_ O_ ?_;refine vL (Pc _ _) ?_;refine z6 (qg (by simp only [List.length_append,xL];omega)) ?_;refine z6 (qg (by simp only [List.length_append,xL];omega)) ?_;exact ⟨rfl,rfl⟩
structure Ch where
 ep:Nat
 num:Nat
 off:Nat
 bs:List UInt8
def j6 (c:Ch):V:=.agg [.int .u32 c.ep,.int .u32 c.num,.int .u64 c.off,.str c.bs]
theorem VP (c:Ch):zf Pg (j6 c) 182=true:=K_
theorem zCh:xk Pg 182=some (j6 ⟨0,0,0,[]⟩):=K_
theorem z83 (a b c:Nat) (s:List UInt8):zD Pg 182 [(0,.int .u32 a),(1,.int .u32 b),(2,.int .u64 c),(3,.str s)]=some (j6 ⟨a,b,c,s⟩):=K_
def Tc (x:Nat × Nat):V:=.agg [.int .u32 x.1,.int .u64 x.2]
structure Lg where
 d:Nat
 at_:Nat
 size:Nat
 ep:Nat
 yn:List (Nat × Nat)
 zB:List Ch
 xJ:List UInt8
 num:Nat
 fin:Nat
 Ti:Nat
 fresh:Bool
structure Lg.ok (l:Lg):Prop where
 at_:l.at_<=1000000
 size:l.size<=1000000
 ep:l.ep<4294967296
 yn:l.yn.length<=1000000
 zB:l.zB.length<=1000000
 xJ:l.xJ.length<=1000000
 num:l.num<4294967296
 fin:l.fin<18446744073709551616
 Ti:l.Ti<18446744073709551616
 op:l.xJ.length<=l.fin
def Oo (l:Lg) (sv pv:V):V:=.agg [pU l.d,.int .i64 l.at_,.int .i64 l.size,.int .u32 l.ep,sv,pv,.str l.xJ,.int .u32 l.num,.int .u64 l.fin,.int .u64 l.Ti,.bool l.fresh]
structure IU (h:AH) (p:Nat) (sv pv:V) (l:Lg):Prop where
 log:h.m p=some (.cells true (.one 179) (Oo l sv pv))
 yn:nD 184 h sv (l.yn.map Tc)
 zB:nD 182 h pv (l.zB.map j6)
 o:p<h.next
 ok:l.ok
def gR (h:AH) (p:Nat) (l:Lg):Prop:=∃ sv pv,IU h p sv pv l
abbrev fM (p:Nat):V:=.ptr (some ⟨p,.one 179,[]⟩)
abbrev TL:xr:=[(0,179,0),(1,182,0)]
theorem IU.zA {T:xr} {h h':AH} {p:Nat} {sv pv:V} {l:Lg} (k:IU h p sv pv l) (q:zb T h h') (h1:T.contains (0,179,0)=false) (h2:T.contains (1,184,0)=false) (h3:T.contains (1,182,0)=false):IU h' p sv pv l:=by
 obtain ⟨k1,k2,k3,o,ok⟩:=k;have:=q.next;exact ⟨q.at k1 o h1,k2.zA q h2,k3.zA q h3,O_,ok⟩
theorem gR.zA {T:xr} {h h':AH} {p:Nat} {l:Lg} (k:gR h p l) (q:zb T h h') (h1:T.contains (0,179,0)=false) (h2:T.contains (1,184,0)=false) (h3:T.contains (1,182,0)=false):gR h' p l:=by
 obtain ⟨sv,pv,k⟩:=k;exact ⟨sv,pv,k.zA q h1 h2 h3⟩
theorem IU.set {h h':AH} {p:Nat} {sv pv:V} {l l':Lg} (k:IU h p sv pv l) (u:lD h h' p (.cells true (.one 179) (Oo l' sv pv))) (e1:l'.yn=l.yn) (e2:l'.zB=l.zB) (ok:l'.ok):IU h' p sv pv l':=by
 obtain ⟨k1,k2,k3,o,_⟩:=k;have q:zb [(0,179,0)] h h':=zb.vP u k1 rfl rfl;have:=q.next;refine ⟨u.at_,?_,?_,O_,ok⟩
 ·rw [e1];exact k2.zA q rfl
 ·rw [e2];exact k3.zA q rfl
def Lg.z0x (l:Lg) (n:Nat):Lg:={ l with zB:=l.zB++[⟨l.ep,l.num,l.fin-l.xJ.length,l.xJ.take n⟩],xJ:=l.xJ.drop n,num:=l.num+1 }
theorem byCh:Pg.bytesOf 182<=1000:=E_
section
variable {h:AH} {p:Nat} {l:Lg}
theorem KR (k:gR h p l) {n:Nat} (hn:n<=l.xJ.length) (Jg:l.num+1<4294967296) (hsl:l.zB.length<1000000):z0q 78 [fM p,.int .i64 n] h (xj TL h (.yX []) λh'=>gR h' p (l.z0x n)):=by
 obtain ⟨sv,pv,k⟩:=k;have o1:=k.ok.xJ;have o2:=k.ok.op;have o3:=k.ok.fin;have o4:=k.ok.num;have o5:=k.ok.ep;have f0:=k.log;refine C78 _ _ _ _ ?_;apply xy;refine ym K_ ?_;refine zY (by assumption) K_ rfl ?_;apply xy;refine ym K_ ?_;refine zY (by assumption) K_ rfl ?_;apply xy;refine ym K_ ?_;refine zY (by assumption) K_ rfl ?_;apply xy;refine ym K_ ?_;refine zY (by assumption) K_ rfl ?_;refine jP K_ ?_;refine oU E_ O_ O_ ?_;refine zg (j8 (rL O_ O_)) ?_;apply xy;refine ym K_ ?_;refine zY (by assumption) K_ rfl ?_;refine zg (Z8 K_ rfl (tU O_) O_ O_) ?_;have el:(l.xJ.drop 0).take ((n:Int).toNat-0)=l.xJ.take n:=by rw [show (n:Int).toNat-0=n by omega,List.drop_zero]
 rw [el,show (l.fin:Int)-l.xJ.length=((l.fin-l.xJ.length:Nat):Int) by omega];refine zg (z83 _ _ _ _) ?_;refine zq (yA zCh (VP _)) λh1 u1=>?_;have n1:=u1.next;have q1:zb [] h h1:=zb.new u1;have f1:=q1.at f0 k.o rfl;refine And.intro (pA (by rw [<- el];exact Z8 K_ rfl (tU O_) O_ O_)) ?_;clear f0;refine ox (by assumption) K_ rfl ?_;refine z9J E_ O_ O_ ?_;refine Iz K_ ?_;refine ox (by assumption) K_ rfl ?_;refine ox (by assumption) K_ rfl ?_;refine ox (by assumption) K_ rfl ?_;refine ox (by assumption) K_ rfl ?_;refine zq (zM (p:=[]) u1.at_ K_ rfl (VP ⟨l.ep,l.num,l.fin-l.xJ.length,l.xJ.take n⟩) rfl) λh2 u2=>?_;have n2:=u2.next;have q2:zb [(0,182,0)] h1 h2:=zb.vP u2 u1.at_ rfl rfl;have f2:=q2.at f1 (by have:=k.o;omega) rfl;have fc:=u2.at_;clear f1;refine zN Zd ?_;refine zg (yM K_) ?_;refine zN (zR f2 K_ (w:=pv) rfl) ?_;refine zN (zR (p:=[]) fc K_ rfl) ?_;refine zq (mV (e:=182) K_ zCh (VP ⟨l.ep,l.num,l.fin-l.xJ.length,l.xJ.take n⟩)) λh3 u3=>?_;have n3:=u3.next;have q3:zb [] h2 h3:=zb.new u3;have f3:=q3.at f2 (by have:=k.o;omega) rfl;refine And.intro (zR f3 K_ (w:=pv) rfl) ?_;have k3:=((k.zB.zA q1 rfl).zA q2 rfl).zA q3 rfl;obtain ⟨pv',h4,e4,O6,q4⟩:=k3.app (t:=177) (xt:=177) K_ (wV (by exact u3.at_)) S_ (Nat.le_trans (Nat.mul_le_mul (show (l.zB.map j6).length+[j6 ⟨l.ep,l.num,l.fin-l.xJ.length,l.xJ.take n⟩].length<=1000001 by simp;omega) byCh) D_);have n4:=q4.next;refine ze e4 ?_;have f4:=q4.at f3 (by have:=k.o;omega) rfl;obtain ⟨ap,rfl⟩:=O6.shape;refine zN Zd ?_;refine zg (yM K_) ?_;refine zq (zM f4 K_ (w:=pv) rfl K_ (v':=Oo l sv (.y8 ap ((l.zB.map j6)++[j6 ⟨l.ep,l.num,l.fin-l.xJ.length,l.xJ.take n⟩]).length)) rfl) λh5 u5=>?_;have n5:=u5.next;have f5:=u5.at_;clear f3 f2;refine ze Zd ?_;refine z6 (yM K_) ?_;refine ze (zR f5 K_ (w:=.str l.xJ) rfl) ?_;refine z6 (Z8 K_ (tU O_) rfl O_ O_) ?_;refine ze Zd ?_;refine z6 (yM K_) ?_;have ed:(l.xJ.drop (n:Int).toNat).take (l.xJ.length-(n:Int).toNat)=l.xJ.drop n:=by
  rw [show (n:Int).toNat=n by omega];exact List.take_of_length_le S_
 rw [ed];refine zq (zM f5 K_ (w:=.str l.xJ) rfl K_ (v':=Oo { l with xJ:=l.xJ.drop n } sv (.y8 ap ((l.zB.map j6)++[j6 ⟨l.ep,l.num,l.fin-l.xJ.length,l.xJ.take n⟩]).length)) rfl) λh6 u6=>?_;have n6:=u6.next;have f6:=u6.at_;clear f5;apply yb;refine zx K_ ?_;refine zl (by assumption) K_ rfl ?_;refine jr (by dsimp only;omega) (by dsimp only;omega) ?_;apply yb;refine zx K_ ?_;rw [show (l.num:Int)+1=((l.num+1:Nat):Int) by omega];refine zq (zM f6 K_ (w:=.int .u32 l.num) rfl K_ (v':=Oo (l.z0x n) sv (.y8 ap ((l.zB.map j6)++[j6 ⟨l.ep,l.num,l.fin-l.xJ.length,l.xJ.take n⟩]).length)) rfl) λh7 u7=>?_;have n7:=u7.next;have q7:zb [(0,179,0)] h4 h7:=(zb.vP u5 f4 rfl rfl).trans ((zb.vP u6 u5.at_ rfl rfl).trans (zb.vP u7 u6.at_ rfl rfl));have ez:zb [] h h3:=(q1.ya u2 (Nat.le_refl _)).trans q3;refine ⟨rfl,(ez.sub rfl).trans ((q4.sub rfl).trans (q7.sub rfl)),sv,_,u7.at_,?_,?_,by have:=k.o;omega,?_⟩
 ·exact (((k.yn.zA ez rfl).zA q4 rfl).zA q7 rfl)
 ·show nD _ _ _ ((l.zB++[_]).map j6);rw [List.map_append];exact O6.zA q7 rfl
 ·obtain ⟨a1,a2,a3,a4,a5,a6,a7,a8,a9,a10⟩:=k.ok;exact ⟨a1,a2,a3,a4,by show (l.zB++[_]).length<=_;simp;omega,by show (l.xJ.drop n).length<=_;simp;omega,Jg,a8,a9,by show (l.xJ.drop n).length<=l.fin;simp;omega⟩
end
def Lg.tV:Nat->Lg->Lg
 | 0,l=>l
 | n+1,l=>if 214<=l.xJ.length then Lg.tV n (l.z0x 214) else l
def Lg.fY (l:Lg) (n:Nat):Nat:=l.yn.length+l.zB.length+(l.xJ.length+n+213)/214
def Lg.lay (l:Lg) (f:List UInt8):Lg:=Lg.tV (l.xJ.length+f.length) { l with xJ:=l.xJ++f,fin:=l.fin+f.length }
def Lg.append (l:Lg) (s:List UInt8):(Nat × Int) × Lg :=
 if s.length<1\/400<s.length then ((0,1),l)
 else if l.size<l.fY (xi s).length then ((0,5),l)
 else ((l.fin,0),l.lay (xi s))
def z2v (x:Nat × Int):V:=.yX [.int .u64 x.1,.int .i64 x.2]
section
variable {h:AH} {p:Nat} {l:Lg}
theorem As (k:gR h p l):z0q 32 [fM p] h (zO (.int .u64 l.fin) h):=by
 obtain ⟨sv,pv,k⟩:=k;have f0:=k.log;refine C32 _ _ _ ?_;refine z6 (show zi Pg .eql 83 (.ptr (some _)) (.ptr none) true=some (.bool false) from K_) ?_;apply yZ;refine sm (C5 _ _ _) ?_;apply yb;refine zx K_ ?_;refine zl f0 K_ rfl ?_;exact ⟨rfl,rfl⟩
def Lg.free (l:Lg):Int:=(l.size:Int)-l.yn.length-l.zB.length-if l.xJ=[] then 0 else 1
theorem Lg.T2:∀ (n:Nat) (l:Lg),l.xJ.length<=n->(Lg.tV n l).xJ.length<214/\(Lg.tV n l).fin=l.fin/\(Lg.tV n l).size=l.size/\(Lg.tV n l).yn=l.yn/\(Lg.tV n l).d=l.d
 | 0,l,h=>⟨by simp [Lg.tV];omega,rfl,rfl,rfl,rfl⟩
 | n+1,l,h=>by
  unfold Lg.tV;split
  ·have:=Lg.T2 n (l.z0x 214) (by show (l.xJ.drop 214).length<=n;simp;omega);exact this
  ·exact ⟨O_,rfl,rfl,rfl,rfl⟩
theorem Kr {Q:yO->AH->Prop} {x7:V}:∀ (m:Nat) (h:AH) (l:Lg) (n:Nat),gR h p l->l.xJ.length<=n->l.num+n<4294967296->l.zB.length+n<=1000000->n<m ->
 (∀ h',zb TL h h'->gR h' p (Lg.tV n l)->Q (.ret (.yX [x7,.int .i64 0])) h')->z4V Q m (fM p) x7 h
 | 0,_,_,_,_,_,_,_,hm,_=>by omega
 | m+1,h,l,n,k,hn,h1,h2,hm,c=>by
  obtain ⟨sv,pv,kb⟩:=id k;have f0:=kb.log;rw [z4v];by_cases g:214<=l.xJ.length
  ·apply yb;refine zx K_ ?_;refine zl f0 K_ rfl ?_;refine xq K_ ?_;refine rj O_ ?_;apply xz;refine sm (jL ..) ?_;obtain ⟨n,rfl⟩:∃ n',n=n'+1:=⟨n-1,O_⟩
   refine xN (KR k (n:=214) g O_ O_) λh3 q3 k3=>?_;refine z7.of (Kr m h3 (l.z0x 214) n k3 (by show (l.xJ.drop 214).length<=n;simp;omega) (by show l.num+1+n<_;omega) (by show (l.zB++[_]).length+n<=_;simp;omega) O_ λh' q' k'=>c h' (q3.trans q') ?_);unfold Lg.tV;rw [if_pos g];exact k'
  ·apply yb;refine zx K_ ?_;refine zl f0 K_ rfl ?_;refine xq K_ ?_;refine qm O_ ?_;apply yZ;refine sm (dX ..) ?_;refine c h (zb.refl _ _) ?_;have:Lg.tV n l=l:=by
    cases n with
    | zero=>rfl
    | succ n=>unfold Lg.tV;rw [if_neg g]
   rw [this];exact k
theorem LP (k:gR h p l) (s:List UInt8) (hs:s.length<1000000) (h1:l.num<4294960000) (h2:l.fin<18446744073709000000) (h3:l.zB.length<=900000) (h4:l.xJ.length<214):z0q 88 [fM p,.str s] h (xj TL h (z2v (l.append s).1) λh'=>gR h' p (l.append s).2):=by
 ·obtain ⟨sv,pv,kb⟩:=id k;have f0:=kb.log;have o1:=kb.ok.size;have o2:=kb.ok.yn;obtain ⟨sa,rfl⟩:=kb.yn.shape;obtain ⟨pa,rfl⟩:=kb.zB.shape;have s1:(l.yn.map Tc).length=l.yn.length:=S_;have s2:(l.zB.map j6).length=l.zB.length:=S_;rw [s1,s2] at f0;refine C88 _ _ _ _ ?_;refine yf (z1m s hs h) ?_;refine z6 aN ?_;have nn:zi Pg .eql 83 (fM p) (.ptr none) true=some (.bool false):=K_;by_cases c1:s.length<1\/400<s.length
  ·have e1:xi s=[]:=by unfold xi;rw [if_pos c1]
   rw [show (xi s == [])=true by rw [e1];rfl];have ea:l.append s=((0,1),l):=by unfold Lg.append;rw [if_pos c1]
   rw [ea];apply tA;refine sm (cr ..) ?_;apply wc;refine sm (GG ..) ?_;apply xz;exact ⟨rfl,zb.refl _ _,k⟩
  ·have fl:=Yb (s:=s) O_ O_;rw [show (xi s == [])=false by cases hq:xi s with | nil=>rw [hq] at fl;simp at fl | cons a b=>rfl];have ha:l.append s=if l.size<l.fY (xi s).length then ((0,5),l) else ((l.fin,0),l.lay (xi s)):=by unfold Lg.append;rw [if_neg c1]
   rw [ha];apply xc;refine z6 nn ?_;refine sm (cr ..) ?_;refine ze j9 ?_;refine sm (GG ..) ?_;apply yZ;refine sm (H1 ..) ?_;refine zN Zd ?_;refine zg (yM K_) ?_;refine zN (zR f0 K_ rfl) ?_;refine WK K_ ?_;apply xy;refine ym K_ ?_;refine zY f0 K_ rfl ?_;refine WK K_ ?_;refine rJ O_ O_ ?_;apply xy;refine ym K_ ?_;refine zY f0 K_ rfl ?_;refine jP K_ ?_;refine jP K_ ?_;refine rJ O_ O_ ?_;refine rJ O_ O_ ?_;refine bT O_ O_ ?_;refine z4i O_ O_ O_ ?_;refine rJ O_ O_ ?_;apply xy;refine ym K_ ?_;refine zY f0 K_ rfl ?_;have o6:=kb.ok.op;have o7:=kb.ok.fin;by_cases g:l.size<l.fY (xi s).length
   ·rw [if_pos g];unfold Lg.fY at g;refine Ma O_ ?_;apply xz;exact ⟨rfl,zb.refl _ _,k⟩
   ·rw [if_neg g];unfold Lg.fY at g;refine Ka O_ ?_;apply yZ;refine sm (i7 ..) ?_;apply yb;refine zx K_ ?_;refine zl f0 K_ rfl ?_;apply yb;refine zx K_ ?_;refine zl f0 K_ rfl ?_;refine z6 (qg O_) ?_;apply yb;refine zx K_ ?_;refine zq (zM f0 K_ (w:=.str l.xJ) rfl K_ (v':=Oo { l with xJ:=l.xJ++xi s } (.y8 sa l.yn.length) (.y8 pa l.zB.length)) rfl) λh5 u5=>?_;have n5:=u5.next;have f5:=u5.at_;have q5:zb [(0,179,0)] h h5:=zb.vP u5 f0 rfl rfl;clear f0;apply yb;refine zx K_ ?_;refine zl f5 K_ rfl ?_;refine xq K_ ?_;refine nh E_ O_ O_ ?_;refine Sy (by dsimp only;omega) (by dsimp only;omega) ?_;apply yb;refine zx K_ ?_;rw [show (l.fin:Int)+(xi s).length=((l.fin+(xi s).length:Nat):Int) by omega];refine zq (zM f5 K_ (w:=.int .u64 l.fin) rfl K_ (v':=Oo { l with xJ:=l.xJ++xi s,fin:=l.fin+(xi s).length } (.y8 sa l.yn.length) (.y8 pa l.zB.length)) rfl) λh6 u6=>?_;have q6:zb [(0,179,0)] h h6:=q5.trans (zb.vP u6 f5 rfl rfl);have n6:=u6.next;have r1:=kb.yn.zA q6 rfl;have r2:=kb.zB.zA q6 rfl;rw [s1] at r1;rw [s2] at r2;have k6:gR h6 p { l with xJ:=l.xJ++xi s,fin:=l.fin+(xi s).length }:=by
     obtain ⟨a1,a2,a3,a4,a5,a6,a7,a8,a9,a10⟩:=kb.ok;exact ⟨_,_,u6.at_,r1,r2,by have:=kb.o;omega,a1,a2,a3,a4,a5,by show (l.xJ++xi s).length<=_;simp;omega,a7,by show l.fin+_<_;omega,a9,by show (l.xJ++xi s).length<=l.fin+_;simp;omega⟩
    refine ⟨l.xJ.length+(xi s).length+1,z7.of (Kr _ h6 _ (l.xJ.length+(xi s).length) k6 (by show (l.xJ++xi s).length<=_;simp) (by show l.num+_<_;omega) (by show l.zB.length+_<=_;omega) O_ λh' q' k'=>?_)⟩;exact ⟨rfl,(q6.sub rfl).trans q',k'⟩
end
theorem Dk.BV (d:Dk):d.op.2.n=d.n:=by unfold Dk.op;split;rfl;split <;> rfl
theorem Dk.gh (d:Dk):d.op.2.seen=d.seen:=by unfold Dk.op;split;rfl;split <;> rfl
theorem Dk.kK (d:Dk):d.op.2.zT=d.zT:=by unfold Dk.op;split;rfl;split <;> rfl
theorem qf.ok {h:AH} {p:Nat} {d:Dk} (k:qf h p d):d.ok:=by obtain ⟨a,b,pv,fv,k⟩:=k;exact k.ok
theorem qf.at {h:AH} {p:Nat} {d:Dk} (k:qf h p d):p<h.next:=by obtain ⟨a,b,pv,fv,k⟩:=k;exact k.o.1
def Dk.read (d:Dk) (b:Int):List UInt8 × Int × Dk :=
 if d.down then (xM 256,4,d) else if b<0\/(d.n:Int)<=b then (xM 256,1,d) else if d.op.1≠0 then (xM 256,d.op.1,d.op.2) else (tu d.seen b.toNat,0,d.op.2)
def rdR (x:List UInt8 × Int × Dk):V:=.yX [.agg (zd x.1),.int .i64 x.2.1]
section
variable {h:AH} {p:Nat} {d:Dk}
theorem H0 {a b':Nat} {pv fv:V} (k:Xn h p a b' pv fv d) (ho:d.ops<1000000000000) (b:Int):z0q 57 [pU p,.int .i64 b] h (xj QF h (rdR (d.read b)) λh'=>Xn h' p a b' pv fv (d.read b).2.2/\qE p h h'):=by
 have bld:zD Pg 111 []=some (.agg (zd (xM 256))):=K_;refine C57 _ _ _ _ ?_;refine zq (yA SD (tY (zI 256))) λh1 u1=>?_;have n1:=u1.next;have kb:Xn h1 p a b' pv fv d:=k.zA (T:=[]) (zb.new u1) rfl rfl rfl rfl;have q1:zb QF h h1:=zb.new u1;have oo1:qE p h h1:=qE.new u1
 -- Ja is told at the end
 have fin:∀ (h':AH) (wC:List UInt8) (e:Int) (d':Dk) (lab:V->AH->Prop),wC.length=256->zb QF h h'->Xn h' p a b' pv fv d'/\qE p h h'->(∃ w,h'.m h.next=some (.cells true (.one 111) w))->h.next<h'.next->d.read b=(wC,e,d') ->
  z0 (zh Pg h' 111 (X2 h.next) (.agg (zd wC))) (λ_ h40=>yq (zX Pg [(4,X2 h.next),(5,.int .i64 e)] h40 KN) λv=>xj QF h (rdR (d.read b)) (λh'=>Xn h' p a b' pv fv (d.read b).2.2/\qE p h h') (.ret v) h40):=by
  intro h' wC e d' _ hb q kk ⟨w,f⟩ hn he;refine zq (zM (p:=[]) f K_ rfl (tY hb) rfl) λh2 u2=>?_;have e1:=zR (P:=Pg) (t:=111) (p:=[]) u2.at_ K_ (w:=.agg (zd wC)) rfl;simp only [z9] at e1;have e2:=(zK e1).1;refine yr (show zX Pg _ _ KN=some [.agg (zd wC),.int .i64 e] by simp [KN,zX,zJ.get,e2]) ?_;have q2:zb [(0,111,0)] h' h2:=zb.vP u2 f rfl rfl;rw [he];exact ⟨rfl,q.ya u2 (Nat.le_refl _),kk.1.zA q2 rfl rfl rfl rfl,kk.2.ya u2 (Nat.le_refl _)⟩
 refine z6 (show zi Pg .eql 23 (.ptr (some _)) (.ptr none) true=some (.bool false) from K_) ?_;apply xc;refine ze rfl ?_;refine z6 (yM K_) ?_;refine ze (zR kb.vw K_ (w:=.bool d.down) rfl) ?_;refine sm (IL _ _ _ _ _ _ _) ?_;refine ze j9 ?_;refine sm (FO _ _ _ _ _ _) ?_;refine wJ (λc=>?_) (λc=>?_)
 ·replace c:d.down=true:=c
  refine z6 bld ?_;exact fin h1 _ _ d (λ_ _=>True) (zI 256) q1 ⟨kb,oo1⟩ ⟨_,u1.at_⟩ O_ (by unfold Dk.read;rw [if_pos c])
 ·replace c:d.down=false:=c
  have c':¬ (d.down=true):=by rw [c];decide
  refine sm (DZ _ _ _ _ _) ?_;have mid:∀ v,v=decide (b<0\/(d.n:Int)<=b)->z6k (xj QF h (rdR (d.read b)) λh'=>Xn h' p a b' pv fv (d.read b).2.2/\qE p h h') (pU p) (.int .i64 b) (X2 h.next) (.bool v) h1:=by
   intro v hv;rw [DJ];refine wJ (λg=>?_) (λg=>?_)
   ·rw [g] at hv;have g:=of_decide_eq_true hv.symm;refine z6 bld ?_;exact fin h1 _ _ d (λ_ _=>True) (zI 256) q1 ⟨kb,oo1⟩ ⟨_,u1.at_⟩ O_ (by unfold Dk.read;rw [if_neg c',if_pos g])
   ·rw [g] at hv;have g:=of_decide_eq_false hv.symm;refine sm (IK _ _ _ _ _) ?_;refine xN (Ai kb ho) λh2 q2 k2'=>?_;have BW:=k2'.1;have k2:Xn h2 p a b' pv fv d.op.2/\qE p h h2:=⟨BW,oo1.trans k2'.2⟩
    have n2:=q2.next;have f2:h2.m h.next=some (.cells true (.one 111) (.agg (zd (xM 256)))):=q2.at u1.at_ O_ rfl;have po:zb QF h h2:=q1.trans q2;refine z6 nl ?_;refine wJ (λe=>?_) (λe=>?_)
    ·replace e:=oO e
     refine z6 bld ?_;exact fin h2 _ _ _ (λ_ _=>True) (zI 256) po k2 ⟨_,f2⟩ O_ (by unfold Dk.read;rw [if_neg c',if_neg g,if_pos e])
    ·replace e:=uY e
     refine sm (Wj _ _ _ _ _) ?_;refine ze rfl ?_;refine z6 (yM K_) ?_;refine ze (zR BW.vw K_ (w:=.map (some b')) rfl) ?_;have hb0:b=((b.toNat:Nat):Int):=O_;have ga:=HI (b:=b.toNat) BW.ok.seen BW.o.2.2.1 BW.X9;rw [<- hb0] at ga;refine yf ga ?_;exact fin h2 _ _ _ (λ_ _=>True) (nj BW.ok.seen _) po k2 ⟨_,f2⟩ O_ (by unfold Dk.read;rw [if_neg c',if_neg g,if_neg O_,d.gh])
  refine z6 vq ?_;refine pj (λg=>?_) (λg=>?_)
  ·rw [g]
   replace g:=of_decide_eq_false g
   refine ze rfl ?_;refine z6 (yM K_) ?_;refine ze (zR kb.vw K_ (w:=.int .i64 d.n) rfl) ?_;refine z6 rB ?_;refine sm (P4 _ _ _ _ _ _ _) ?_;refine ze j9 ?_;refine z7.of (mid _ ?_);by_cases r:(d.n:Int)<=b
   ·rw [decide_eq_true O_,decide_eq_true O_]
   ·rw [decide_eq_false O_,decide_eq_false O_]
  ·rw [g]
   replace g:=of_decide_eq_true g
   refine sm (P4 _ _ _ _ _ _ _) ?_;refine ze gD ?_;refine z7.of (mid _ ?_);rw [decide_eq_true O_]
theorem z3R (k:qf h p d) (ho:d.ops<1000000000000) (b:Int):z0q 57 [pU p,.int .i64 b] h (xj QF h (rdR (d.read b)) λh'=>qf h' p (d.read b).2.2):=by
 obtain ⟨a,b',pv,fv,k⟩:=k;exact (H0 k ho b).mono λe h' q=>⟨q.1,q.2.1,a,b',pv,fv,q.2.2.1⟩
theorem Dk.NI (d:Dk) (b:Int):(d.read b).2.2.sure=d.sure/\(d.read b).2.2.seen=d.seen/\(d.read b).2.2.zT=d.zT/\(d.read b).2.2.ug=d.ug/\(d.read b).2.2.n=d.n:=by
 have o:d.op.2.sure=d.sure/\d.op.2.seen=d.seen/\d.op.2.zT=d.zT/\d.op.2.ug=d.ug/\d.op.2.n=d.n:=by
  unfold Dk.op;split
  ·exact ⟨rfl,rfl,rfl,rfl,rfl⟩
  ·split <;> exact ⟨rfl,rfl,rfl,rfl,rfl⟩
 unfold Dk.read;split
 ·exact ⟨rfl,rfl,rfl,rfl,rfl⟩
 ·split
  ·exact ⟨rfl,rfl,rfl,rfl,rfl⟩
  ·split <;> exact o
theorem Xn.kJ {a b:Nat} {pv fv:V} (k:Xn h p a b pv fv d) (d':Dk):tK (λn=>(h.m n).isSome) (JA d' a b pv fv)=true:=by
 have h1:(h.m a).isSome=true:=by rw [k.T0];rfl
 have h2:(h.m b).isSome=true:=by rw [k.X9];rfl
 have h3:tK (λn=>(h.m n).isSome) pv=true:=by
  rcases k.T1 with ⟨rfl,_⟩ | ⟨n,_,rfl,q⟩
  ·rfl
  ·show (h.m n).isSome=true;rw [q];rfl
 have h4:tK (λn=>(h.m n).isSome) fv=true:=by
  rcases k.Zv with ⟨rfl,_⟩ | ⟨n,es,_,rfl,q,_⟩
  ·rfl
  ·show (h.m n).isSome=true;rw [q];rfl
 simp only [JA,tK,oh,h1,h2,h3,h4,Bool.and_self]
end
def jS (l:Sm) (b:Nat) (x:List UInt8):Nat->Sm
 | 0=>l
 | i+1=>sV (jS l b x i) (b,i) (tj x i)
def Z7 (l:Sm) (b:Nat) (x:List UInt8):Nat->Sm
 | 0=>l
 | i+1=>Z7 l b x i++[((b,i),tj x i)]
theorem UM {l:Sm} (h:pY l) (b:Nat) {x:List UInt8} (hx:x.length=256):∀ i,i<=4->pY (jS l b x i)
 | 0,_=>h
 | i+1,hi=>bE (UM h b hx i O_) (gK hx O_)
theorem kB (l:Sm) (b:Nat) (x:List UInt8):∀ i,(Z7 l b x i).length=l.length+i
 | 0=>rfl
 | i+1=>by rw [Z7,List.length_append,kB l b x i];rfl
def Dk.put (d:Dk) (b:Nat) (x:List UInt8) (i:Nat):Dk:={ d with seen:=jS d.seen b x i,zT:=Z7 d.zT b x i }
def Dk.write (d:Dk) (b:Int) (x:List UInt8):Int × Dk :=
 if d.down then (4,d) else if b<0\/(d.n:Int)<=b then (1,d) else if d.op.1≠0 then d.op else (0,d.op.2.put b.toNat x 4)
theorem Ke {x:(Nat × Nat) × List UInt8} (h:x.2.length=64):zf Pg (SM x) 211=true:=by
 have:zf Pg (SM x) 211=(zf Pg (cW x.1.1 x.1.2) 198&&(zf Pg (.agg (zd x.2)) 199&&true)):=K_;have e2:zf Pg (cW x.1.1 x.1.2) 198=true:=K_;rw [this,e2,bF h];rfl
theorem zWr:xk Pg 211=some (SM ((0,0),xM 64)):=K_
theorem zbT {b i:Nat} {s:List UInt8} (hs:s.length=64):zD Pg 211 [(0,cW b i),(1,.agg (zd s))]=some (SM ((b,i),s)):=by
 have h1:zf Pg (cW b i) 198=true:=K_;have h2:=bF hs;exact uR [198,199] zWr K_ (by simp [xK,h1,h2])
theorem byWr:Pg.bytesOf 211<=1000:=E_
theorem z70 {n:Nat} (h:n<=1000000001):n*Pg.bytesOf 211<=140737488355328:=Nat.le_trans (Nat.mul_le_mul h byWr) D_
theorem apWr:gI Pg 122 122 211=true:=K_
section
variable {h:AH} {p:Nat} {d:Dk} {m:Nat}
theorem IP {Q:yO->AH->Prop} (k:qf h p d) (hp:d.zT.length<=1000000000) {b i n5:Nat} {x:List UInt8} (hx:x.length=256) (hi:i<4) (f5:h.m n5=some (.cells true (.one 111) (.agg (zd x)))) (h5:n5<h.next)
 (cont:∀ h',zb gU h h'->h'.m n5=some (.cells true (.one 111) (.agg (zd x)))->qf h' p { d with seen:=sV d.seen (b,i) (tj x i),zT:=d.zT++[((b,i),tj x i)] }->G9 Q m (pU p) (.int .i64 b) (X2 n5) (.int .i64 ((i+1:Nat):Int)) h') :
 zbC Q m (pU p) (.int .i64 b) (X2 n5) (.int .i64 i) h:=by
 have hs:=gK (i:=i) hx hi;obtain ⟨a,bb,pv,fv,k⟩:=k;rw [IB];refine z6 (show zD Pg 198 [(0,.int .i64 b),(1,.int .i64 i)]=some (cW b i) from K_) ?_;refine ze (zR (p:=[]) f5 K_ rfl) ?_;refine yf (cutP hx hi h) ?_;refine z6 (zbT hs) ?_;refine zq (yA zWr (Ke (zI 64))) λh1 u1=>?_;have n1:=u1.next;have q1:zb [] h h1:=zb.new u1;have k1:=k.zA q1 rfl rfl rfl rfl;refine zq (zM (p:=[]) u1.at_ K_ rfl (Ke (x:=((b,i),tj x i)) hs) (v':=SM ((b,i),tj x i)) rfl) λh2 u2=>?_;have n2:=u2.next;have q2:zb [(0,211,0)] h1 h2:=zb.vP u2 u1.at_ rfl rfl;have k2:=k1.zA q2 rfl rfl rfl rfl;have fw:=u2.at_;have f52:h2.m n5=some (.cells true (.one 111) (.agg (zd x))):=q2.at (q1.at f5 h5 rfl) O_ rfl;refine zN rfl ?_;refine zg (yM K_) ?_;refine zN (zR k2.vw K_ (w:=.map (some bb)) rfl) ?_;refine zg (yM K_) ?_;refine zN (zR fw K_ (w:=cW b i) rfl) ?_;refine zg (yM K_) ?_;refine zN (zR fw K_ (w:=.agg (zd (tj x i))) rfl) ?_;refine zq (Ak k2.X9 b i hs) λh3 u3=>?_;have n3:=u3.next;have q3:zb [(2,198,199)] h2 h3:=zb.vP u3 k2.X9 rfl rfl;obtain ⟨o1,o2,o3,o4⟩:=k2.o;have Jh:=q3.at k2.vw o1 rfl;have z4N:=k2.T1.zA q3 rfl;have BX:=k2.Zv.zA q3 rfl;have z4O:=(u3.other _ o4).trans k2.T0;have fw3:=q3.at fw O_ rfl;have f53:=q3.at f52 O_ rfl;refine zN rfl ?_;refine zg (yM K_) ?_;refine zN (zR Jh K_ (w:=pv) rfl) ?_;refine zN (zR (p:=[]) fw3 K_ rfl) ?_;refine zq (mV (e:=211) K_ zWr (Ke (x:=((b,i),tj x i)) hs)) λh4 u4=>?_;have n4:=u4.next;have q4:zb [] h3 h4:=zb.new u4;have Ji:=q4.at Jh O_ rfl;refine ⟨zR Ji K_ (w:=pv) rfl,?_⟩;obtain ⟨pv',h5',e5,V7,q5⟩:=(z4N.zA q4 rfl).app apWr (wV (by exact u4.at_)) S_ (z70 (show (d.zT.map SM).length+[SM ((b,i),tj x i)].length<=1000000001 by rw [List.length_map];show d.zT.length+1<=_;omega));have n5':=q5.next;refine ze e5 ?_;have Jj:=q5.at Ji O_ rfl;obtain ⟨ap,rfl⟩:=V7.shape;refine zN rfl ?_;refine zg (yM K_) ?_;refine zq (zM Jj K_ (w:=pv) rfl K_ (v':=JA { d with seen:=sV d.seen (b,i) (tj x i),zT:=d.zT++[((b,i),tj x i)] } a bb (.y8 ap ((d.zT.map SM)++[SM ((b,i),tj x i)]).length) fv) rfl) λh6 u6=>?_;have n6:=u6.next;have q6:zb QF h5' h6:=zb.vP u6 Jj rfl rfl;refine sm (EY _ _ _ _ _ _ _) ?_;refine z6 (vu (zW O_ O_)) ?_;have q36:zb gU h3 h6:=(q4.sub rfl).trans ((q5.sub rfl).trans (q6.sub rfl));have Vf:zb [(1,211,0),(0,125,0)] h3 h6:=(q4.sub rfl).trans ((q5.sub rfl).trans (q6.sub rfl));have all:zb gU h h6:=((zb.new u1).ya u2 (Nat.le_refl _)).trans ((q3.sub rfl).trans q36);refine z7.of (cont h6 all ?_ ⟨a,bb,_,fv,u6.at_,?_,?_,?_,?_,⟨O_,O_,O_,o4⟩,k.ok.n,k.ok.sure,bE k.ok.seen hs,?_,k.ok.uT⟩)
 ·exact q36.at f53 O_ rfl
 ·exact Vf.at z4O O_ rfl
 ·exact Vf.at u3.at_ O_ rfl
 ·rw [List.map_append];exact V7.zA q6 rfl
 ·exact (BX.zA Vf rfl)
 ·intro y hy;rcases List.mem_append.1 hy with q | q
  ·exact k.ok.zT y q
  ·simp only [List.mem_singleton] at q;subst q;exact hs
end
section
set_option maxRecDepth 100000
noncomputable section
variable (Q:yO->AH->Prop) (ds:List AD) (n n1 n2:Nat) (x0 x1 x3 x4 x7 x9 x11 x12 x13 x17 x18 x24 x32 x33 x41 x42:V) (a0 a1 a2:V) (h:AH)
def B53:=bd Tryz.f53
def R53:List ResultVar:=[]
abbrev N53:=13
def K53:KT:=(sQ lF (.two lF lF) [0,1,6])
theorem C53 (c :
 z0q 109 [a0,a1] h (zS (λb c =>
 zP b (
 z0 (y7 a0 c) λd e =>
 z0 (z03 (z0e 229 d 1) e) λf g =>
 z0 (z0o g 99 f) λi j =>
 z0 (z03 (z0w 99 i a1) j) λk l =>
 z0 (z0t l 4 k (V.bool true)) λ_ m =>
 Q (.ret (V.yX [])) m) (
 Q (.ret (V.yX [])) c)) λv h=>Q (.panic v) h)):z0q 53 [a0,a1] h Q :=
 mkC Tryz.func53 B53 N53 K53 R53 c
def B54:=bd Tryz.f54
def R54:List ResultVar:=[]
abbrev N54:=16
def K54:KT:=(sQ lF (.two lF lF) [0,1,6])
theorem C54 (c :
 z0q 109 [a0,a1] h (zS (λb c =>
 zP b (
 z0 (y7 a0 c) λd e =>
 z0 (z03 (z0e 229 d 3) e) λf g =>
 z0 (z0o g 87 f) λi j =>
 z0 (z03 (z0w 87 i a1) j) λk l =>
 z0 (z0o l 3 k) λm o =>
 z0 (z03 (z0s .add 3 m (V.int .i64 1) true) o) λp q =>
 z0 (z03 (z0w 87 i a1) q) λr s =>
 z0 (z0t s 3 r p) λ_ t =>
 Q (.ret (V.yX [])) t) (
 Q (.ret (V.yX [])) c)) λv h=>Q (.panic v) h)):z0q 54 [a0,a1] h Q :=
 mkC Tryz.func54 B54 N54 K54 R54 c
def B55:=bd Tryz.f55
def R55:List ResultVar:=[.tmp 2,.tmp 3]
abbrev N55:=71
def K55:KT:=(sQ lF (jN (sQ lF (.two (sQ lF lF [2,3]) lF) [0,7]) (jN (sQ lF (.one (.loop (sQ lF (jN (.two lF lF) (jN (.one (sQ lF (jN (.rm [[0,4,12,13,24,32]]) (.two (sQ lF lF [2,3]) lF) [0,4,12,13,33]) [0,4,12,13])) lF [0,12,13]) [0,12,13]) [0,12,13,14]) [0,12,13])) [0,12,13]) (jN (sQ lF (.one (.loop (sQ lF (jN (.two lF lF) (jN (.one (sQ lF (.one (sQ lF (.two lF (sQ lF (.two lF (sQ lF lF [2,3])) [0,5,41,42,56])) [0,5,41,42,47])) [0,5,41,42])) lF [0,41,42]) [0,41,42]) [0,41,42,43]) [0,41,42])) [0,41,42]) (sQ lF lF [2,3]) []) [0]) [0]) [0])
def Ap (p l:List Nat) (e:zJ):Prop:=xG Pg N55 B55 K55 p l (zn Pg R55 Q) e h
def z2w:Prop:=Ap Q h [1,1,0,1,0,0,1,1,1] [n] [(0,x0),(12,x12),(13,x13)]
def zbj:Prop:=Ap Q h [1,1,0,1,0,0,1,1,0,0,1,1] [n] [(0,x0),(4,x4),(12,x12),(13,x13),(33,x33)]
def z1b:Prop:=yu Pg N55 B55 K55 [1,1,0,1,0,0,1,1,0,0,1,0] 2 1 [n] (zn Pg R55 Q) [(0,x0),(4,x4),(12,x12),(13,x13),(24,x24),(32,x32)] h
def zan:Prop:=Ap Q h [1,1,0,1,0,0,1,1] [n] [(0,x0),(12,x12),(13,x13)]
def z46:Prop:=Ap Q h [1,1,1,0,1,0,0,1,1,1] [n] [(0,x0),(41,x41),(42,x42)]
def zbN:Prop:=Ap Q h [1,1,1,0,1,0,0,1,1] [n] [(0,x0),(41,x41),(42,x42)]
def Ce:Prop:=Ap Q h [1,1,1,1] [] []
def IO:Prop:=xX Pg N55 B55 K55 [1,1,1,0,1,0] [] n (zn Pg R55 Q) [(0,x0),(41,x41),(42,x42)] h
def z6J:Prop:=Ap Q h [1,1,1] [] [(0,x0)]
def Ig:Prop:=xX Pg N55 B55 K55 [1,1,0,1,0] [] n (zn Pg R55 Q) [(0,x0),(12,x12),(13,x13)] h
def z8n:Prop:=Ap Q h [1,1] [] [(0,x0)]
theorem HN:z2w Q n x0 x12 x13 h=(
 z0 (z03 (z0s .add 3 x13 (V.int .i64 1) true) h) λb c =>
 z7 (Ig Q n x0 x12 b c)):=K_
theorem BA:zbj Q n x0 x4 x12 x13 x33 h=(
 zP x33 (
 Q (.ret (V.yX [x4,(V.bool true)])) h) (
 z7 (z2w Q n x0 x12 x13 h))):=K_
theorem Pe:z1b Q n x0 x4 x12 x13 x24 x32 h=(
 z0 (yc x24 x32 (V.bool false) h) λb c =>
 z7 (zbj Q n x0 x4 x12 x13 b c)):=K_
theorem Co:zan Q n x0 x12 x13 h=(
 z0q 110 [x0] h (zS (λb c =>
 z0 (y7 x0 c) λd e =>
 z0 (z03 (z0e 229 d 2) e) λf g =>
 z0 (z0o g 99 f) λi j =>
 z0 (z03 (z0w 99 i b) j) λk l =>
 z0 (z0o l 4 k) λm o =>
 vp m true (
 z0 (y7 x0 o) λp q =>
 z0 (z03 (z0e 229 p 3) q) λr s =>
 z0 (z0o s 87 r) λt u =>
 z0 (z03 (z0w 87 t b) u) λw y =>
 z0 (z0o y 3 w) λz A =>
 z0 (z03 (z0s .eql 3 z (V.int .i64 0) true) A) λB C =>
 z7 (z1b Q n x0 b x12 x13 m B C)) (z7 (z1b Q n x0 b x12 x13 m yw o))) λv h=>Q (.panic v) h)):=K_
theorem CB:z46 Q n x0 x41 x42 h=(
 z0 (z03 (z0s .add 3 x42 (V.int .i64 1) true) h) λb c =>
 z7 (IO Q n x0 x41 b c)):=K_
theorem FK:zbN Q n x0 x41 x42 h=(
 z0q 110 [x0] h (zS (λb c =>
 z0 (y7 x0 c) λd e =>
 z0 (z03 (z0e 229 d 3) e) λf g =>
 z0 (z0o g 87 f) λi j =>
 z0 (z03 (z0w 87 i b) j) λk l =>
 z0 (z0o l 3 k) λm o =>
 z0 (z03 (z0s .gtr 3 m (V.int .i64 0) true) o) λp q =>
 zP p (
 z7 (z46 Q n x0 x41 x42 q)) (
 z0 (y7 x0 q) λr s =>
 z0 (z03 (z0e 229 r 1) s) λt u =>
 z0 (z0o u 99 t) λw y =>
 z0 (z03 (z0w 99 w b) y) λz A =>
 z0 (z0o A 4 z) λB C =>
 zP B (
 z0 (y7 x0 C) λD E =>
 z0 (z03 (z0e 229 D 1) E) λF G =>
 z0 (z0o G 99 F) λH I =>
 z0 (z03 (z0w 99 H b) I) λJ K =>
 z0 (z0t K 4 J (V.bool false)) λ_ L =>
 z7 (z46 Q n x0 x41 x42 L)) (
 Q (.ret (V.yX [b,(V.bool true)])) C))) λv h=>Q (.panic v) h)):=K_
theorem Cl:Ce Q h=(
 Q (.ret (V.yX [(V.int .i64 0),(V.bool false)])) h):=K_
theorem P1:IO Q (n+1) x0 x41 x42 h=(
 z0 (z03 (z0s .lss 3 x42 x41 false) h) λb c =>
 zP b (
 z7 (zbN Q n x0 x41 x42 c)) (
 z7 (Ce Q c))):=K_
theorem EH:z6J Q x0 h=(
 z0 (y7 x0 h) λb c =>
 z0 (z03 (z0e 229 b 3) c) λd e =>
 z0 (z0o e 87 d) λf g =>
 z0 (z0u g .len [87] [f]) λi j =>
 z0 (z03 (z0s .mul 3 (V.int .i64 2) i true) j) λk l =>
 ∃ n,z7 (IO Q n x0 k (V.int .i64 0) l)):=K_
theorem Hr:Ig Q (n+1) x0 x12 x13 h=(
 z0 (z03 (z0s .lss 3 x13 x12 false) h) λb c =>
 zP b (
 z7 (zan Q n x0 x12 x13 c)) (
 z7 (z6J Q x0 c))):=K_
theorem FC:z8n Q x0 h=(
 z0 (y7 x0 h) λb c =>
 z0 (z03 (z0e 229 b 3) c) λd e =>
 z0 (z0o e 87 d) λf g =>
 z0 (z0u g .len [87] [f]) λi j =>
 ∃ n,z7 (Ig Q n x0 i (V.int .i64 0) j)):=K_
theorem C55 (c :
 z0 (z03 (z0s .eql 134 a0 (V.ptr none) true) h) λb c =>
 zP b (
 Q (.ret (V.yX [(V.int .i64 0),(V.bool false)])) c) (
 z7 (z8n Q a0 c))):z0q 55 [a0] h Q :=
 mkC Tryz.func55 B55 N55 K55 R55 c
def B61:=bd Tryz.f61
def R61:List ResultVar:=[]
abbrev N61:=19
def K61:KT:=(sQ lF (.two (.nG [11,13]) lF) [0,1,6])
theorem C61 (c :
 z0q 109 [a0,a1] h (zS (λb c =>
 zP b (
 zc (zj (y7 a0 c)) λd =>
 zc (zj (z03 (z0e 229 d 1) c)) λe =>
 zc (zj (z0o c 99 e)) λf =>
 (
 zc (zj (y7 a0 c)) λg =>
 zc (zj (z03 (z0e 229 g 2) c)) λi =>
 zc (zj (z0o c 99 i)) λj =>
 (
 zc (zj (z03 (z0w 99 f a1) c)) λk =>
 z0 (z0t c 4 k (V.bool false)) λ_ l=>(
 zc (zj (z03 (z0w 99 j a1) l)) λm =>
 z0 (z0t l 4 m (V.bool false)) λ_ o=>(
 Q (.ret (V.yX [])) o))))) (
 Q (.ret (V.yX [])) c)) λv h=>Q (.panic v) h)):z0q 61 [a0,a1] h Q :=
 mkC Tryz.func61 B61 N61 K61 R61 c
def B62:=bd Tryz.f62
def R62:List ResultVar:=[.tmp 4]
abbrev N62:=16
def K62:KT:=(sQ lF (jN (sQ lF (.two (sQ lF lF [4]) lF) [0,1,8]) (sQ lF lF [4]) [0,1]) [0,1])
def z8r:Prop:=xG Pg N62 B62 K62 [1,1] [] (zn Pg R62 Q) [(0,x0),(1,x1)] h
theorem Bg:z8r Q x0 x1 h=(
 z0 (y7 x0 h) λb c =>
 z0 (z03 (z0e 229 b 3) c) λd e =>
 z0 (z0o e 87 d) λf g =>
 z0 (z03 (z0w 87 f x1) g) λi j =>
 z0 (z0o j 3 i) λk l =>
 Q (.ret k) l):=K_
theorem C62 (c :
 z0q 109 [a0,a1] h (zS (λb c =>
 z0 (z03 (qd .not b) c) λd e =>
 zP d (
 Q (.ret (V.int .i64 0)) e) (
 z7 (z8r Q a0 a1 e))) λv h=>Q (.panic v) h)):z0q 62 [a0,a1] h Q :=
 mkC Tryz.func62 B62 N62 K62 R62 c
def B63:=bd Tryz.f63
def R63:List ResultVar:=[.tmp 4]
abbrev N63:=28
def K63:KT:=(sQ lF (jN (jN (.rm [[0,1,9,17]]) (.two (sQ lF lF [4]) lF) [0,1,18]) (sQ lF (sQ lF lF [4]) []) [0,1]) [0,1])
def W63 (p l:List Nat) (e:zJ):Prop:=xG Pg N63 B63 K63 p l (zn Pg R63 Q) e h
def zau:Prop:=W63 Q h [1,1] [] [(0,x0),(1,x1)]
def z9v:Prop:=W63 Q h [1,0,1] [] [(0,x0),(1,x1),(18,x18)]
def z3w:Prop:=yu Pg N63 B63 K63 [1,0,0] 2 1 [] (zn Pg R63 Q) [(0,x0),(1,x1),(9,x9),(17,x17)] h
theorem Dl:zau Q x0 x1 h=(
 z0 (y7 x0 h) λb c =>
 z0 (z03 (z0e 229 b 3) c) λd e =>
 z0 (z0o e 87 d) λf g =>
 z0 (z03 (z0w 87 f x1) g) λi j =>
 z0 (z0o j 3 i) λk l =>
 z0 (z03 (z0s .sub 3 k (V.int .i64 1) true) l) λm o =>
 z0 (z03 (z0w 87 f x1) o) λp q =>
 z0 (z0t q 3 p m) λ_ r =>
 Q (.ret (V.bool true)) r):=K_
theorem Pr:z9v Q x0 x1 x18 h=(
 zP x18 (
 Q (.ret (V.bool false)) h) (
 z7 (zau Q x0 x1 h))):=K_
theorem Wm:z3w Q x0 x1 x9 x17 h=(
 z0 (yc x9 (V.bool true) x17 h) λb c =>
 z7 (z9v Q x0 x1 b c)):=K_
theorem C63 (c :
 z0q 109 [a0,a1] h (zS (λb c =>
 z0 (z03 (qd .not b) c) λd e =>
 vp d false (
 z0 (y7 a0 e) λf g =>
 z0 (z03 (z0e 229 f 3) g) λi j =>
 z0 (z0o j 87 i) λk l =>
 z0 (z03 (z0w 87 k a1) l) λm o =>
 z0 (z0o o 3 m) λp q =>
 z0 (z03 (z0s .eql 3 p (V.int .i64 0) true) q) λr s =>
 z7 (z3w Q a0 a1 d r s)) (z7 (z3w Q a0 a1 d yw e))) λv h=>Q (.panic v) h)):z0q 63 [a0,a1] h Q :=
 mkC Tryz.func63 B63 N63 K63 R63 c
def LW:=bd Tryz.f109
def IR:List ResultVar:=[.tmp 4]
abbrev IZ:=20
def LO:KT:=(sQ lF (jN (.rm [[0,1,7,9],[11,18]]) lF [4]) [0,1])
def zeu:Prop:=xG Pg IZ LW LO [1,1] [] (zn Pg IR Q) [(4,x4)] h
def Gz2:Prop:=yu Pg IZ LW LO [1,0] 4 2 [] (zn Pg IR Q) [(11,x11),(18,x18)] h
def Gz1:Prop:=yu Pg IZ LW LO [1,0] 2 1 [] (zn Pg IR Q) [(0,x0),(1,x1),(7,x7),(9,x9)] h
theorem z11:zeu Q x4 h=(
 Q (.ret x4) h):=K_
theorem LF:Gz2 Q x11 x18 h=(
 z0 (yc x11 x18 (V.bool false) h) λb c =>
 z7 (zeu Q b c)):=K_
theorem z1S:Gz1 Q x0 x1 x7 x9 h=(
 z0 (yc x7 x9 (V.bool false) h) λb c =>
 vp b true (
 z0 (y7 x0 c) λd e =>
 z0 (z03 (z0e 229 d 3) e) λf g =>
 z0 (z0o g 87 f) λi j =>
 z0 (z0u j .len [87] [i]) λk l =>
 z0 (z03 (z0s .lss 3 x1 k false) l) λm o =>
 z7 (Gz2 Q b m o)) (z7 (Gz2 Q b yw c))):=K_
theorem C109 (c :
 z0 (z03 (z0s .neq 134 a0 (V.ptr none) true) h) λb c =>
 vp b true (
 z0 (z03 (z0s .geq 3 a1 (V.int .i64 0) true) c) λd e =>
 z7 (Gz1 Q a0 a1 b d e)) (z7 (Gz1 Q a0 a1 b yw c))):z0q 109 [a0,a1] h Q :=
 mkC Tryz.func109 LW IZ LO IR c
def z1T:=bd Tryz.f110
def z7K:List ResultVar:=[.tmp 2]
abbrev z7U:=29
def z1p:KT:=(sQ lF (sQ lF (sQ lF (jN (sQ lF (.two lF lF) [0,3,24]) (sQ lF lF [2]) [3]) [0,3]) [0,3]) [0])
def z5I:Prop:=xG Pg z7U z1T z1p [1,1,1,1] [] (zn Pg z7K Q) [(3,x3)] h
theorem z0U:z5I Q x3 h=(
 Q (.ret x3) h):=K_
theorem C110 (c :
 z0 (y7 a0 h) λb c =>
 z0 (z03 (z0e 229 b 0) c) λd e =>
 z0 (z0o e 3 d) λf g =>
 z0 (y7 a0 g) λi j =>
 z0 (z03 (z0e 229 i 0) j) λk l =>
 z0 (z0o l 3 k) λm o =>
 z0 (z03 (z0s .add 3 m (V.int .i64 1) true) o) λp q =>
 z0 (y7 a0 q) λr s =>
 z0 (z03 (z0e 229 r 0) s) λt u =>
 z0 (z0t u 3 t p) λ_ w =>
 zc (zj (y7 a0 w)) λy =>
 zc (zj (z03 (z0e 229 y 0) w)) λz =>
 zc (zj (z0o w 3 z)) λA =>
 zc (zj (y7 a0 w)) λB =>
 zc (zj (z03 (z0e 229 B 3) w)) λC =>
 zc (zj (z0o w 87 C)) λD =>
 zc (zj (z0u w .len [87] [D])) λE =>
 zc (zj (z03 (z0s .eql 3 A E false) w)) λF =>
 zP F (
 z0 (y7 a0 w) λG H =>
 z0 (z03 (z0e 229 G 0) H) λI J =>
 z0 (z0t J 3 I (V.int .i64 0)) λ_ K =>
 z7 (z5I Q f K)) (
 z7 (z5I Q f w))):z0q 110 [a0] h Q :=
 mkC Tryz.func110 z1T z7U z1p z7K c
def B156:=bd Tryz.f156
def R156:List ResultVar:=[]
abbrev N156:=16
def K156:KT:=(sQ lF (.two lF lF) [0,1,2,8])
theorem C156 (c :
 z0q 109 [a0,a1] h (zS (λb c =>
 zP b (
 z0 (y7 a0 c) λd e =>
 z0 (z03 (z0e 229 d 2) e) λf g =>
 z0 (z0o g 99 f) λi j =>
 z0 (z03 (z0w 99 i a1) j) λk l =>
 z0 (z0t l 4 k a2) λ_ m =>
 Q (.ret (V.yX [])) m) (
 Q (.ret (V.yX [])) c)) λv h=>Q (.panic v) h)):z0q 156 [a0,a1,a2] h Q :=
 mkC Tryz.func156 B156 N156 K156 R156 c
end
end
def uv (l:List Bool):List V:=l.map .bool
def kP (l:List Nat):List V:=l.map λn:Nat=>V.int .i64 (n:Int)
theorem oR (l:List Bool):(uv l).length=l.length:=by simp [uv]
theorem jA (i:Nat):0+((i:Nat):Int).toNat=i:=O_
theorem sK {l:List Bool} {i:Nat} (h:i<l.length):yF (.agg (uv l)) ([]++[0+((i:Nat):Int).toNat])=some (.bool (l.getD i false)):=by
 rw [jA];exact v7 (by simp [uv,List.getElem?_eq_getElem h])
theorem qt {l:List Nat} {i:Nat} (h:i<l.length):yF (.agg (kP l)) ([]++[0+((i:Nat):Int).toNat])=some (.int .i64 ((l.getD i 0:Nat):Int)):=by
 rw [jA];exact v7 (by simp [kP,List.getElem?_eq_getElem h])
theorem nB {l:List Bool} {i:Nat} (h:i<l.length) (b:Bool):tX (.agg (uv l)) ([]++[0+((i:Nat):Int).toNat]) (.bool b)=some (.agg (uv (l.set i b))):=by
 rw [jA];simp [tX,uv,List.getElem?_eq_getElem h,List.map_set]
theorem Uq {l:List Nat} {i:Nat} (h:i<l.length) (n:Nat):tX (.agg (kP l)) ([]++[0+((i:Nat):Int).toNat]) (.int .i64 n)=some (.agg (kP (l.set i n))):=by
 rw [jA];simp [tX,kP,List.getElem?_eq_getElem h,List.map_set]
structure Ck where
 hand:Nat
 seen:List Bool
 vQ:List Bool
 pins:List Nat
def Ck.n (c:Ck):Nat:=c.pins.length
structure Ck.ok (c:Ck):Prop where
 hand:c.hand<c.n
 seen:c.seen.length=c.n
 vQ:c.vQ.length=c.n
 n:c.n<=64
 pins:∀ p∈c.pins,p<=1000000
def LK (c:Ck) (s d p:Nat):V:=.agg [.int .i64 c.hand,.y8 (some (⟨s,.row 4,[]⟩,0)) c.n,.y8 (some (⟨d,.row 4,[]⟩,0)) c.n,.y8 (some (⟨p,.row 3,[]⟩,0)) c.n]
structure oG (h:AH) (k s d p:Nat) (c:Ck):Prop where
 fk:h.m k=some (.cells true (.one 229) (LK c s d p))
 fs:h.m s=some (.cells true (.row 4) (.agg (uv c.seen)))
 fd:h.m d=some (.cells true (.row 4) (.agg (uv c.vQ)))
 fp:h.m p=some (.cells true (.row 3) (.agg (kP c.pins)))
 o:k<h.next/\s<h.next/\d<h.next/\p<h.next/\s≠d
 ok:c.ok
abbrev gx (k:Nat):V:=.ptr (some ⟨k,.one 229,[]⟩)
abbrev TB:xr:=[(1,4,0)]
abbrev TI:xr:=[(1,3,0)]
abbrev TK:xr:=[(0,229,0),(1,4,0)]
theorem oG.zA {T:xr} {h h':AH} {k s d p:Nat} {c:Ck} (a:oG h k s d p c) (q:zb T h h') (h1:T.contains (0,229,0)=false) (h2:T.contains (1,4,0)=false) (h3:T.contains (1,3,0)=false):oG h' k s d p c:=by
 obtain ⟨a1,a2,a3,a4,⟨o1,o2,o3,o4,o5⟩,ok⟩:=a;have:=q.next;exact ⟨q.at a1 o1 h1,q.at a2 o2 h2,q.at a3 o3 h2,q.at a4 o4 h3,⟨O_,O_,O_,O_,o5⟩,ok⟩
section
variable {h:AH} {k s d p:Nat} {c:Ck}
theorem zaC (a:oG h k s d p c) (i:Int):z0q 109 [gx k,.int .i64 i] h (zO (.bool (decide (0<=i/\i<c.n))) h):=by
 refine C109 _ _ _ _ ?_;refine z6 (show zi Pg .neq 134 (.ptr (some _)) (.ptr none) true=some (.bool true) from K_) ?_;apply sE;refine z6 rB ?_;refine sm (z1S _ _ _ _ _ _) ?_;refine ze gD ?_;refine qY (λq=>?_) (λq=>?_)
 ·rw [q]
  replace q:=of_decide_eq_true q
  refine ze rfl ?_;refine z6 (yM K_) ?_;refine ze (zR a.fk K_ rfl) ?_;refine ze (wa K_) ?_;refine z6 vq ?_;refine sm (LF _ _ _ _) ?_;refine ze gD ?_;refine sm (z11 _ _ _) ?_;refine ⟨?_,rfl⟩;congr 2;by_cases r:i<c.n <;> simp [r];omega
 ·rw [q]
  replace q:=of_decide_eq_false q
  refine sm (LF _ _ _ _) ?_;refine ze j9 ?_;refine sm (z11 _ _ _) ?_;refine ⟨?_,rfl⟩;rw [decide_eq_false O_]
theorem fh (a:oG h k s d p c) {i:Nat} (hi:i<c.n):z0q 109 [gx k,.int .i64 i] h (zO (.bool true) h):=by
 have:=zaC a i;rw [decide_eq_true O_] at this;exact this
theorem oG.z4P {h':AH} {l:List Bool} (a:oG h k s d p c) (u:lD h h' s (.cells true (.row 4) (.agg (uv l)))) (hl:l.length=c.n):oG h' k s d p { c with seen:=l }:=by
 obtain ⟨o1,o2,o3,o4,o5⟩:=a.o;have n1:=u.next;exact ⟨(u.other _ (uQ a.fk a.fs (by simp [AO.tag]))).trans a.fk,u.at_,(u.other _ (λe=>o5 e.symm)).trans a.fd,(u.other _ (uQ a.fp a.fs (by simp [AO.tag]))).trans a.fp,⟨O_,O_,O_,O_,o5⟩,a.ok.hand,hl,a.ok.vQ,a.ok.n,a.ok.pins⟩
theorem oG.zde {h':AH} {l:List Bool} (a:oG h k s d p c) (u:lD h h' d (.cells true (.row 4) (.agg (uv l)))) (hl:l.length=c.n):oG h' k s d p { c with vQ:=l }:=by
 obtain ⟨o1,o2,o3,o4,o5⟩:=a.o;have n1:=u.next;exact ⟨(u.other _ (uQ a.fk a.fd (by simp [AO.tag]))).trans a.fk,(u.other _ o5).trans a.fs,u.at_,(u.other _ (uQ a.fp a.fd (by simp [AO.tag]))).trans a.fp,⟨O_,O_,O_,O_,o5⟩,a.ok.hand,a.ok.seen,hl,a.ok.n,a.ok.pins⟩
theorem oG.zdf {h':AH} {l:List Nat} (a:oG h k s d p c) (u:lD h h' p (.cells true (.row 3) (.agg (kP l)))) (hl:l.length=c.n) (hp:∀ x∈l,x<=1000000):oG h' k s d p { c with pins:=l }:=by
 obtain ⟨o1,o2,o3,o4,o5⟩:=a.o;have n1:=u.next;have en:({ c with pins:=l }:Ck).n=c.n:=hl;have ek:LK { c with pins:=l } s d p=LK c s d p:=by unfold LK;rw [en]
 exact ⟨by rw [ek];exact (u.other _ (uQ a.fk a.fp (by simp [AO.tag]))).trans a.fk,(u.other _ (uQ a.fs a.fp (by simp [AO.tag]))).trans a.fs,(u.other _ (uQ a.fd a.fp (by simp [AO.tag]))).trans a.fd,u.at_,⟨O_,O_,O_,O_,o5⟩,by rw [en];exact a.ok.hand,by rw [en];exact a.ok.seen,by rw [en];exact a.ok.vQ,by rw [en];exact a.ok.n,hp⟩
theorem Q3 (a:oG h k s d p c) {i:Nat} (hi:i<c.n):z0q 53 [gx k,.int .i64 i] h (xj TB h (.yX []) λh'=>oG h' k s d p { c with seen:=c.seen.set i true }):=by
 have hs:=a.ok.seen;refine C53 _ _ _ _ ?_;refine yf (fh a hi) (xz ?_);refine ze rfl ?_;refine z6 (yM K_) ?_;refine ze (zR a.fk K_ rfl) ?_;refine z6 (xW _ K_ O_ O_) ?_;refine zq (zM a.fs K_ (sK O_) K_ (nB O_ true)) λh1 u1=>?_;exact ⟨rfl,zb.vP u1 a.fs rfl rfl,a.z4P u1 (by simp;exact hs)⟩
theorem CJ (a:oG h k s d p c) {i:Nat} (hi:i<c.n):z0q 61 [gx k,.int .i64 i] h (xj TB h (.yX []) λh'=>oG h' k s d p { c with seen:=c.seen.set i false,vQ:=c.vQ.set i false }):=by
 have hs:=a.ok.seen;have hd:=a.ok.vQ;refine C61 _ _ _ _ ?_;refine yf (fh a hi) (xz ?_);refine zN rfl ?_;refine zg (yM K_) ?_;refine zN (zR a.fk K_ rfl) ?_;refine zN rfl ?_;refine zg (yM K_) ?_;refine zN (zR a.fk K_ rfl) ?_;refine zg (xW _ K_ O_ O_) ?_;refine zq (zM a.fs K_ (sK O_) K_ (nB O_ false)) λh1 u1=>?_;have a1:=a.z4P u1 (by simp;exact hs);refine zg (xW _ K_ O_ O_) ?_;refine zq (zM a1.fd K_ (sK (by show i<c.vQ.length;omega)) K_ (nB (by show i<c.vQ.length;omega) false)) λh2 u2=>?_;have a2:=a1.zde u2 (by show (c.vQ.set i false).length=_;simp;exact hd);exact ⟨rfl,(zb.vP u1 a.fs rfl rfl).trans (zb.vP u2 a1.fd rfl rfl),a2⟩
theorem UC {l:List Nat} {i v:Nat} (h:∀ x∈l,x<=1000000) (hv:v<=1000000):∀ x∈l.set i v,x<=1000000:=λx hx=>by
 rcases List.mem_or_eq_of_mem_set hx with q | q
 ·exact h x q
 ·omega
theorem lO {l:List Nat} {i:Nat} (h:i<l.length):l.getD i 0∈l:=by
 rw [List.getD_eq_getElem?_getD,List.getElem?_eq_getElem h];exact List.getElem_mem h
theorem z0b (a:oG h k s d p c) {i:Nat} (hi:i<c.n) (hm:c.pins.getD i 0<1000000):z0q 54 [gx k,.int .i64 i] h (xj TI h (.yX []) λh'=>oG h' k s d p { c with pins:=c.pins.set i (c.pins.getD i 0+1) }):=by
 have hs:c.pins.length=c.n:=rfl;refine C54 _ _ _ _ ?_;refine yf (fh a hi) (xz ?_);refine ze rfl ?_;refine z6 (yM K_) ?_;refine ze (zR a.fk K_ rfl) ?_;refine z6 (xW _ K_ O_ O_) ?_;refine ze (zR a.fp K_ (qt O_)) ?_;refine z6 (vu (zW O_ O_)) ?_;refine z6 (xW _ K_ O_ O_) ?_;refine zq (zM a.fp K_ (qt O_) K_ (Uq O_ (c.pins.getD i 0+1))) λh1 u1=>?_;exact ⟨rfl,zb.vP u1 a.fp rfl rfl,a.zdf u1 (by simp;exact hs) (UC a.ok.pins O_)⟩
theorem z1k (a:oG h k s d p c) {i:Nat} (hi:i<c.n):z0q 62 [gx k,.int .i64 i] h (zO (.int .i64 (c.pins.getD i 0:Nat)) h):=by
 have hs:c.pins.length=c.n:=rfl;refine C62 _ _ _ _ ?_;refine yf (fh a hi) ?_;refine z6 mT (yZ ?_);refine sm (Bg _ _ _ _) ?_;refine ze rfl ?_;refine z6 (yM K_) ?_;refine ze (zR a.fk K_ rfl) ?_;refine z6 (xW _ K_ O_ O_) ?_;refine ze (zR a.fp K_ (qt O_)) ?_;exact ⟨rfl,rfl⟩
theorem P3 (a:oG h k s d p c) {i:Nat} (hi:i<c.n) (hp:0<c.pins.getD i 0):z0q 63 [gx k,.int .i64 i] h (xj TI h (.bool true) λh'=>oG h' k s d p { c with pins:=c.pins.set i (c.pins.getD i 0-1) }):=by
 have hs:c.pins.length=c.n:=rfl;have hm:=a.ok.pins _ (lO (l:=c.pins) (i:=i) O_);refine C63 _ _ _ _ ?_;refine yf (fh a hi) ?_;refine z6 mT (xc ?_);refine ze rfl ?_;refine z6 (yM K_) ?_;refine ze (zR a.fk K_ rfl) ?_;refine z6 (xW _ K_ O_ O_) ?_;refine ze (zR a.fp K_ (qt O_)) ?_;refine z6 qe ?_;rw [show (((c.pins.getD i 0:Nat):Int) == 0)=false from beq_eq_false_iff_ne.2 O_];refine sm (Wm _ _ _ _ _ _) ?_;refine ze j9 ?_;refine sm (Pr _ _ _ _ _) ?_;apply yZ;refine sm (Dl _ _ _ _) ?_;refine ze rfl ?_;refine z6 (yM K_) ?_;refine ze (zR a.fk K_ rfl) ?_;refine z6 (xW _ K_ O_ O_) ?_;refine ze (zR a.fp K_ (qt O_)) ?_;refine z6 (j8 (zW O_ O_)) ?_;refine z6 (xW _ K_ O_ O_) ?_;refine zq (zM a.fp K_ (qt O_) K_ (by rw [show ((c.pins.getD i 0:Nat):Int)-1=((c.pins.getD i 0-1:Nat):Int) by omega];exact Uq O_ (c.pins.getD i 0-1))) λh1 u1=>?_;exact ⟨rfl,zb.vP u1 a.fp rfl rfl,a.zdf u1 (by simp;exact hs) (UC a.ok.pins O_)⟩
end
section
variable {h:AH} {p:Nat} {d:Dk} {m:Nat}
theorem z0f {Q:yO->AH->Prop} {h0:AH} {b n5:Nat} {x:List UInt8} (hx:x.length=256) (hp:d.zT.length<=900000000):∀ (j i m:Nat) (h:AH),i+j=4->j<m->zb gU h0 h->qf h p (d.put b x i)->h.m n5=some (.cells true (.one 111) (.agg (zd x)))->n5<h.next ->
 (∀ h',zb gU h0 h'->qf h' p (d.put b x 4)->zbI Q h')->G9 Q m (pU p) (.int .i64 b) (X2 n5) (.int .i64 i) h
 | j,i,0,h,sT,hm,_,_,_,_,_=>by omega
 | 0,i,m+1,h,sT,hm,q,k,f5,h5,cont=>by
  obtain rfl:i=4:=O_;rw [Pn];refine z6 vq ?_;rw [decide_eq_false O_];apply yZ;exact z7.of (cont h q k)
 | j+1,i,m+1,h,sT,hm,q,k,f5,h5,cont=>by
  rw [Pn];refine z6 vq ?_;rw [decide_eq_true O_];apply xz;refine z7.of (IP k (by show (Z7 d.zT b x i).length<=_;rw [kB];omega) hx O_ f5 h5 λh' q' f5' k'=>?_);have:=q'.next;exact z0f hx hp j (i+1) m h' O_ O_ (q.trans q') k' f5' O_ cont
theorem WM (k:qf h p d) (ho:d.ops<1000000000000) (hp:d.zT.length<=900000000) (b:Int) {x:List UInt8} (hx:x.length=256):z0q 42 [pU p,.int .i64 b,.agg (zd x)] h (xj gU h (.int .i64 (d.write b x).1) λh'=>qf h' p (d.write b x).2):=by
 refine C42 _ _ _ _ _ ?_;refine zq (yl (tY hx)) λh1 u1=>?_;have n1:=u1.next;have k1:qf h1 p d:=k.zA (T:=[]) (zb.new u1) rfl rfl rfl rfl;have q1:zb gU h h1:=zb.new u1;refine z6 (show zi Pg .eql 23 (.ptr (some _)) (.ptr none) true=some (.bool false) from K_) ?_;apply xc;refine ze rfl ?_;refine z6 (yM K_) ?_;obtain ⟨a,b',pv,fv,kb⟩:=id k1;refine ze (zR kb.vw K_ (w:=.bool d.down) rfl) ?_;refine sm (KM _ _ _ _ _ _ _) ?_;refine ze j9 ?_;refine sm (EF _ _ _ _ _ _) ?_;refine wJ (λc=>?_) (λc=>?_)
 ·replace c:d.down=true:=c
  have e:d.write b x=(4,d):=by unfold Dk.write;rw [if_pos c]
  rw [e];exact ⟨rfl,q1,k1⟩
 ·replace c:d.down=false:=c
  have c':¬ (d.down=true):=by rw [c];decide
  refine sm (I8 _ _ _ _ _) ?_;have mid:∀ v,v=decide (b<0\/(d.n:Int)<=b)->z6b (xj gU h (.int .i64 (d.write b x).1) λh'=>qf h' p (d.write b x).2) (pU p) (.int .i64 b) (X2 h.next) (.bool v) h1:=by
   intro v hv;rw [Hp];refine wJ (λg=>?_) (λg=>?_)
   ·rw [g] at hv;have g:=of_decide_eq_true hv.symm;have e:d.write b x=(1,d):=by unfold Dk.write;rw [if_neg c',if_pos g]
    rw [e];exact ⟨rfl,q1,k1⟩
   ·rw [g] at hv;have g:=of_decide_eq_false hv.symm;refine sm (Hd _ _ _ _ _) ?_;refine xN (z9b k1 ho) λh2 q2 k2=>?_;have n2:=q2.next;have f2:h2.m h.next=some (.cells true (.one 111) (.agg (zd x))):=q2.at u1.at_ O_ rfl;have po:zb gU h h2:=q1.trans (q2.sub rfl);refine z6 nl ?_;refine wJ (λe=>?_) (λe=>?_)
    ·replace e:=oO e
     have e2:d.write b x=d.op:=by unfold Dk.write;rw [if_neg c',if_neg g,if_pos e]
     rw [e2];exact ⟨rfl,po,k2⟩
    ·replace e:=uY e
     have e2:d.write b x=(0,d.op.2.put b.toNat x 4):=by unfold Dk.write;rw [if_neg c',if_neg g,if_neg O_]
     rw [e2];refine sm (CM _ _ _ _ _) ?_;have hb0:b=((b.toNat:Nat):Int):=O_;have key:=λc=>z0f (Q:=xj gU h (.int .i64 0) λh'=>qf h' p (d.op.2.put b.toNat x 4)) (h0:=h) (d:=d.op.2) (b:=b.toNat) (n5:=h.next) hx (by rw [d.kK];exact hp) 4 0 5 h2 O_ O_ po k2 f2 O_ c;rw [<- hb0] at key;refine ⟨5,z7.of (key λh' q k=>?_)⟩;rw [Hf];exact ⟨rfl,q,k⟩
  refine z6 vq ?_;refine pj (λg=>?_) (λg=>?_)
  ·rw [g]
   replace g:=of_decide_eq_false g
   refine ze rfl ?_;refine z6 (yM K_) ?_;refine ze (zR kb.vw K_ (w:=.int .i64 d.n) rfl) ?_;refine z6 rB ?_;refine sm (HQ _ _ _ _ _ _ _) ?_;refine ze j9 ?_;refine z7.of (mid _ ?_);by_cases r:(d.n:Int)<=b
   ·rw [decide_eq_true O_,decide_eq_true O_]
   ·rw [decide_eq_false O_,decide_eq_false O_]
  ·rw [g]
   replace g:=of_decide_eq_true g
   refine sm (HQ _ _ _ _ _ _ _) ?_;refine ze gD ?_;refine z7.of (mid _ ?_);rw [decide_eq_true O_]
end
def SJ (f:Nat->Bool):Nat->Sm->Sm->Sm
 | _,s,[]=>s
 | i,s,(k,x) :: l=>SJ f (i+1) (if f i then sV s k x else s) l
def eP (zA:List Bool) (all:Bool) (i:Nat):Bool:=all||zA.getD i false
def Dk.settle (d:Dk) (zA:List Bool) (all:Bool):Dk:={ d with sure:=SJ (eP zA all) 0 d.sure d.zT,zT:=[] }
section
variable {p:Nat} {zA:List Bool} {all:Bool} {kv:V}
theorem MA {Q:yO->AH->Prop} {h h0:AH} {d:Dk} {np i m:Nat} {x12:V} {l:Sm} (k:qf h p d) (q:zb gU h0 h) (hk:nD 4 h kv (uv zA)) (hl:pY l) (fp:h.m np=some (.cells true (.row 211) (.agg (l.map SM)))) (hp:np<h.next) (hi:i<l.length) (h31:l.length<=1000000000)
 (cont:∀ h',zb gU h0 h'->nD 4 h' kv (uv zA)->h'.m np=some (.cells true (.row 211) (.agg (l.map SM)))->np<h'.next->qf h' p { d with sure:=if eP zA all i then sV d.sure (l.getD i ((0,0),[])).1 (l.getD i ((0,0),[])).2 else d.sure }->z2j Q m (pU p) kv (.bool all) (.y8 (some (⟨np,.row 211,[]⟩,0)) l.length) x12 (.int .i64 ((i+1:Nat):Int)) h') :
 z9m Q m (pU p) kv (.bool all) (.y8 (some (⟨np,.row 211,[]⟩,0)) l.length) x12 (.int .i64 i) h:=by
 obtain ⟨w,hw⟩:∃ w,l[i]?=some w:=⟨l[i],List.getElem?_eq_getElem hi⟩
 have hwd:l.getD i ((0,0),[])=w:=by rw [List.getD_eq_getElem?_getD,hw];rfl
 rw [hwd] at cont;have hws:w.2.length=64:=hl w (List.mem_of_getElem? hw);rw [QP];refine z6 (xW _ K_ O_ O_) ?_;refine ze (zR fp K_ (v7 (w:=SM w) (by rw [jA,List.getElem?_map,hw];rfl))) ?_;refine zq (yA zWr (Ke (zI 64))) λh1 u1=>?_;have n1:=u1.next;refine zq (zM (p:=[]) u1.at_ K_ rfl (Ke hws) (v':=SM w) rfl) λh2 u2=>?_;have n2:=u2.next;have q2:zb [] h h2:=(zb.new u1).ya u2 (Nat.le_refl _);have k2:qf h2 p d:=k.zA q2 rfl rfl rfl rfl;have hk2:=hk.zA q2 rfl;have fp2:=q2.at fp hp rfl;have po:zb gU h0 h2:=q.trans (q2.sub rfl);have step:∀ c,c=eP zA all i->z6F Q m (pU p) kv (.bool all) (.ptr (some ⟨h.next,.one 211,[]⟩)) (.y8 (some (⟨np,.row 211,[]⟩,0)) l.length) x12 (.int .i64 i) (.bool c) h2:=by
  intro c hc;rw [Xo];refine wJ (λg=>?_) (λg=>?_)
  ·rw [g] at hc;rw [<- hc] at cont;obtain ⟨a,b,pv,fv,kb⟩:=k2;refine zN rfl ?_;refine zg (yM K_) ?_;refine zN (zR kb.vw K_ (w:=.map (some a)) rfl) ?_;refine zg (yM K_) ?_;refine zN (zR u2.at_ K_ (w:=cW w.1.1 w.1.2) rfl) ?_;refine zg (yM K_) ?_;refine zN (zR u2.at_ K_ (w:=.agg (zd w.2)) rfl) ?_;refine zq (Ak kb.T0 w.1.1 w.1.2 hws) λh3 u3=>?_;have n3:=u3.next;have q3:zb [(2,198,199)] h2 h3:=zb.vP u3 kb.T0 rfl rfl;obtain ⟨o1,o2,o3,o4⟩:=kb.o;refine sm (QB _ _ _ _ _ _ _ _ _) ?_;refine z6 (vu (zW O_ O_)) ?_;exact z7.of (cont h3 (po.trans (q3.sub rfl)) (hk2.zA q3 rfl) (q3.at fp2 O_ rfl) O_ ⟨a,b,pv,fv,q3.at kb.vw o1 rfl,u3.at_,(u3.other _ o4.symm).trans kb.X9,kb.T1.zA q3 rfl,kb.Zv.zA q3 rfl,⟨O_,O_,O_,o4⟩,kb.ok.n,bE kb.ok.sure hws,kb.ok.seen,kb.ok.zT,kb.ok.uT⟩)
  ·rw [g] at hc;rw [<- hc] at cont;refine sm (QB _ _ _ _ _ _ _ _ _) ?_;refine z6 (vu (zW O_ O_)) ?_;exact z7.of (cont h2 po hk2 fp2 O_ k2)
 cases all with
 | true =>
  apply tA;refine sm (Ga _ _ _ _ _ _ _ _ _ _ _ _ _) ?_;apply aQ;refine sm (iI _ _ _ _ _ _ _ _ _ _ _ _ _) ?_;apply tA;refine sm (lP _ _ _ _ _ _ _ _ _ _ _ _) ?_;refine ze gD ?_;exact z7.of (step true rfl)
 | false =>
  apply xc;obtain ⟨ak,rfl⟩:=hk2.shape;refine ze (wa K_) ?_;refine z6 vq ?_;rw [oR];by_cases hlt:i<zA.length
  ·rw [decide_eq_true O_];refine sm (Ga _ _ _ _ _ _ _ _ _ _ _ _ _) ?_;apply sE;rcases hk2 with ⟨e,hz⟩ | ⟨nk,hn,e,fk⟩
   ·rw [<- oR,hz] at hlt;simp at hlt
   ·rw [oR] at e;rw [e];refine z6 (xW _ K_ O_ O_) ?_;refine ze (zR fk K_ (sK hlt)) ?_;rw [<- e];refine sm (iI _ _ _ _ _ _ _ _ _ _ _ _ _) ?_;apply xc;refine ze gD ?_;refine sm (lP _ _ _ _ _ _ _ _ _ _ _ _) ?_;refine ze j9 ?_;rw [<- oR] at *;exact z7.of (step _ rfl)
  ·rw [decide_eq_false O_];refine sm (Ga _ _ _ _ _ _ _ _ _ _ _ _ _) ?_;apply jo;refine sm (iI _ _ _ _ _ _ _ _ _ _ _ _ _) ?_;apply xc;refine ze j9 ?_;refine sm (lP _ _ _ _ _ _ _ _ _ _ _ _) ?_;refine ze j9 ?_;have e0:eP zA false i=false:=by unfold eP;rw [List.getD_eq_getElem?_getD,List.getElem?_eq_none O_];rfl
   rw [oR] at *;exact z7.of (step _ e0.symm)
theorem AJ {Q:yO->AH->Prop} {h0:AH} {d:Dk} {np:Nat} {l S:Sm} (hl:pY l) (h31:l.length<=1000000000):∀ (j i m:Nat) (h:AH) (s:Sm),i+j=l.length->j<m->qf h p { d with sure:=s }->SJ (eP zA all) i s (l.drop i)=S->zb gU h0 h->nD 4 h kv (uv zA)->h.m np=some (.cells true (.row 211) (.agg (l.map SM)))->np<h.next ->
 (∀ h',zb gU h0 h'->qf h' p { d with sure:=S }->HJ Q (pU p) h')->z2j Q m (pU p) kv (.bool all) (.y8 (some (⟨np,.row 211,[]⟩,0)) l.length) (.int .i64 l.length) (.int .i64 i) h
 | j,i,0,h,s,sT,hm,_,_,_,_,_,_,_=>by omega
 | 0,i,m+1,h,s,sT,hm,k,hS,q,hk,fp,hp,cont=>by
  obtain rfl:i=l.length:=O_;rw [z0K];refine z6 vq ?_;rw [decide_eq_false O_];apply yZ;rw [List.drop_length,SJ] at hS;subst hS;exact z7.of (cont h q k)
 | j+1,i,m+1,h,s,sT,hm,k,hS,q,hk,fp,hp,cont=>by
  rw [z0K];refine z6 vq ?_;rw [decide_eq_true O_];apply xz;refine z7.of (MA k q hk hl fp hp O_ h31 λh' q' JH fp' hp' k'=>?_);refine AJ hl h31 j (i+1) m h' _ O_ O_ k' ?_ q' JH fp' hp' cont;rw [<- hS,List.drop_eq_getElem_cons (show i<l.length from O_),SJ];rw [List.getD_eq_getElem?_getD,List.getElem?_eq_getElem (show i<l.length from O_)];rfl
theorem LI {h:AH} {d:Dk} (k:qf h p d) (hk:nD 4 h kv (uv zA)) (hp:d.zT.length<=1000000000):z0q 84 [pU p,kv,.bool all] h (xj gU h (.yX []) λh'=>qf h' p (d.settle zA all)):=by
 obtain ⟨a,b,pv,fv,kb⟩:=id k;have fin:∀ (h':AH) (S:Sm),S=SJ (eP zA all) 0 d.sure d.zT->zb gU h h'->qf h' p { d with sure:=S }->HJ (xj gU h (.yX []) λh'=>qf h' p (d.settle zA all)) (pU p) h':=by
  intro h' S hS q k';obtain ⟨a,b,pv,fv,kb⟩:=k';rw [QS];refine ze rfl ?_;refine z6 (yM K_) ?_;obtain ⟨ap,hap⟩:=kb.T1.shape;refine zq (zM kb.vw K_ (w:=pv) rfl K_ (v':=JA (d.settle zA all) a b (.y8 none 0) fv) rfl) λh1 u1=>?_;have n1:=u1.next;have q1:zb QF h' h1:=zb.vP u1 kb.vw rfl rfl;obtain ⟨o1,o2,o3,o4⟩:=kb.o;subst hS;exact ⟨rfl,q.trans (q1.sub rfl),a,b,_,fv,u1.at_,q1.at kb.T0 o2 rfl,q1.at kb.X9 o3 rfl,.inl ⟨rfl,rfl⟩,kb.Zv.zA q1 rfl,⟨O_,O_,O_,o4⟩,kb.ok.n,kb.ok.sure,kb.ok.seen,(λx hx=>by simp [Dk.settle] at hx),kb.ok.uT⟩
 refine C84 _ _ _ _ _ ?_;refine ze rfl ?_;refine z6 (yM K_) ?_;refine ze (zR kb.vw K_ (w:=pv) rfl) ?_;rcases kb.T1 with ⟨rfl,hz⟩ | ⟨np,hn,rfl,fp⟩
 ·have hz2:d.zT=[]:=List.map_eq_nil_iff.1 hz;refine ze (wa K_) ?_;refine ⟨1,z7.of ?_⟩;rw [z0K];refine z6 vq ?_;rw [decide_eq_false D_];apply yZ;exact z7.of (fin h d.sure (by rw [hz2];rfl) (zb.refl _ _) k)
 ·rw [List.length_map];refine ze (wa K_) ?_;exact ⟨_,z7.of (AJ (S:=SJ (eP zA all) 0 d.sure d.zT) kb.ok.zT hp d.zT.length 0 (d.zT.length+1) h d.sure O_ O_ k rfl (zb.refl _ _) hk fp hn λh' q k'=>fin h' _ rfl q k')⟩
def Dk.sync (d:Dk):Int × Dk:=if d.down then (4,d) else if d.op.1≠0 then d.op else (0,d.op.2.settle [] true)
theorem Tv {h:AH} {d:Dk} (k:qf h p d) (ho:d.ops<1000000000000) (hp:d.zT.length<=1000000000):z0q 45 [pU p] h (xj gU h (.int .i64 d.sync.1) λh'=>qf h' p d.sync.2):=by
 refine C45 _ _ _ ?_;refine z6 (show zi Pg .eql 23 (.ptr (some _)) (.ptr none) true=some (.bool false) from K_) ?_;apply xc;refine ze rfl ?_;refine z6 (yM K_) ?_;obtain ⟨a,b',pv,fv,kb⟩:=id k;refine ze (zR kb.vw K_ (w:=.bool d.down) rfl) ?_;refine sm (Wp _ _ _ _ _) ?_;refine ze j9 ?_;refine sm (Cb _ _ _ _) ?_;refine wJ (λc=>?_) (λc=>?_)
 ·replace c:d.down=true:=c
  have e:d.sync=(4,d):=by unfold Dk.sync;rw [if_pos c]
  rw [e];exact ⟨rfl,zb.refl _ _,k⟩
 ·replace c:d.down=false:=c
  have c':¬ (d.down=true):=by rw [c];decide
  refine sm (D6 _ _ _) ?_;refine xN (z9b k ho) λh2 q2 k2=>?_;refine z6 nl ?_;refine wJ (λe=>?_) (λe=>?_)
  ·replace e:=oO e
   have e2:d.sync=d.op:=by unfold Dk.sync;rw [if_neg c',if_pos e]
   rw [e2];exact ⟨rfl,q2.sub rfl,k2⟩
  ·replace e:=uY e
   have e2:d.sync=(0,d.op.2.settle [] true):=by unfold Dk.sync;rw [if_neg c',if_neg O_]
   rw [e2];refine sm (El _ _ _) ?_;refine xN (LI (zA:=[]) (all:=true) k2 (.inl ⟨rfl,rfl⟩) (by rw [d.kK];exact hp)) λh3 q3 k3=>?_;exact ⟨rfl,(q2.sub rfl).trans q3,k3⟩
end
abbrev vd:=Bool × Nat
def pV (i:vd):V:=vM i.1 i.2
theorem z1C (a b:vd):wW (pV a) (pV b)=some (decide (b=a)):=by
 obtain ⟨a,m⟩:=a;obtain ⟨b,n⟩:=b;simp only [pV,vM,wW,v9,if_true];by_cases h1:a=b
 ·by_cases h2:m=n
  ·subst h1 h2;simp
  ·subst h1;have:((m:Int) == (n:Int))=false:=beq_eq_false_iff_ne.2 O_;simp [this,Ne.symm h2]
 ·have:(a == b)=false:=beq_eq_false_iff_ne.2 h1;simp [this,Ne.symm h1]
def iV (i:Nat):V:=.int .i64 (i:Int)
theorem fJ (i:vd):zf Pg (pV i) 43=true:=K_
theorem shI (i:Nat):zf Pg (iV i) 3=true:=K_
theorem Dg:W3 Pg 136 43 3=true:=K_
theorem zIn:xk Pg 3=some (iV 0):=K_
structure Fr where
 id:vd
 p:List UInt8
 xQ:Bool
 first:Nat
 Zw:Bool
def iD (f:Fr):V:=.agg [pV f.id,.agg (zd f.p),.bool f.xQ,.int .u64 f.first,.bool f.Zw]
structure Fr.ok (f:Fr):Prop where
 id:f.id.2<65536
 p:f.p.length=224
 first:f.first<18446744073709551616
theorem z6r {f:Fr} (h:f.p.length=224):zf Pg (iD f) 141=true:=by
 show zf Pg (.agg [pV f.id,.agg (zd f.p),.bool f.xQ,.int .u64 f.first,.bool f.Zw]) 141=true;have h1:=xf h;have h2:=fJ f.id;have h3:ul Pg 141=ul Pg 141:=rfl;generalize hx:V.agg (zd f.p)=x at h1 ⊢;generalize hy:pV f.id=y at h2 ⊢;have e:zf Pg (.agg [y,x,.bool f.xQ,.int .u64 f.first,.bool f.Zw]) 141=(zf Pg y 43&&(zf Pg x 33&&true)):=K_;rw [e,h1,h2];rfl
def Yv:Fr:=⟨(false,0),xM 224,false,0,false⟩
theorem MF:xk Pg 141=some (iD Yv):=K_
structure Ca where
 dk:Dk
 lg:Lg
 ck:Ck
 zH:Nat
 zU:Nat
 fr:List Fr
 wE:Nat
 at_:List (vd × Nat)
def Ca.tC (c:Ca) (i:vd):Prop:=if i.1 then i.2<c.zU else i.2<c.zH
instance (c:Ca) (i:vd):Decidable (c.tC i):=by unfold Ca.tC;infer_instance
structure Ca.ok (c:Ca):Prop where
 zH:1<=c.zH/\c.zH<=16
 zU:1<=c.zU/\c.zU<=32
 wE:c.ck.n=c.wE/\4<=c.wE/\c.wE<=32
 len:c.fr.length<=c.wE
 fr:∀ f∈c.fr,f.ok
 is:∀ f∈c.fr,c.tC f.id
 at_:∀ k i,xI c.at_ k=some i↔c.fr[i]?.map Fr.id=some k
 uq:jR c.at_
 size:2+c.zH+c.zU<=c.dk.n
structure ZD where
 d:Nat
 l:Nat
 k:Nat
 s:Nat
 c:Nat
 q:Nat
 m:Nat
def caV (c:Ca) (n:ZD) (lv:V):V:=.agg [pU n.d,.mB 83 (fM n.l),gx n.k,.int .i64 c.zH,.int .i64 c.zU,lv,.int .i64 c.wE,.map (some n.m)]
abbrev j4 (p:Nat):V:=.ptr (some ⟨p,.one 138,[]⟩)
structure pT (h:AH) (p:Nat) (n:ZD) (lv:V) (c:Ca):Prop where
 cache:h.m p=some (.cells true (.one 138) (caV c n lv))
 BY:nD 141 h lv (c.fr.map iD)
 at_:h.m n.m=some (.mp 43 3 (XW pV iV c.at_))
 dk:qf h n.d c.dk
 lg:gR h n.l c.lg
 ck:oG h n.k n.s n.c n.q c.ck
 o:p<h.next/\n.m<h.next
 lgd:c.lg.d=n.d
 ok:c.ok
def gF (h:AH) (p:Nat) (n:ZD) (c:Ca):Prop:=∃ lv,pT h p n lv c
abbrev TCa:xr:=[(0,138,0),(1,141,0),(2,43,3),(0,125,0),(2,198,199),(1,211,0),(2,3,4),(0,179,0),(1,184,0),(1,182,0),(0,229,0),(1,4,0),(1,3,0)]
def dC (S T:xr):Bool:=S.all λt=>!T.contains t
theorem yv {S T:xr} (h:dC S T=true) {t:Nat × Nat × Nat} (ht:S.contains t=true):T.contains t=false:=by
 have:=List.all_eq_true.1 h t (by simpa using ht);simpa using this
theorem pT.zA {T:xr} {h h':AH} {p:Nat} {n:ZD} {lv:V} {c:Ca} (k:pT h p n lv c) (q:zb T h h') (ht:dC TCa T=true):pT h' p n lv c:=by
 obtain ⟨k1,k2,k3,k4,k5,k6,⟨o1,o2⟩,e,ok⟩:=k;have:=q.next;exact ⟨q.at k1 o1 (yv ht rfl),k2.zA q (yv ht rfl),q.at k3 o2 (yv ht rfl),k4.zA q (yv ht rfl) (yv ht rfl) (yv ht rfl) (yv ht rfl),
  k5.zA q (yv ht rfl) (yv ht rfl) (yv ht rfl),k6.zA q (yv ht rfl) (yv ht rfl) (yv ht rfl),⟨O_,O_⟩,e,ok⟩
theorem gF.zA {T:xr} {h h':AH} {p:Nat} {n:ZD} {c:Ca} (k:gF h p n c) (q:zb T h h') (ht:dC TCa T=true):gF h' p n c:=by
 obtain ⟨lv,k⟩:=k;exact ⟨lv,k.zA q ht⟩
theorem zba (p:Nat):zi Pg .eql 38 (j4 p) (.ptr none) true=some (.bool false):=K_
section
variable {h:AH} {p:Nat} {n:ZD} {lv:V} {c:Ca}
theorem caIs (k:pT h p n lv c) (i:vd) (hi:i.2<65536):z0q 51 [j4 p,pV i] h (zO (.bool (decide (c.tC i))) h):=by
 refine yN rfl ?_;show z0q 51 _ h (vC _ h);refine C51 _ _ _ _ ?_;refine zq (yl (fJ i)) λh1 u1=>?_;have f1:=u1.at_;have k1:=k.zA (T:=[]) (zb.new u1) rfl;have f0:=k1.cache;have fr:∀ q,q<h.next->h1.m q=h.m q:=λq hq=>u1.other q hq;have o1:=c.zH;have p1:=k.ok.zH;have p2:=k.ok.zU;refine z6 (zba p) ?_;apply yZ;obtain ⟨iu,ino⟩:=i;have hi:ino<65536:=hi;refine sm (GF ..) ?_;refine zx K_ ?_;refine zl f1 K_ (w:=.bool iu) rfl ?_;cases iu with
 | true =>
  apply xz;refine ym K_ ?_;refine zY f1 K_ (w:=.int .u16 ino) rfl ?_;by_cases g:ino<c.zU
  ·rw [show decide (c.tC (true,ino))=true from decide_eq_true (by unfold Ca.tC;rw [if_pos rfl];exact g)];refine pk E_ O_ O_ ?_;apply xy;refine ym K_ ?_;refine zY f0 K_ rfl ?_;refine UG O_ ?_;exact ⟨rfl,fr⟩
  ·rw [show decide (c.tC (true,ino))=false from decide_eq_false (by unfold Ca.tC;rw [if_pos rfl];exact g)];refine pk E_ O_ O_ ?_;apply xy;refine ym K_ ?_;refine zY f0 K_ rfl ?_;refine VH O_ ?_;exact ⟨rfl,fr⟩
 | false =>
  apply yZ;refine sm (Fv ..) ?_;refine ym K_ ?_;refine zY f1 K_ (w:=.int .u16 ino) rfl ?_;by_cases g:ino<c.zH
  ·rw [show decide (c.tC (false,ino))=true from decide_eq_true (by unfold Ca.tC;rw [if_neg S_];exact g)];refine pk E_ O_ O_ ?_;apply xy;refine ym K_ ?_;refine zY f0 K_ rfl ?_;refine UG O_ ?_;exact ⟨rfl,fr⟩
  ·rw [show decide (c.tC (false,ino))=false from decide_eq_false (by unfold Ca.tC;rw [if_neg S_];exact g)];refine pk E_ O_ O_ ?_;apply xy;refine ym K_ ?_;refine zY f0 K_ rfl ?_;refine VH O_ ?_;exact ⟨rfl,fr⟩
def frP (lv:V) (i:Nat):V:=match lv with
 | .y8 (some (⟨n,t,_⟩,s)) _=>.ptr (some ⟨n,t,[s+i]⟩)
 | _=>.ptr none
def ag (lv:V):Option Nat->V
 | none=>.yX [.ptr none,.int .i64 0]
 | some i=>.yX [frP lv i,.int .i64 i]
theorem Ca.ok.lt {c:Ca} (o:c.ok) {k:vd} {i:Nat} (h:xI c.at_ k=some i):i<c.fr.length:=by
 have:=(o.at_ k i).1 h;cases hf:c.fr[i]? with
 | none=>rw [hf] at this;cases this
 | some f=>exact (List.getElem?_eq_some_iff.1 hf).1
theorem pT.row (k:pT h p n lv c) (hc:0<c.fr.length):∃ r,r<h.next/\lv=.y8 (some (⟨r,.row 141,[]⟩,0)) c.fr.length/\h.m r=some (.cells true (.row 141) (.agg (c.fr.map iD))):=by
 rcases k.BY with ⟨rfl,e⟩ | ⟨r,h1,e,h3⟩
 ·have:(c.fr.map iD).length=0:=by rw [e];rfl
  rw [List.length_map] at this;omega
 ·exact ⟨r,h1,by rw [e,List.length_map],h3⟩
theorem jk (k:pT h p n lv c) (i:vd):z0q 52 [j4 p,pV i] h (zO (ag lv (xI c.at_ i)) h):=by
 have ho:tK (λn=>(h.m n).isSome) (ag lv (xI c.at_ i))=true:=by
  cases hk:xI c.at_ i with
  | none=>rfl
  | some j =>
   obtain ⟨r,h1,rfl,h3⟩:=k.row (by have:=k.ok.lt hk;omega);simp only [ag,frP,tK,oh,h3,Option.isSome_some,Bool.and_self]
 refine yN ho ?_;show z0q 52 _ h (vC _ h);refine C52 _ _ _ _ ?_;refine zq (yl (fJ i)) λh1 u1=>?_;have f1:=u1.at_;have k1:=k.zA (T:=[]) (zb.new u1) rfl;have f0:=k1.cache;have fr:∀ q,q<h.next->h1.m q=h.m q:=λq hq=>u1.other q hq;refine z6 (zba p) ?_;apply yZ;refine sm (CG ..) ?_;apply xy;refine ym K_ ?_;refine zY f0 K_ rfl ?_;refine zY f1 K_ (w:=pV i) rfl ?_;refine zg (z2U z1C Dg k1.at_ (fJ i) zIn) ?_;apply z8M;apply zb3;cases hk:xI c.at_ i with
 | none =>
  apply tv;apply xz;exact ⟨rfl,fr⟩
 | some j =>
  have hj:=k.ok.lt hk;obtain ⟨r,h1,rfl,h3⟩:=k1.row O_;apply wq;apply yZ;refine sm (Et ..) ?_;apply yb;refine zx K_ ?_;refine zl f0 K_ rfl ?_;refine z6 (xW _ K_ (by show (0:Int)<=((j:Nat):Int);omega) (by show ((j:Nat):Int)<_;omega)) ?_;refine ⟨?_,fr⟩;show yO.ret (.yX [.ptr (some ⟨r,_,[0+((j:Nat):Int).toNat]⟩),.int .i64 ((j:Nat):Int)])=_;rw [jA];simp only [ag,frP,Nat.zero_add]
end
abbrev TC0:xr:=[(0,138,0),(1,141,0),(2,43,3)]
abbrev TF:xr:=[(1,141,0)]
section
variable {h:AH} {p:Nat} {n:ZD} {lv:V} {c:Ca}
theorem pT.parts {T:xr} {h':AH} {dk':Dk} {pW:Lg} {O7:Ck} (k:pT h p n lv c) (q:zb T h h') (ht:dC TC0 T=true) (d:qf h' n.d dk') (l:gR h' n.l pW) (a:oG h' n.k n.s n.c n.q O7) (e1:dk'.n=c.dk.n) (e2:pW.d=c.lg.d) (e3:O7.n=c.ck.n) :
 pT h' p n lv { c with dk:=dk',lg:=pW,ck:=O7 }:=by
 obtain ⟨k1,k2,k3,k4,k5,k6,⟨o1,o2⟩,e,⟨a1,a2,a3,a4,a5,a6,a7,a8,a9⟩⟩:=k;have:=q.next;exact ⟨q.at k1 o1 (yv ht rfl),k2.zA q (yv ht rfl),q.at k3 o2 (yv ht rfl),d,l,a,⟨O_,O_⟩,e2.trans e,
  a1,a2,⟨e3.trans a3.1,a3.2⟩,a4,a5,a6,a7,a8,by rw [e1];exact a9⟩
theorem pT.clock {T:xr} {h':AH} {O7:Ck} (k:pT h p n lv c) (q:zb T h h') (ht:dC [(0,138,0),(1,141,0),(2,43,3),(0,125,0),(2,198,199),(1,211,0),(2,3,4),(0,179,0),(1,184,0),(1,182,0)] T=true) (a:oG h' n.k n.s n.c n.q O7) (e3:O7.n=c.ck.n) :
 pT h' p n lv { c with ck:=O7 } :=
 k.parts q (by
  refine List.all_eq_true.2 λt NA=>?_;have:=List.all_eq_true.1 ht t (by
   simp only [List.mem_cons,List.not_mem_nil,or_false] at NA ⊢;rcases NA with x | x | x
   ·exact .inl x
   ·exact .inr (.inl x)
   ·exact .inr (.inr (.inl x)))
  exact this) (k.dk.zA q (yv ht rfl) (yv ht rfl) (yv ht rfl) (yv ht rfl)) (k.lg.zA q (yv ht rfl) (yv ht rfl) (yv ht rfl)) a rfl rfl e3
structure Yz (h:AH) (lv:V) (c:Ca) (i:vd) (j r:Nat) (f:Fr):Prop where
 hf:c.fr[j]?=some f
 id:f.id=i
 ok:f.ok
 lt:j<c.fr.length
 jn:j<c.ck.n
 hr:r<h.next
 hl:lv=.y8 (some (⟨r,.row 141,[]⟩,0)) c.fr.length
 m:h.m r=some (.cells true (.row 141) (.agg (c.fr.map iD)))
theorem pT.at (k:pT h p n lv c) {i:vd} {j:Nat} (hk:xI c.at_ i=some j):∃ r f,Yz h lv c i j r f:=by
 have hj:=k.ok.lt hk;obtain ⟨r,h1,h2,h3⟩:=k.row O_;have e:=(k.ok.at_ i j).1 hk;have hf:c.fr[j]?=some c.fr[j]:=List.getElem?_eq_getElem hj;rw [hf] at e;have:=k.ok.wE;have:=k.ok.len;exact ⟨r,c.fr[j],hf,by simpa using e,k.ok.fr _ (List.getElem_mem hj),hj,O_,h1,h2,h3⟩
theorem Yz.zA {T:xr} {h':AH} {i:vd} {j r:Nat} {f:Fr} (a:Yz h lv c i j r f) (q:zb T h h') (ht:T.contains (1,141,0)=false):Yz h' lv c i j r f:=by
 obtain ⟨a1,a2,a3,a4,a5,a6,a7,a8⟩:=a;have:=q.next;exact ⟨a1,a2,a3,a4,a5,O_,a7,q.at a8 a6 ht⟩
theorem Yz.find {i:vd} {j r:Nat} {f:Fr} (a:Yz h lv c i j r f):ag lv (some j)=.yX [.ptr (some ⟨r,.row 141,[j]⟩),.int .i64 j]:=by
 rw [a.hl];simp only [ag,frP,Nat.zero_add]
theorem sG {l:List Fr} {j:Nat} {f:Fr} (hf:l[j]?=some f) (q:List Nat):yF (.agg (l.map iD)) (j :: q)=yF (iD f) q:=by
 simp only [yF,List.getElem?_map,hf,Option.map_some]
theorem jB {l:List Fr} {j:Nat} {f f':Fr} (hf:l[j]?=some f) {q:List Nat} {x:V} (hx:tX (iD f) q x=some (iD f')):tX (.agg (l.map iD)) (j :: q) x=some (.agg ((l.set j f').map iD)):=by
 simp only [tX,List.getElem?_map,hf,Option.map_some,hx,List.map_set]
theorem pT.Jk {h':AH} {i:vd} {j r:Nat} {f f':Fr} (k:pT h p n lv c) (a:Yz h lv c i j r f) (u:lD h h' r (.cells true (.row 141) (.agg ((c.fr.set j f').map iD)))) (e:f'.id=f.id) (ok:f'.ok) :
 pT h' p n lv { c with fr:=c.fr.set j f' }/\Yz h' lv { c with fr:=c.fr.set j f' } i j r f':=by
 have q:zb TF h h':=zb.vP u a.m rfl rfl;have:=q.next;obtain ⟨k1,k2,k3,k4,k5,k6,⟨o1,o2⟩,e',⟨a1,a2,a3,a4,a5,a6,a7,a8,a9⟩⟩:=k;obtain ⟨b1,b2,b3,b4,b5,b6,b7,b8⟩:=a;have hid:∀ x,(c.fr.set j f')[x]?.map Fr.id=c.fr[x]?.map Fr.id:=λx=>by
  rw [List.getElem?_set];by_cases g:j=x
  ·subst g;rw [if_pos rfl,if_pos b4,b1];simp [e]
  ·rw [if_neg g]
 have hm:∀ g∈c.fr.set j f',g∈c.fr\/g=f':=λg hg=>by
  rcases List.mem_or_eq_of_mem_set hg with x | x
  ·exact .inl x
  ·exact .inr x
 refine ⟨⟨q.at k1 o1 rfl,.inr ⟨r,O_,by rw [b7];simp,u.at_⟩,q.at k3 o2 rfl,k4.zA q rfl rfl rfl rfl,k5.zA q rfl rfl rfl,k6.zA q rfl rfl rfl,⟨O_,O_⟩,e',
  a1,a2,a3,by simpa using a4,λg hg=>?_,λg hg=>?_,λx y=>?_,a8,a9⟩,⟨?_,e.trans b2,ok,by simpa using b4,b5,O_,by rw [b7];simp,u.at_⟩⟩
 ·rcases hm g hg with x | rfl
  ·exact a5 g x
  ·exact ok
 ·rcases hm g hg with x | rfl
  ·exact a6 g x
  ·show c.tC g.id;rw [e];exact a6 f (List.mem_of_getElem? b1)
 ·show _↔(c.fr.set j f')[y]?.map Fr.id=some x;rw [hid];exact a7 x y
 ·show (c.fr.set j f')[j]?=some f';rw [List.getElem?_set,if_pos rfl,if_pos b4]
def Ca.frame (c:Ca) (j:Nat):Fr:=(c.fr[j]?).getD Yv
theorem Yz.frame {i:vd} {j r:Nat} {f:Fr} (a:Yz h lv c i j r f):c.frame j=f:=by unfold Ca.frame;rw [a.hf];rfl
def Ca.clean (c:Ca) (i:vd):Bool:=match xI c.at_ i with
 | none=>true
 | some j=>!(c.frame j).xQ
theorem Ea (k:pT h p n lv c) (i:vd):z0q 91 [j4 p,pV i] h (zO (.bool (c.clean i)) h):=by
 refine yN rfl ?_;show z0q 91 _ h (vC _ h);refine C91 _ _ _ _ ?_;refine zq (yl (fJ i)) λh1 u1=>?_;have q1:zb [] h h1:=zb.new u1;have fr:∀ q,q<h.next->h1.m q=h.m q:=λq hq=>u1.other q hq;have k1:=k.zA q1 rfl;have f1:=u1.at_;refine zl f1 K_ (w:=pV i) rfl ?_;refine yf (jk k1 i) ?_;unfold Ca.clean;cases hk:xI c.at_ i with
 | none =>
  apply wj;apply wl;refine z6 (show zi Pg .eql 129 (.ptr none) (.ptr none) true=some (.bool true) from K_) ?_;apply tA;refine sm (CH ..) ?_;apply wc;refine sm (RP ..) ?_;exact ⟨rfl,fr⟩
 | some j =>
  obtain ⟨r,f,a⟩:=k1.at hk;show z0 (z03 (zm (ag lv (some j)) 0) h1) _;simp only [a.frame];rw [a.find];apply wj;apply wl;refine z6 (show zi Pg .eql 129 (.ptr (some _)) (.ptr none) true=some (.bool false) from K_) ?_;apply xc;apply yb;refine zx K_ ?_;refine zl a.m K_ (w:=.bool f.xQ) (by rw [List.singleton_append,sG a.hf];rfl) ?_;refine z6 (show qd .not (.bool f.xQ)=some (.bool (!f.xQ)) from rfl) ?_;refine sm (CH ..) ?_;apply yi;refine sm (RP ..) ?_;exact ⟨rfl,fr⟩
theorem Pp (k:pT h p n lv c) (i:vd) {j:Nat} (hk:xI c.at_ i=some j) (hp:0<c.ck.pins.getD j 0) :
 z0q 18 [j4 p,pV i] h (xj TI h (.int .i64 0) λh'=>pT h' p n lv { c with ck:={ c.ck with pins:=c.ck.pins.set j (c.ck.pins.getD j 0-1) } }):=by
 refine C18 _ _ _ _ ?_;refine zq (yl (fJ i)) λh1 u1=>?_;have q1:zb TI h h1:=zb.new u1;have k1:=k.zA (T:=[]) (zb.new u1) rfl;have f1:=u1.at_;refine zl f1 K_ (w:=pV i) rfl ?_;refine yf (jk k1 i) ?_;rw [hk];obtain ⟨r,f,a⟩:=k1.at hk;rw [a.find];apply wj;apply wl;refine z6 (show zi Pg .eql 129 (.ptr (some _)) (.ptr none) true=some (.bool false) from K_) ?_;apply xc;apply yb;refine zx K_ ?_;refine zl k1.cache K_ (w:=gx n.k) rfl ?_;refine xN (P3 k1.ck a.jn hp) λh2 q2 k2=>?_;apply wq;refine sm (Mn ..) ?_;apply yi;refine sm (HM ..) ?_;apply yZ;refine sm (Eg ..) ?_;exact ⟨rfl,q1.trans q2,k1.clock q2 rfl k2 (by show (c.ck.pins.set _ _).length=_;simp [Ck.n])⟩
theorem M9 (k:pT h p n lv c) (i:vd) {j:Nat} (hk:xI c.at_ i=some j) (hp:0<c.ck.pins.getD j 0) :
 ku Pg 18 [j4 p,pV i] h (xj TI h (.int .i64 0) λh'=>pT h' p n lv { c with ck:={ c.ck with pins:=c.ck.pins.set j (c.ck.pins.getD j 0-1) } }):=by
 refine D18 _ _ _ _ ?_;refine zq (yl (fJ i)) λh1 u1=>?_;have q1:zb TI h h1:=zb.new u1;have k1:=k.zA (T:=[]) (zb.new u1) rfl;have f1:=u1.at_;refine zl f1 K_ (w:=pV i) rfl ?_;refine yf (jk k1 i) ?_;rw [hk];obtain ⟨r,f,a⟩:=k1.at hk;rw [a.find];apply wj;apply wl;refine z6 (show zi Pg .eql 129 (.ptr (some _)) (.ptr none) true=some (.bool false) from K_) ?_;apply xc;apply yb;refine zx K_ ?_;refine zl k1.cache K_ (w:=gx n.k) rfl ?_;refine xN (P3 k1.ck a.jn hp) λh2 q2 k2=>?_;apply wq;refine sm (Mn ..) ?_;apply yi;refine sm (HM ..) ?_;apply yZ;refine sm (Eg ..) ?_;exact ⟨rfl,q1.trans q2,k1.clock q2 rfl k2 (by show (c.ck.pins.set _ _).length=_;simp [Ck.n])⟩
def Ca.vQ (c:Ca) (i:vd) (b:Bool):Ca:=match xI c.at_ i with
 | none=>c
 | some j=>{ c with ck:={ c.ck with vQ:=c.ck.vQ.set j b } }
def Fr.put (f:Fr) (x:List UInt8):Fr:={ f with p:=x,Zw:=false,xQ:=true,first:=if f.xQ then f.first else xB x 7 8 }
theorem z7g (k:pT h p n lv c) (i:vd) {j:Nat} (hk:xI c.at_ i=some j) (hp:0<c.ck.pins.getD j 0) {x:List UInt8} (hx:x.length=224) (hr:∀ h,z0q 60 [pV i,.agg (zd x)] h (zO (.bool true) h)) :
 z0q 92 [j4 p,pV i,.agg (zd x)] h (xj TF h (.int .i64 0) λh'=>pT h' p n lv { c with fr:=c.fr.set j ((c.frame j).put x) }):=by
 refine C92 _ _ _ _ _ ?_;refine zq (yl (fJ i)) λh1 u1=>?_;have q1:zb [] h h1:=zb.new u1;have n1:=u1.next;refine zq (yl (xf hx)) λh2 u2=>?_;have q2:zb [] h1 h2:=zb.new u2;have n2:=u2.next;have f1:=q2.at u1.at_ O_ rfl;have f2:=u2.at_;have k2:=k.zA (q1.trans q2) rfl;refine zl f1 K_ (w:=pV i) rfl ?_;refine yf (jk k2 i) ?_;rw [hk];obtain ⟨r,f,a⟩:=k2.at hk;rw [a.find,a.frame];apply wj;apply wl;refine z6 (show zi Pg .eql 129 (.ptr (some _)) (.ptr none) true=some (.bool false) from K_) ?_;apply xc;apply yb;refine zx K_ ?_;refine zl k2.cache K_ (w:=gx n.k) rfl ?_;refine yf (z1k k2.ck a.jn) ?_;refine yB O_ ?_;refine sm (DH ..) ?_;apply yi;apply xc;refine zl f1 K_ rfl ?_;refine zl f2 K_ rfl ?_;refine yf (hr h2) ?_;apply wq;refine sm (F8 ..) ?_;apply yi;refine sm (Dz ..) ?_;apply yZ;refine sm (FE ..) ?_;apply yb;refine zx K_ ?_;have hl:xB x 7 8<18446744073709551616:=uI x 7 8;have rest:∀ (h3:AH) (f3:Fr),zb TF h h3->pT h3 p n lv { c with fr:=c.fr.set j f3 }->Yz h3 lv { c with fr:=c.fr.set j f3 } i j r f3->f3.id=f.id->f3.xQ=true->f3.first=(f.put x).first->h3.m h1.next=some (.cells true (.one 33) (.agg (zd x)))->h1.next<h3.next ->
  z7P (xj TF h (.int .i64 0) λh'=>pT h' p n lv { c with fr:=c.fr.set j (f.put x) }) (.ptr (some ⟨h1.next,.one 33,[]⟩)) (.ptr (some ⟨r,.row 141,[j]⟩)) h3:=by
  intro h3 f3 q3 k3 a3 e1 e2 e3 g2 g3;rw [Il];refine zl g2 K_ (w:=.agg (zd x)) rfl ?_;apply yb;refine zx K_ ?_;refine zq (zM a3.m K_ (w:=.agg (zd f3.p)) (by rw [List.singleton_append,sG a3.hf];rfl) (xf hx) (by rw [List.singleton_append];exact jB (f':={ f3 with p:=x }) a3.hf rfl)) λh4 u4=>?_;obtain ⟨k4,a4⟩:=k3.Jk a3 u4 rfl ⟨a3.ok.id,hx,a3.ok.first⟩;have q4:zb TF h3 h4:=zb.vP u4 a3.m rfl rfl;apply yb;refine zx K_ ?_;refine zq (zM a4.m K_ (w:=.bool f3.Zw) (by rw [List.singleton_append,sG a4.hf];rfl) K_ (by rw [List.singleton_append];exact jB (f':={ f3 with p:=x,Zw:=false }) a4.hf rfl)) λh5 u5=>?_;obtain ⟨k5,a5⟩:=k4.Jk a4 u5 rfl ⟨a3.ok.id,hx,a3.ok.first⟩;have q5:zb TF h4 h5:=zb.vP u5 a4.m rfl rfl;refine ⟨rfl,q3.trans (q4.trans q5),?_⟩;have e:({ f3 with p:=x,Zw:=false }:Fr)=f.put x:=by
   unfold Fr.put at e3 ⊢;cases f3;simp_all
  simp only [List.set_set,e] at k5;exact k5
 refine zl a.m K_ (w:=.bool f.xQ) (by rw [List.singleton_append,sG a.hf];rfl) ?_;refine z6 (show qd .not (.bool f.xQ)=some (.bool (!f.xQ)) from rfl) ?_;refine wJ (λg=>?_) (λg=>?_)
 ·have g:f.xQ=false:=by simpa using g
  refine zl f2 K_ (w:=.agg (zd x)) rfl ?_;refine yf (II hx h2) ?_;apply yb;refine zx K_ ?_;refine zq (zM a.m K_ (w:=.bool f.xQ) (by rw [List.singleton_append,sG a.hf];rfl) K_ (by rw [List.singleton_append];exact jB (f':={ f with xQ:=true }) a.hf rfl)) λh3 u3=>?_;obtain ⟨k3,a3⟩:=k2.Jk a u3 rfl ⟨a.ok.id,a.ok.p,a.ok.first⟩;have q3:zb TF h2 h3:=zb.vP u3 a.m rfl rfl;apply yb;refine zx K_ ?_;refine zq (zM a3.m K_ (w:=.int .u64 f.first) (by rw [List.singleton_append,sG a3.hf];rfl) K_ (by rw [List.singleton_append];exact jB (f':={ f with xQ:=true,first:=xB x 7 8 }) a3.hf rfl)) λh4 u4=>?_;obtain ⟨k4,a4⟩:=k3.Jk a3 u4 rfl ⟨a.ok.id,a.ok.p,hl⟩;have q4:zb TF h3 h4:=zb.vP u4 a3.m rfl rfl;have e:({ c with fr:=(c.fr.set j { f with xQ:=true }).set j { f with xQ:=true,first:=xB x 7 8 } }:Ca)={ c with fr:=c.fr.set j { f with xQ:=true,first:=xB x 7 8 } }:=by rw [List.set_set]
  have k4:pT h4 p n lv { c with fr:=c.fr.set j { f with xQ:=true,first:=xB x 7 8 } }:=e▸k4;have a4:Yz h4 lv { c with fr:=c.fr.set j { f with xQ:=true,first:=xB x 7 8 } } i j r { f with xQ:=true,first:=xB x 7 8 }:=e▸a4;have qq:zb TF h2 h4:=q3.trans q4;exact z7.of (rest h4 _ (((q1.trans q2).sub rfl).trans qq) k4 a4 rfl rfl (by unfold Fr.put;simp [g]) (qq.at f2 O_ rfl) (by have:=qq.next;omega))
 ·have g:f.xQ=true:=by simpa using g
  have e:c.fr.set j f=c.fr:=by
   have:=a.hf;apply List.ext_getElem?;intro m;rw [List.getElem?_set];split
   ·rename_i e;subst e;rw [if_pos a.lt,this]
   ·rfl
  have e2:({ c with fr:=c.fr.set j f }:Ca)=c:=by rw [e]
  exact z7.of (rest h2 f ((q1.trans q2).sub rfl) (by rw [e2];exact k2) (by rw [e2];exact a) rfl g (by unfold Fr.put;simp [g]) f2 O_)
end
def Ca.place (c:Ca) (i:vd):Int:=if i.1 then ((2+c.zH+i.2:Nat):Int) else ((2+i.2:Nat):Int)
theorem Mq (g:Nat) (hg:g<1000) (i:vd) (hi:i.2<65536) (h:AH):z0q 58 [.int .i64 g,pV i] h (zO (.int .i64 (if i.1 then ((2+g+i.2:Nat):Int) else ((2+i.2:Nat):Int))) h):=by
 refine yN rfl ?_;show z0q 58 _ h (vC _ h);refine C58 _ _ _ _ ?_;refine zq (yl (fJ i)) λh1 u1=>?_;have f1:=u1.at_;have fr:∀ q,q<h.next->h1.m q=h.m q:=λq hq=>u1.other q hq;obtain ⟨iu,ino⟩:=i;have hi:ino<65536:=hi;refine zx K_ ?_;refine zl f1 K_ (w:=.bool iu) rfl ?_;cases iu with
 | true =>
  apply xz;refine zE O_ O_ ?_;refine zx K_ ?_;refine zl f1 K_ (w:=.int .u16 ino) rfl ?_;refine tQ E_ O_ O_ ?_;refine zE O_ O_ ?_;refine ⟨?_,fr⟩;rw [if_pos rfl];congr 2
 | false =>
  apply yZ;refine sm (PW ..) ?_;refine zx K_ ?_;refine zl f1 K_ (w:=.int .u16 ino) rfl ?_;refine tQ E_ O_ O_ ?_;refine zE O_ O_ ?_;refine ⟨?_,fr⟩;rw [if_neg S_];congr 2
def vf (rt:List UInt8->Bool) (bl b:List UInt8):List UInt8 × Bool:=open Classical in if NV b/\rt (Ys b 4)=true then (Ys b 4,false) else (bl,true)
def Ca.hold (c:Ca) (j:Nat):Ca:={ c with ck:={ c.ck with seen:=c.ck.seen.set j true,pins:=c.ck.pins.set j (c.ck.pins.getD j 0+1) } }
def Ca.Jl (c:Ca) (j:Nat):Ca:={ c with ck:={ c.ck with seen:=c.ck.seen.set j false,vQ:=c.ck.vQ.set j false } }
def Ca.more (c:Ca) (d:Dk) (i:vd) (x:List UInt8 × Bool):Ca:=(({ c with dk:=d,fr:=c.fr++[⟨i,x.1,false,0,x.2⟩],at_:=qS c.at_ i c.fr.length }:Ca).Jl c.fr.length).hold c.fr.length
def ZY (x:List UInt8 × Int):V:=.yX [.agg (zd x.1),.int .i64 x.2]
structure Vy (h:AH) (p:Nat) (n:ZD) (lv:V) (c:Ca):Prop where
 cache:h.m p=some (.cells true (.one 138) (caV c n lv))
 BY:nD 141 h lv (c.fr.map iD)
 at_:h.m n.m=some (.mp 43 3 (XW pV iV c.at_))
 dk:qf h n.d c.dk
 lg:gR h n.l c.lg
 ck:oG h n.k n.s n.c n.q c.ck
 o:p<h.next/\n.m<h.next
 lgd:c.lg.d=n.d
theorem Pv:zD Pg 33 []=some (.agg (zd (xM 224))):=K_
theorem bFr0:zD Pg 141 []=some (iD Yv):=K_
theorem zap (i:vd) {x:List UInt8} (hx:x.length=224) (t:Bool):zD Pg 141 [(0,pV i),(1,.agg (zd x)),(4,.bool t)]=some (iD ⟨i,x,false,0,t⟩):=by
 have h1:=fJ i;have h2:=xf hx;refine uR [43,33,4,47,4] MF K_ ?_;have h3:zf Pg (.bool t) 4=true:=K_;simp [xK,h1,h2,h3,Yv]
section
variable {h:AH} {p:Nat} {n:ZD} {lv:V} {c:Ca}
theorem pT.toM (k:pT h p n lv c):Vy h p n lv c:=⟨k.cache,k.BY,k.at_,k.dk,k.lg,k.ck,k.o,k.lgd⟩
theorem Vy.jg (k:Vy h p n lv c) (o:c.ok):pT h p n lv c:=⟨k.cache,k.BY,k.at_,k.dk,k.lg,k.ck,k.o,k.lgd,o⟩
theorem Vy.zA {T:xr} {h':AH} (k:Vy h p n lv c) (q:zb T h h') (ht:dC TCa T=true):Vy h' p n lv c:=by
 obtain ⟨k1,k2,k3,k4,k5,k6,⟨o1,o2⟩,e⟩:=k;have:=q.next;exact ⟨q.at k1 o1 (yv ht rfl),k2.zA q (yv ht rfl),q.at k3 o2 (yv ht rfl),k4.zA q (yv ht rfl) (yv ht rfl) (yv ht rfl) (yv ht rfl),
  k5.zA q (yv ht rfl) (yv ht rfl) (yv ht rfl),k6.zA q (yv ht rfl) (yv ht rfl) (yv ht rfl),⟨O_,O_⟩,e⟩
theorem Vy.clock {T:xr} {h':AH} {O7:Ck} (k:Vy h p n lv c) (q:zb T h h') (ht:dC [(0,138,0),(1,141,0),(2,43,3),(0,125,0),(2,198,199),(1,211,0),(2,3,4),(0,179,0),(1,184,0),(1,182,0)] T=true) (a:oG h' n.k n.s n.c n.q O7) :
 Vy h' p n lv { c with ck:=O7 }:=by
 obtain ⟨k1,k2,k3,k4,k5,k6,⟨o1,o2⟩,e⟩:=k;have:=q.next;exact ⟨q.at k1 o1 (yv ht rfl),k2.zA q (yv ht rfl),q.at k3 o2 (yv ht rfl),k4.zA q (yv ht rfl) (yv ht rfl) (yv ht rfl) (yv ht rfl),
  k5.zA q (yv ht rfl) (yv ht rfl) (yv ht rfl),a,⟨O_,O_⟩,e⟩
theorem lC (c:Ca) (j:Nat):(c.hold j).ck.n=c.ck.n:=by unfold Ca.hold Ck.n;simp
theorem V1 (c:Ca) (j:Nat):(c.Jl j).ck.n=c.ck.n:=rfl
theorem Ca.ok.same {c c':Ca} (o:c.ok) (h1:c'.zH=c.zH) (h2:c'.zU=c.zU) (h3:c'.wE=c.wE) (h4:c'.fr=c.fr) (h5:c'.at_=c.at_) (h6:c'.ck.n=c.ck.n) (h7:c'.dk.n=c.dk.n):c'.ok:=by
 obtain ⟨a1,a2,a3,a4,a5,a6,a7,a8,a9⟩:=o;refine ⟨by rw [h1];exact a1,by rw [h2];exact a2,by rw [h3,h6];exact a3,by rw [h3,h4];exact a4,by rw [h4];exact a5,λf hf=>?_,by rw [h4,h5];exact a7,by rw [h5];exact a8,by rw [h1,h2,h7];exact a9⟩;rw [h4] at hf;have:=a6 f hf;unfold Ca.tC at this ⊢;rw [h1,h2];exact this
theorem KW (d:Dk) (hd:pY d.seen) (b:Int):(d.read b).1.length=256:=by
 unfold Dk.read;split
 ·exact zI 256
 ·split
  ·exact zI 256
  ·split
   ·exact zI 256
   ·exact nj hd _
theorem lZ {rt:List UInt8->Bool} {bl b:List UInt8} (hb:b.length=256) (T3:bl.length=224):(vf rt bl b).1.length=224:=by
 unfold vf;split
 ·exact dZ hb (Nat.le_refl 4)
 ·exact T3
theorem Ca.O8 {c:Ca} (o:c.ok) {d:Dk} {i:vd} {x:List UInt8 × Bool} (hd:d.n=c.dk.n) (hi:c.tC i) (jI:i.2<65536) (hk:xI c.at_ i=none) (hl:c.fr.length<c.wE) (hx:x.1.length=224):(c.more d i x).ok:=by
 obtain ⟨a1,a2,a3,a4,a5,a6,a7,a8,a9⟩:=o;refine ⟨a1,a2,⟨?_,a3.2⟩,?_,?_,?_,?_,YE a8 _ _,?_⟩
 ·show (Ca.hold _ _).ck.n=_;rw [lC,V1];exact a3.1
 ·show (c.fr++[_]).length<=c.wE;rw [List.length_append];exact hl
 ·intro f hf;rcases List.mem_append.1 hf with y | y
  ·exact a5 f y
  ·rw [List.mem_singleton] at y;subst y;exact ⟨jI,hx,by show 0<_;omega⟩
 ·intro f hf;rcases List.mem_append.1 hf with y | y
  ·exact a6 f y
  ·rw [List.mem_singleton] at y;subst y;exact hi
 ·intro k y;show xI (qS c.at_ i c.fr.length) k=some y↔(c.fr++[(⟨i,x.1,false,0,x.2⟩:Fr)])[y]?.map Fr.id=some k;rw [ri];rcases Nat.lt_trichotomy y c.fr.length with g | g | g
  ·rw [List.getElem?_append_left g,<- a7];by_cases e:i=k
   ·subst e;rw [if_pos rfl,hk];simp;omega
   ·rw [if_neg e]
  ·subst g;rw [List.getElem?_append_right (Nat.le_refl _),Nat.sub_self];by_cases e:i=k
   ·subst e;rw [if_pos rfl];simp
   ·rw [if_neg e];have:¬ xI c.at_ k=some c.fr.length:=λq=>by
     have:=(a7 _ _).1 q;rw [List.getElem?_eq_none (Nat.le_refl _)] at this;cases this
    simp [this,e]
  ·have:(c.fr++[(⟨i,x.1,false,0,x.2⟩:Fr)])[y]?=none:=List.getElem?_eq_none (by simp;omega);rw [this];by_cases e:i=k
   ·rw [if_pos e];simp;omega
   ·rw [if_neg e];have:¬ xI c.at_ k=some y:=λq=>by
     have:=(a7 _ _).1 q;rw [List.getElem?_eq_none O_] at this;cases this
    simp [this]
 ·show 2+c.zH+c.zU<=d.n;rw [hd];exact a9
theorem gS {Q:yO->AH->Prop} {n3:Nat} {w:V} {x:List UInt8} {e:Int} (f3:h.m n3=some (.cells true (.one 33) w)) (hx:x.length=224) (k:∀ h',lD h h' n3 (.cells true (.one 33) (.agg (zd x)))->Q (.ret (.yX [.agg (zd x),.int .i64 e])) h') :
 z0 (zh Pg h 33 (VC n3) (.agg (zd x))) λ_ h1=>yq (zX Pg [(4,VC n3),(5,.int .i64 e)] h1 NQ) λv=>Q (.ret v) h1:=by
 refine zq (zM (p:=[]) f3 K_ rfl (xf hx) rfl) λh1 u1=>?_;have e1:=zR (P:=Pg) (t:=33) (p:=[]) u1.at_ K_ (w:=.agg (zd x)) rfl;simp only [z9] at e1;have e2:=(zK e1).1;refine yr (show zX Pg _ _ NQ=some [.agg (zd x),.int .i64 e] by simp [NQ,zX,zJ.get,e2]) ?_;exact k h1 u1
abbrev TFe:xr:=[(0,138,0),(1,141,0),(2,43,3),(0,125,0),(1,4,0),(1,3,0)]
variable {rt:List UInt8->Bool} {bl:List UInt8} {i:vd}
theorem Qs {n1 n3 n5:Nat} {h0:AH} {T:xr} (hT:(TFe.all λt=>T.contains t)=true) {x:List UInt8} {t:Bool} {c:Ca} {w:V} (k:Vy h p n lv c) (q:zb T h0 h) (o:n1<h.next/\h0.next<=n3/\n3<h.next/\n5<h.next/\n3≠n5) {j:Nat} (hj:j<c.fr.length) (NZ:j<c.ck.n) (hx:x.length=224) (hp:c.ck.pins.getD j 0<1000000)
 (f1:h.m n1=some (.cells true (.one 43) (pV i))) (f3:h.m n3=some (.cells true (.one 33) w)) (f5:h.m n5=some (.cells true (.one 33) (.agg (zd x)))) {v:V} {c':Ca} (hv:v=ZY (x,0)) (hc:c'=(({ c with fr:=c.fr.set j ⟨i,x,false,0,t⟩,at_:=qS c.at_ i j }:Ca).Jl j).hold j) (ok:c'.ok) :
 z7t (xj T h0 v λh'=>gF h' p n c') (j4 p) (.ptr (some ⟨n1,.one 43,[]⟩)) (VC n3) (.int .i64 (j:Int)) (VC n5) (.bool t) h:=by
 subst hv;rw [DP];have f0:=k.cache;rcases k.BY with ⟨e1,e2⟩ | ⟨r,r1,r2,r3⟩
 ·have:(c.fr.map iD).length=0:=by rw [e2];rfl
  rw [List.length_map] at this;omega
 have hlen:(c.fr.map iD).length=c.fr.length:=List.length_map ..;apply xy;refine ym K_ ?_;refine zY f0 K_ (w:=lv) rfl ?_;refine zY f1 K_ (w:=pV i) rfl ?_;refine zY f5 K_ (w:=.agg (zd x)) rfl ?_;refine zg (zap i hx t) ?_;rw [r2];refine zg (xW _ K_ O_ O_) ?_;obtain ⟨f,hf⟩:∃ f,c.fr[j]?=some f:=⟨_,List.getElem?_eq_getElem hj⟩
 have ej:0+((j:Nat):Int).toNat=j:=jA j;rw [ej];refine zq (zM r3 K_ (w:=iD f) (by rw [sG hf];rfl) (z6r (f:=⟨i,x,false,0,t⟩) hx) (jB (f':=⟨i,x,false,0,t⟩) hf rfl)) λh4 u4=>?_;have q4:zb TF h h4:=zb.vP u4 r3 rfl rfl;have n4:=q4.next;apply xy;refine ym K_ ?_;refine zY (q4.at f0 k.o.1 rfl) K_ (w:=.map (some n.m)) rfl ?_;refine zY (q4.at f1 o.1 rfl) K_ (w:=pV i) rfl ?_;refine zq (kSet z1C Dg (q4.at k.at_ k.o.2 rfl) (fJ i) (s:=j) (shI j)) λh5 u5=>?_;have q5:zb [(2,43,3)] h4 h5:=zb.vP u5 (q4.at k.at_ k.o.2 rfl) rfl rfl;have n5':=q5.next;have qq:zb [(1,141,0),(2,43,3)] h h5:=(q4.sub rfl).trans (q5.sub rfl);have k5:Vy h5 p n lv { c with fr:=c.fr.set j ⟨i,x,false,0,t⟩,at_:=qS c.at_ i j }:=by
  refine ⟨qq.at f0 k.o.1 rfl,.inr ⟨r,O_,?_,q5.at u4.at_ O_ rfl⟩,u5.at_,k.dk.zA qq rfl rfl rfl rfl,k.lg.zA qq rfl rfl rfl,k.ck.zA qq rfl rfl rfl,⟨by have:=k.o.1;omega,by have:=k.o.2;omega⟩,k.lgd⟩;rw [r2];simp
 apply yb;refine zx K_ ?_;refine zl k5.cache K_ (w:=gx n.k) rfl ?_;refine xN (CJ k5.ck NZ) λh6 q6 k6=>?_;have n6:=q6.next;have m6:=k5.clock q6 rfl k6;apply yb;refine zx K_ ?_;refine zl m6.cache K_ (w:=gx n.k) rfl ?_;refine xN (Q3 m6.ck (by exact NZ)) λh7 q7 k7=>?_;have n7:=q7.next;have m7:=m6.clock q7 rfl k7;apply yb;refine zx K_ ?_;refine zl m7.cache K_ (w:=gx n.k) rfl ?_;refine xN (z0b m7.ck (by exact NZ) hp) λh8 q8 k8=>?_;have n8:=q8.next;have m8:=m7.clock q8 rfl k8;have Vg:zb [(1,4,0),(1,3,0)] h5 h8:=(q6.sub rfl).trans ((q7.sub rfl).trans (q8.sub rfl));have Jm:zb TFe h h8:=(qq.sub rfl).trans (Vg.sub rfl);refine zl (Vg.at (qq.at f5 o.2.2.2.1 rfl) O_ rfl) K_ (w:=.agg (zd x)) rfl ?_;refine gS (Vg.at (qq.at f3 o.2.2.1 rfl) O_ rfl) hx λh9 u9=>?_;have q9:zb [(0,33,0)] h8 h9:=zb.vP u9 (Vg.at (qq.at f3 o.2.2.1 rfl) O_ rfl) rfl rfl;subst hc;exact ⟨rfl,(q.trans (Jm.sub hT)).ya u9 o.2.1,lv,Vy.jg (m8.zA q9 rfl) ok⟩
theorem LX {b:List UInt8} (g:NV b):K6 b=.yX [.int .u64 (Xi b 0),.agg (zd (Ys b 4)),.bool true]:=by unfold K6;rw [if_pos g]
theorem Hw {b:List UInt8} (g:¬ NV b):K6 b=.yX [.int .u64 0,.agg (zd (xM 224)),.bool false]:=by unfold K6;rw [if_neg g]
theorem QJ {n1 n3 n4:Nat} {h0:AH} {T:xr} (hT:(TFe.all λt=>T.contains t)=true) {b:List UInt8} {c:Ca} {w:V} (k:Vy h p n lv c) (q:zb T h0 h) (o:n1<h.next/\h0.next<=n3/\n3<h.next) {j:Nat} (hj:j<c.fr.length) (NZ:j<c.ck.n) (hb:b.length=256) (hp:c.ck.pins.getD j 0<1000000)
 (hR:∀ p h,p.length=224->z0q 60 [pV i,.agg (zd p)] h (zO (.bool (rt p)) h)) (hB:∀ h,z0q 44 [pV i] h (zO (.agg (zd bl)) h)) (T3:bl.length=224)
 (f1:h.m n1=some (.cells true (.one 43) (pV i))) (f3:h.m n3=some (.cells true (.one 33) w)) (f4:h.m n4=some (.cells true (.one 111) (.agg (zd b)))) {v:V} {c':Ca} (hv:v=ZY ((vf rt bl b).1,0)) (hc:c'=(({ c with fr:=c.fr.set j ⟨i,(vf rt bl b).1,false,0,(vf rt bl b).2⟩,at_:=qS c.at_ i j }:Ca).Jl j).hold j) (ok:c'.ok) :
 z7Q (xj T h0 v λh'=>gF h' p n c') (j4 p) (.ptr (some ⟨n1,.one 43,[]⟩)) (VC n3) (.int .i64 (j:Int)) (.ptr (some ⟨n4,.one 111,[]⟩)) h:=by
 rw [z4n];refine zl f4 K_ (w:=.agg (zd b)) rfl ?_;refine yf (z62 hb h) ?_
 -- a frame BR is Zw
 have Zw:∀ (h':AH) (n5:Nat) (w':V),Vy h' p n lv c->zb T h0 h'->n1<h'.next->n3<h'.next->n5<h'.next->n3≠n5->h'.m n1=some (.cells true (.one 43) (pV i))->h'.m n3=some (.cells true (.one 33) w)->h'.m n5=some (.cells true (.one 33) w')->h0.next<=n5->vf rt bl b=(bl,true) ->
  z7Z (xj T h0 v λh'=>gF h' p n c') (j4 p) (.ptr (some ⟨n1,.one 43,[]⟩)) (VC n3) (.int .i64 (j:Int)) (VC n5) (.bool true) h':=by
  intro h' n5 w' k' q' o1 o3 o5 ne g1 g3 g5 hy e;rw [Gp];apply xz;refine zl g1 K_ (w:=pV i) rfl ?_;refine yf (hB h') ?_;refine zq (zM (p:=[]) g5 K_ rfl (xf T3) rfl) λh6 u6=>?_;have q6:zb [(0,33,0)] h' h6:=zb.vP u6 g5 rfl rfl;have n6:=q6.next;exact z7.of (Qs (w:=w) hT (k'.zA q6 rfl) (q'.ya u6 hy) ⟨O_,o.2.1,O_,O_,ne⟩ hj NZ T3 hp (q6.at g1 o1 rfl) ((u6.other _ ne).trans g3) u6.at_ (by rw [hv,e]) (by rw [hc,e]) ok)
 by_cases g:NV b
 ·rw [LX g];have X7:(Ys b 4).length=224:=dZ hb (Nat.le_refl 4);refine z6 (show zm (.yX [_,_,_]) 0=some _ from rfl) ?_;refine z6 (show zm (.yX [_,_,_]) 1=some _ from rfl) ?_;refine z6 (show zm (.yX [_,_,_]) 2=some _ from rfl) ?_;refine zq (yA na (xf (zI 224))) λh5 u5=>?_;have n5:=u5.next;refine zq (zM (p:=[]) u5.at_ K_ rfl (xf X7) rfl) λh6 u6=>?_;have q5:zb [] h h5:=zb.new u5;have q6:zb [] h h6:=q5.ya u6 (Nat.le_refl _);have n6:=u6.next;have g1:=q6.at f1 o.1 rfl;have k6:=k.zA q6 rfl;apply wq;apply xc;refine zl g1 K_ (w:=pV i) rfl ?_;refine zl u6.at_ K_ (w:=.agg (zd (Ys b 4))) rfl ?_;refine yf (hR _ h6 X7) ?_;have:=q.next;have g3:=q6.at f3 o.2.2 rfl;have qq:=q.trans (q6.sub (T':=T) rfl);cases hr:rt (Ys b 4) with
  | true =>
   have e:vf rt bl b=(Ys b 4,false):=by unfold vf;rw [if_pos ⟨g,hr⟩]
   apply wq;refine sm (SL ..) ?_;apply yi;refine sm (Gp ..) ?_;apply yZ;exact z7.of (Qs (w:=w) hT k6 qq ⟨O_,o.2.1,O_,O_,O_⟩ hj NZ X7 hp g1 g3 u6.at_ (by rw [hv,e]) (by rw [hc,e]) ok)
  | false =>
   have e:vf rt bl b=(bl,true):=by unfold vf;rw [if_neg (λx=>by rw [hr] at x;cases x.2)]
   apply tv;refine sm (SL ..) ?_;apply yi;exact z7.of (Zw h6 h.next _ k6 qq O_ O_ O_ O_ g1 g3 u6.at_ O_ e)
 ·rw [Hw g];refine z6 (show zm (.yX [_,_,_]) 0=some _ from rfl) ?_;refine z6 (show zm (.yX [_,_,_]) 1=some _ from rfl) ?_;refine z6 (show zm (.yX [_,_,_]) 2=some _ from rfl) ?_;refine zq (yA na (xf (zI 224))) λh5 u5=>?_;have n5:=u5.next;refine zq (zM (p:=[]) u5.at_ K_ rfl (xf (zI 224)) rfl) λh6 u6=>?_;have q5:zb [] h h5:=zb.new u5;have q6:zb [] h h6:=q5.ya u6 (Nat.le_refl _);have n6:=u6.next;have g1:=q6.at f1 o.1 rfl;have k6:=k.zA q6 rfl;have:=q.next;have g3:=q6.at f3 o.2.2 rfl;have qq:=q.trans (q6.sub (T':=T) rfl);have e:vf rt bl b=(bl,true):=by unfold vf;rw [if_neg (λx=>g x.1)]
  apply tv;apply tA;refine sm (SL ..) ?_;apply wc;exact z7.of (Zw h6 h.next _ k6 qq O_ O_ O_ O_ g1 g3 u6.at_ O_ e)
theorem Ca.O9 {c:Ca} (o:c.ok) (j:Nat):(c.hold j).ok:=o.same rfl rfl rfl rfl rfl (lC c j) rfl
theorem XC {c:Ck} (hp:∀ x∈c.pins,x<1000000) {j:Nat} (hj:j<c.n):c.pins.getD j 0<1000000:=hp _ (lO hj)
end
section
set_option maxRecDepth 100000
noncomputable section
variable (Q:yO->AH->Prop) (ds:List AD) (n n1 n2:Nat) (x0 x1 x10 x11 x12:V) (a0 a1:V) (h:AH)
def B79:=bd Tryz.f79
def R79:List ResultVar:=[.tmp 4]
abbrev N79:=53
def K79:KT:=(sQ lF (jN (sQ lF (.one (.loop (sQ lF (jN (.two lF lF) (jN (.one (sQ lF (sQ lF (sQ (.NG [19] [] 0 19) (sQ lF (.two (sQ lF lF [4]) lF) [0,1,9,10,11,12,42]) [0,1,9,10,11,12]) [0,1,6,7,10,11,12]) [0,1,6,10,11,12])) lF [0,1,10,11,12]) [0,1,10,11,12]) [0,1,10,11,12,13]) [0,1,10,11,12])) [0,1,10,11,12]) (jN (sQ lF (.two (sQ lF lF [4]) lF) [0,47]) (sQ lF lF [4]) [0]) [0,1]) [0,1])
def W79 (p l:List Nat) (e:zJ):Prop:=xG Pg N79 B79 K79 p l (zn Pg R79 Q) e h
def z2z:Prop:=W79 Q h [1,0,1,0,0,1,1,1] [n] [(0,x0),(1,x1),(10,x10),(11,x11),(12,x12)]
def z1o:Prop:=W79 Q h [1,0,1,0,0,1,1] [n] [(0,x0),(1,x1),(10,x10),(11,x11),(12,x12)]
def Cd:Prop:=W79 Q h [1,1,1] [] [(0,x0)]
def z3c:Prop:=W79 Q h [1,1] [] [(0,x0),(1,x1)]
def z4q:Prop:=xX Pg N79 B79 K79 [1,0,1,0] [] n (zn Pg R79 Q) [(0,x0),(1,x1),(10,x10),(11,x11),(12,x12)] h
theorem DK:z2z Q n x0 x1 x10 x11 x12 h=(
 z0 (z03 (z0s .add 3 x12 (V.int .i64 1) true) h) λb c =>
 z7 (z4q Q n x0 x1 x10 x11 b c)):=K_
theorem EP:z1o Q n x0 x1 x10 x11 x12 h=(
 z0 (z03 (z0w 177 x10 x12) h) λb c =>
 z0 (z0o c 182 b) λd e =>
 z0 (z0D e 182) λf g =>
 z0 (z0t g 182 f d) λ_ i =>
 z0 (z0o i 182 f) λj k =>
 z0q 121 [j] k (zS (λl m =>
 z0 (z03 (zm l 0) m) λo p =>
 z0 (z03 (zm l 1) p) λq r =>
 z0 (z0D r 111) λs t =>
 z0 (z0t t 111 s o) λ_ u =>
 zc (zj (y7 x0 u)) λw =>
 zc (zj (z03 (z0e 179 w 0) u)) λy =>
 zc (zj (z0o u 23 y)) λz =>
 (
 zc (zj (y7 x0 u)) λA =>
 zc (zj (z03 (z0e 179 A 1) u)) λB =>
 zc (zj (z0o u 3 B)) λC =>
 (
 zc (zj (z03 (z0e 182 f 1) u)) λD =>
 zc (zj (z0o u 56 D)) λE =>
 (
 zc (zj (y7 x0 u)) λF =>
 zc (zj (z03 (z0e 179 F 2) u)) λG =>
 zc (zj (z0o u 3 G)) λH =>
 (
 zc (zj (z03 (z0F u 3 56 H) u)) λI =>
 (
 zc (zj (z03 (z0s .rem 56 E I false) u)) λJ =>
 zc (zj (z03 (z0F u 56 3 J) u)) λK =>
 (
 zc (zj (z03 (z0s .add 3 C K false) u)) λL =>
 zc (zj (z0o u 111 s)) λM =>
 (
 z0q 42 [z,L,M] u (zS (λO P=>(
 z0 (z03 (z0s .neq 36 O (V.int .i64 0) true) P) λR S =>
 zP R (
 Q (.ret O) S) (
 z7 (z2z Q n x0 x1 x10 x11 x12 S)))) λ_ _=>False))))))))) λv h=>Q (.panic v) h)):=K_
theorem Fl:Cd Q x0 h=(
 z0 (y7 x0 h) λb c =>
 z0 (z03 (z0e 179 b 0) c) λd e =>
 z0 (z0o e 23 d) λf g =>
 z0q 45 [f] g (zS (λi j =>
 Q (.ret i) j) λv h=>Q (.panic v) h)):=K_
theorem RI:z3c Q x0 x1 h=(
 z0 (z0u h .len [177] [x1]) λb c =>
 z0 (z03 (z0s .eql 3 b (V.int .i64 0) true) c) λd e =>
 zP d (
 Q (.ret (V.int .i64 0)) e) (
 z7 (Cd Q x0 e))):=K_
theorem z0W:z4q Q (n+1) x0 x1 x10 x11 x12 h=(
 z0 (z03 (z0s .lss 3 x12 x11 false) h) λb c =>
 zP b (
 z7 (z1o Q n x0 x1 x10 x11 x12 c)) (
 z7 (z3c Q x0 x1 c))):=K_
theorem C79 (c :
 z0 (z0u h .len [177] [a1]) λb c =>
 ∃ n,z7 (z4q Q n a0 a1 a1 b (V.int .i64 0) c)):z0q 79 [a0,a1] h Q :=
 mkC Tryz.func79 B79 N79 K79 R79 c
end
end
def kD (c:Ch):List UInt8:=(xd c.off 8++xd c.bs.length 2++c.bs)++xM (214-c.bs.length)
def sj (c:Ch):List UInt8:=wN (c.ep*4294967296+c.num) (kD c)
structure Ch.ok (c:Ch):Prop where
 ep:c.ep<4294967296
 num:c.num<4294967296
 off:c.off<18446744073709551616
 bs:1<=c.bs.length/\c.bs.length<=214
theorem lk {c:Ch} (h:c.bs.length<=214):(kD c).length=224:=by
 unfold kD;simp only [List.length_append,xL,zI];omega
theorem K9 (s:List UInt8) (n:Nat) (h:s.length<=n):wS (xM n) 0 n s=s++xM (n-s.length):=by
 unfold wS;rw [Nat.min_eq_left h,List.take_zero,List.nil_append,List.take_length,Nat.zero_add];congr 1;unfold xM;rw [List.drop_replicate]
theorem z7r {c:Ch} (o:c.ok) (h:AH):z0q 121 [j6 c] h (zO (.yX [.agg (zd (sj c)),.int .i64 0]) h):=by
 obtain ⟨o1,o2,o3,o4,o5⟩:=o;refine yN (by show (tK _ (.agg (zd (sj c)))&&_)=true;rw [rE];rfl) ?_;show z0q 121 _ h (vC _ h);refine C121 _ _ _ ?_;refine zq (yl (VP c)) λh1 u1=>?_;have n1:=u1.next;have q1:zb [] h h1:=zb.new u1;refine zq (yA (show xk Pg 111=some (.agg (zd (xM 256))) by kernel_rfl) (tY (zI 256))) λh2 u2=>?_;have n2:=u2.next;have q2:zb [] h1 h2:=zb.new u2;have f1:=q2.at u1.at_ O_ rfl;have f2:=u2.at_;have g0:yF (j6 c) ([]++[0])=some (.int .u32 c.ep):=rfl;have g1:yF (j6 c) ([]++[1])=some (.int .u32 c.num):=rfl;have g2:yF (j6 c) ([]++[2])=some (.int .u64 c.off):=rfl;have g3:yF (j6 c) ([]++[3])=some (.str c.bs):=rfl;refine zx K_ ?_;refine zl f1 K_ g3 ?_;refine xq K_ ?_;refine yD O_ ?_;apply xc;refine zx K_ ?_;refine zl f1 K_ g3 ?_;refine xq K_ ?_;refine xA O_ ?_;refine sm (z3v ..) ?_;apply yi;refine sm (Hs ..) ?_;apply yZ;refine sm (W9 ..) ?_;refine zq (yA na (xf (zI 224))) λh3 u3=>?_;have n3:=u3.next;have q3:zb [] h2 h3:=zb.new u3;have f13:=q3.at f1 O_ rfl;have f23:=q3.at f2 O_ rfl;refine zg (eX (n:=224) u3.at_ K_ (a:=0) (b:=224) rfl rfl O_ O_) ?_;refine ym K_ ?_;refine zY f13 K_ g2 ?_;refine ⟨_,AV c.off h3,?_⟩;refine ym K_ ?_;refine zY f13 K_ g3 ?_;refine jP K_ ?_;refine oU E_ O_ O_ ?_;refine ⟨_,Ye c.bs.length h3,?_⟩;have el:(xd c.off 8++xd c.bs.length 2++c.bs).length=10+c.bs.length:=by simp only [List.length_append,xL]
 refine zg (qg (by simp only [List.length_append,xL];omega)) ?_;refine ym K_ ?_;refine zY f13 K_ g3 ?_;refine zg (qg (by simp only [List.length_append,xL];omega)) ?_;refine zq (nL (ws:=xd c.off 8++xd c.bs.length 2++c.bs) u3.at_ K_ (by rw [zI];omega)) λh4 u4=>?_;have n4:=u4.next;have mE:zb [] h h4:=((q1.trans q2).trans q3).ya u4 O_;have f14:=(u4.other h.next O_).trans f13;have f24:=(u4.other h1.next O_).trans f23;have f34:=u4.at_;rw [show wS (xM 224) 0 (224-0) (xd c.off 8++xd c.bs.length 2++c.bs)=kD c by
  rw [K9 _ _ (by rw [el];omega),el];unfold kD;rw [show 224-(10+c.bs.length)=214-c.bs.length by omega]] at f34
 have hsh:zi Pg .shl 47 (.int .u64 (c.ep:Int)) (.int .u64 32) true=some (.int .u64 ((c.ep*4294967296:Nat):Int)):=by
  rw [Kq O_];rw [show (32:Int)=((32:Nat):Int) from rfl,Me c.ep 32 O_ O_]
 have hor:zi Pg .or 47 (.int .u64 ((c.ep*4294967296:Nat):Int)) (.int .u64 (c.num:Int)) false=some (.int .u64 ((c.ep*4294967296+c.num:Nat):Int)):=by
  rw [z2n];have:=WS 32 c.ep c.num O_ O_;rw [show 2 ^ 32=4294967296 from rfl] at this;rw [this]
 refine zx K_ ?_;refine zl f14 K_ g0 ?_;refine nh E_ O_ O_ ?_;refine z6 hsh ?_;refine zx K_ ?_;refine zl f14 K_ g1 ?_;refine nh E_ O_ O_ ?_;refine z6 hor ?_;refine zl f34 K_ rfl ?_;refine yf (Kx (lk o5) O_ h4) ?_;have hlen:(wN (c.ep*4294967296+c.num) (kD c)).length=256:=by
  unfold wN;rw [pf (lk o5) O_]
 refine zq (zM (p:=[]) f24 K_ rfl (tY hlen) rfl) λh5 u5=>?_;have e1:=zR (P:=Pg) (t:=111) (p:=[]) u5.at_ K_ (w:=.agg (zd (sj c))) rfl;simp only [z9] at e1;have e2:=(zK e1).1;refine yr (show zX Pg _ _ SR=some [.agg (zd (sj c)),.int .i64 0] by simp [SR,zX,zJ.get,e2]) ?_;exact ⟨rfl,(mE.ya u5 O_).all⟩
section
variable {h:AH} {p:Nat} {l:Lg}
theorem Nq (k:gR h p l):z0q 36 [fM p] h (zO (.int .u64 l.Ti) h):=by
 obtain ⟨sv,pv,k⟩:=k;have f0:=k.log;refine C36 _ _ _ ?_;refine z6 (show zi Pg .eql 83 (.ptr (some _)) (.ptr none) true=some (.bool false) from K_) ?_;apply yZ;refine sm (Eu ..) ?_;apply yb;refine zx K_ ?_;refine zl f0 K_ (w:=.int .u64 l.Ti) rfl ?_;exact ⟨rfl,rfl⟩
end
def Sx (e:TypeId) (h:AH) (x:V) (xs:List V):Prop :=
 (x=.y8 none 0/\xs=[])\/∃ n pre post,n<h.next/\x=.y8 (some (⟨n,.row e,[]⟩,pre.length)) xs.length/\h.m n=some (.cells true (.row e) (.agg (pre++(xs++post))))
theorem nD.toW {e:TypeId} {h:AH} {x:V} {xs:List V} (b:nD e h x xs):Sx e h x xs:=by
 rcases b with b | ⟨n,h1,rfl,h3⟩
 ·exact .inl b
 ·exact .inr ⟨n,[],[],h1,rfl,by rw [List.append_nil];exact h3⟩
theorem Sx.zA {T:xr} {e:TypeId} {h h':AH} {x:V} {xs:List V} (b:Sx e h x xs) (q:zb T h h') (ht:T.contains (1,e,0)=false):Sx e h' x xs:=by
 rcases b with b | ⟨n,pre,post,h1,rfl,h3⟩
 ·exact .inl b
 ·exact .inr ⟨n,pre,post,by have:=q.next;omega,rfl,q.at h3 h1 ht⟩
theorem Sx.shape {e:TypeId} {h:AH} {x:V} {xs:List V} (b:Sx e h x xs):∃ a,x=.y8 a xs.length:=by
 rcases b with ⟨rfl,rfl⟩ | ⟨n,pre,post,h1,rfl,h3⟩ <;> exact ⟨_,rfl⟩
theorem Sx.get {e t:TypeId} {h:AH} {x:V} {xs:List V} (b:Sx e h x xs) {i:Nat} {w:V} (hi:xs[i]?=some w) (hc:S8 Pg t e=true):∃ r j,zy Pg t x (.int .i64 (i:Nat))=some (.ptr (some ⟨r,.row e,[j]⟩))/\∃ l,h.m r=some (.cells true (.row e) (.agg l))/\yF (.agg l) [j]=some w/\r<h.next:=by
 have il:=(List.getElem?_eq_some_iff.1 hi).1;rcases b with ⟨rfl,rfl⟩ | ⟨n,pre,post,h1,rfl,h3⟩
 ·cases hi
 ·refine ⟨n,pre.length+i,?_,_,h3,v7 ?_,h1⟩
  ·rw [xW _ hc O_ O_,show ((i:Nat):Int).toNat=i by omega]
  ·rw [List.getElem?_append_right O_,show pre.length+i-pre.length=i by omega,List.getElem?_append_left il];exact hi
def Lg.pP (l:Lg):List Ch->Dk->Int × Dk
 | [],d=>(0,d)
 | c :: cs,d=>if (d.write ((l.at_+c.num%l.size:Nat):Int) (sj c)).1≠0 then d.write ((l.at_+c.num%l.size:Nat):Int) (sj c) else Lg.pP l cs (d.write ((l.at_+c.num%l.size:Nat):Int) (sj c)).2
def Lg.wF (l:Lg) (cs:List Ch) (d:Dk):Int × Dk :=
 if (l.pP cs d).1≠0 then l.pP cs d else if cs=[] then (0,(l.pP cs d).2) else (l.pP cs d).2.sync
theorem Dk.Zx (d:Dk):d.op.2.ops=d.ops+1:=by unfold Dk.op;split;rfl;split <;> rfl
theorem Dk.lJ (d:Dk) (b:Int) (x:List UInt8):(d.write b x).2.ops<=d.ops+1/\(d.write b x).2.zT.length<=d.zT.length+4/\(d.write b x).2.n=d.n:=by
 unfold Dk.write;split
 ·exact ⟨Nat.le_succ _,Nat.le_add_right _ _,rfl⟩
 ·split
  ·exact ⟨Nat.le_succ _,Nat.le_add_right _ _,rfl⟩
  ·split
   ·rw [Dk.Zx,Dk.kK,Dk.BV];exact ⟨O_,O_,rfl⟩
   ·refine ⟨by show d.op.2.ops<=_;rw [Dk.Zx];omega,?_,by show d.op.2.n=_;rw [Dk.BV]⟩;show (Z7 d.op.2.zT b.toNat x 4).length<=_;rw [kB,Dk.kK];omega
theorem fj {c:Ch} (o:c.ok):(sj c).length=256:=by
 unfold sj wN;rw [pf (lk o.bs.2) O_]
theorem Dk.BZ (d:Dk) (b:Int) (x:List UInt8):0<=(d.write b x).1/\(d.write b x).1<=4:=by
 unfold Dk.write;split
 ·exact ⟨by show (0:Int)<=4;omega,by show (4:Int)<=4;omega⟩
 ·split
  ·exact ⟨by show (0:Int)<=1;omega,by show (1:Int)<=4;omega⟩
  ·split
   ·unfold Dk.op;split
    ·exact ⟨by show (0:Int)<=4;omega,by show (4:Int)<=4;omega⟩
    ·split
     ·exact ⟨by show (0:Int)<=3;omega,by show (3:Int)<=4;omega⟩
     ·exact ⟨by show (0:Int)<=0;omega,by show (0:Int)<=4;omega⟩
   ·exact ⟨by show (0:Int)<=0;omega,by show (0:Int)<=4;omega⟩
section
variable {h0:AH} {p:Nat} {l:Lg} {lv:V} {all:List Ch}
theorem z6N {y:Int × Dk} (JG:1<=l.size) (hok:∀ c∈all,c.ok) (M0:all.length<=1000000):∀ (rest pre:List Ch) (m:Nat) (h:AH) (d:Dk),all=pre++rest->rest.length<m->zb gU h0 h->gR h p l->qf h l.d d->Sx 182 h lv (all.map j6)->d.ops+rest.length<999999999999->d.zT.length+4*rest.length<=900000000 ->
 (y=if (l.pP rest d).1≠0 then l.pP rest d else if all=[] then (0,(l.pP rest d).2) else (l.pP rest d).2.sync) ->
 z4q (xj gU h0 (.int .i64 y.1) λh'=>gR h' p l/\qf h' l.d y.2/\Sx 182 h' lv (all.map j6)) m (fM p) lv lv (.int .i64 (all.length:Nat)) (.int .i64 (pre.length:Nat)) h
 | rest,pre,0,h,d,e,hm,_,_,_,_,_,_,_=>by omega
 | [],pre,m+1,h,d,e,hm,q,kl,kd,dh,ho,hpd,hy=>by
  rw [List.append_nil] at e;rw [z0W];refine yD (by rw [e];omega) ?_;apply yZ;refine sm (RI ..) ?_;have Jn:zr Pg h .len [177] [lv]=some (.int .i64 all.length,h):=by
   obtain ⟨a,ea⟩:=dh.shape;rw [List.length_map] at ea;rw [ea];exact wa K_
  refine ze Jn ?_;rw [show l.pP [] d=(0,d) from rfl,if_neg S_] at hy;by_cases ha:all=[]
  ·rw [if_pos ha] at hy;subst hy;rw [ha];refine xn S_ ?_;apply xz;exact ⟨rfl,q,kl,kd,by rw [ha] at dh;exact dh⟩
  ·have hlen:0<all.length:=List.length_pos_iff.2 ha;rw [if_neg ha] at hy;refine yB O_ ?_;apply yZ;refine sm (Fl ..) ?_;obtain ⟨sv,pv,kb⟩:=id kl;have f0:=kb.log;apply yb;refine zx K_ ?_;refine zl f0 K_ (w:=pU l.d) rfl ?_;refine xN (Tv kd O_ (by simp at hpd;omega)) λh1 q1 k1=>?_;subst hy;exact ⟨rfl,q.trans q1,kl.zA q1 rfl rfl rfl,k1,dh.zA q1 rfl⟩
 | c :: rest,pre,m+1,h,d,e,hm,q,kl,kd,dh,ho,hpd,hy=>by
  have hlen:all.length=pre.length+1+rest.length:=by rw [e];simp;omega
  have e':all=(pre++[c])++rest:=by rw [e];simp
  have co:c.ok:=hok c (by rw [e];simp);obtain ⟨sv,pv,kb⟩:=id kl;have ok:=kb.ok;have o1:=ok.at_;have o2:=ok.size;have o3:=co.num;simp only [List.length_cons] at hm ho hpd;rw [z0W];refine xH O_ ?_;apply xz;refine sm (EP ..) ?_;have hg:(all.map j6)[pre.length]?=some (j6 c):=by rw [e];simp
  obtain ⟨r,j,g1,ll,g2,g3,g4⟩:=dh.get (t:=177) hg K_;refine z6 g1 ?_;refine ze (zR g2 K_ g3) ?_;refine zq (yA zCh (VP _)) λh1 u1=>?_;have n1:=u1.next;have q1:zb [] h h1:=zb.new u1;refine zq (zM (p:=[]) u1.at_ K_ rfl (VP c) rfl) λh2 u2=>?_;have n2:=u2.next;have po:zb [] h h2:=q1.ya u2 (Nat.le_refl _);have f2:=u2.at_;refine zl f2 K_ (w:=j6 c) rfl ?_;refine yf (z7r co h2) ?_;apply wj;apply wl;refine zq (yA (show xk Pg 111=some (.agg (zd (xM 256))) by kernel_rfl) (tY (zI 256))) λh3 u3=>?_;have n3:=u3.next;have q3:zb [] h2 h3:=zb.new u3;refine zq (zM (p:=[]) u3.at_ K_ rfl (tY (fj co)) rfl) λh4 u4=>?_;have n4:=u4.next;have JR:zb [] h2 h4:=q3.ya u4 (Nat.le_refl _);have mE:=po.trans JR;have f24:=JR.at f2 O_ rfl;have f4:=u4.at_;have fl:=mE.at kb.log kb.o rfl;have gn:yF (j6 c) ([]++[1])=some (.int .u32 c.num):=rfl;have hrem:zi Pg .rem 56 (.int .u32 (c.num:Nat)) (.int .u32 (l.size:Nat)) false=some (.int .u32 ((c.num%l.size:Nat):Int)):=by
   rw [Uz O_,show ((c.num:Int)).tmod (l.size:Int)=((c.num%l.size:Nat):Int) by rw [Int.tmod_eq_emod_of_nonneg O_];omega]
  have lm:=Nat.mod_lt c.num (show l.size>0 from O_);apply xy;refine ym K_ ?_;refine zY fl K_ (w:=pU l.d) rfl ?_;apply xy;refine ym K_ ?_;refine zY fl K_ (w:=.int .i64 l.at_) rfl ?_;refine ym K_ ?_;refine zY f24 K_ gn ?_;apply xy;refine ym K_ ?_;refine zY fl K_ (w:=.int .i64 l.size) rfl ?_;refine YF E_ O_ O_ ?_;refine zg hrem ?_;refine pk E_ O_ O_ ?_;refine rJ O_ O_ ?_;refine zY f4 K_ (w:=.agg (zd (sj c))) rfl ?_;rw [show (l.at_:Int)+((c.num%l.size:Nat):Int)=((l.at_+c.num%l.size:Nat):Int) by omega];refine xN (WM (kd.zA mE rfl rfl rfl rfl) O_ O_ _ (fj co)) λh5 q5 k5=>?_;have n5:=q5.next;obtain ⟨we1,we2⟩:=Dk.BZ d ((l.at_+c.num%l.size:Nat):Int) (sj c);obtain ⟨wl1,wl2,wl3⟩:=Dk.lJ d ((l.at_+c.num%l.size:Nat):Int) (sj c);have el:l.pP (c :: rest) d=if (d.write ((l.at_+c.num%l.size:Nat):Int) (sj c)).1≠0 then d.write ((l.at_+c.num%l.size:Nat):Int) (sj c) else Lg.pP l rest (d.write ((l.at_+c.num%l.size:Nat):Int) (sj c)).2:=rfl
  generalize d.write ((l.at_+c.num%l.size:Nat):Int) (sj c)=w at *;have dm:zb gU h0 h5:=q.trans ((mE.sub rfl).trans q5);have kl5:=(kl.zA mE rfl rfl rfl).zA q5 rfl rfl rfl;have V7:=(dh.zA mE rfl).zA q5 rfl;by_cases g:w.1=0
  ·rw [if_neg (by rw [g];simp)] at el;rw [el] at hy;refine yx g ?_;apply yZ;refine sm (DK ..) ?_;refine zE O_ O_ ?_;have:=z6N JG hok M0 rest (pre++[c]) m h5 w.2 e' O_ dm kl5 k5 V7 O_ O_ hy;rw [show (((pre++[c]).length:Nat):Int)=(pre.length:Int)+1 by simp] at this;exact z7.of this
  ·rw [if_pos g] at el;rw [el,if_pos g] at hy;refine xe g ?_;apply xz;subst hy;exact ⟨rfl,dm,kl5,k5,V7⟩
theorem AL {h:AH} {d:Dk} (JG:1<=l.size) (hok:∀ c∈all,c.ok) (M0:all.length<=1000000) (kl:gR h p l) (kd:qf h l.d d) (dh:Sx 182 h lv (all.map j6)) (ho:d.ops+all.length<999999999999) (hpd:d.zT.length+4*all.length<=900000000) :
 z0q 79 [fM p,lv] h (xj gU h (.int .i64 (l.wF all d).1) λh'=>gR h' p l/\qf h' l.d (l.wF all d).2/\Sx 182 h' lv (all.map j6)):=by
 have Jn:zr Pg h .len [177] [lv]=some (.int .i64 all.length,h):=by
  obtain ⟨a,ea⟩:=dh.shape;rw [List.length_map] at ea;rw [ea];exact wa K_
 refine C79 _ _ _ _ ?_;refine ze Jn ?_;exact ⟨all.length+1,z7.of (z6N (y:=l.wF all d) JG hok M0 all [] _ h d rfl O_ (zb.refl _ _) kl kd dh ho hpd rfl)⟩
end
section
set_option maxRecDepth 100000
noncomputable section
variable (Q:yO->AH->Prop) (ds:List AD) (n n1 n2:Nat) (x1 x2 x3 x4 x5 x7 x8 x9 x11 x12 x13 x14 x16 x17 x19 x20 x21 x33 x41 x43 x44 x47 x48:V) (a0 a1:V) (h:AH)
def B71:=bd Tryz.f71
def R71:List ResultVar:=[.tmp 2]
abbrev N71:=19
def K71:KT:=(sQ lF (sQ lF (jN (sQ lF (.one (.loop (sQ lF (jN (.two lF lF) (jN (.one (sQ lF (sQ lF (.two lF lF) [3,7,8,9,14]) [3,5,7,8,9])) lF [3,7,8,9]) [3,7,8,9]) [3,7,8,9,10]) [3,7,8,9])) [3,7,8,9]) (sQ lF lF [2]) [3]) [1,3]) [1])
def W71 (p l:List Nat) (e:zJ):Prop:=xG Pg N71 B71 K71 p l (zn Pg R71 Q) e h
def z9N:Prop:=W71 Q h [1,1,0,1,0,0,1,1,1] [n] [(3,x3),(7,x7),(8,x8),(9,x9)]
def zbz:Prop:=W71 Q h [1,1,0,1,0,0,1,1] [n] [(3,x3),(7,x7),(8,x8),(9,x9)]
def zaR:Prop:=W71 Q h [1,1,1] [] [(3,x3)]
def IC:Prop:=xX Pg N71 B71 K71 [1,1,0,1,0] [] n (zn Pg R71 Q) [(3,x3),(7,x7),(8,x8),(9,x9)] h
theorem Bz:z9N Q n x3 x7 x8 x9 h=(
 z0 (z03 (z0s .add 3 x9 (V.int .i64 1) true) h) λb c =>
 z7 (IC Q n x3 x7 x8 b c)):=K_
theorem Gd:zbz Q n x3 x7 x8 x9 h=(
 z0 (z03 (z0w 48 x7 x9) h) λb c =>
 z0 (z0o c 60 b) λd e =>
 z0 (z0D e 60) λf g =>
 z0 (z0t g 60 f d) λ_ i =>
 z0 (z03 (z0e 60 f 0) i) λj k =>
 z0 (z0o k 4 j) λl m =>
 zP l (
 z0 (z03 (z0s .add 3 x3 (V.int .i64 1) true) m) λo p =>
 z7 (z9N Q n o x7 x8 x9 p)) (
 z7 (z9N Q n x3 x7 x8 x9 m))):=K_
theorem iC:zaR Q x3 h=(
 Q (.ret x3) h):=K_
theorem QD:IC Q (n+1) x3 x7 x8 x9 h=(
 z0 (z03 (z0s .lss 3 x9 x8 false) h) λb c =>
 zP b (
 z7 (zbz Q n x3 x7 x8 x9 c)) (
 z7 (zaR Q x3 c))):=K_
theorem C71 (c :
 z0 (z0G h 50 a0) λb c =>
 z0 (z03 (z0e 50 b 1) c) λd e =>
 z0 (z0o e 48 d) λf g =>
 z0 (z0u g .len [48] [f]) λi j =>
 ∃ n,z7 (IC Q n (V.int .i64 0) f i (V.int .i64 0) j)):z0q 71 [a0] h Q :=
 mkC Tryz.func71 B71 N71 K71 R71 c
def B75:=bd Tryz.f75
def NU:List ResultVar:=[.cell 4 50,.tmp 5,.tmp 6]
abbrev N75:=52
def K75:KT:=(sQ lF (jN (jN (.rm [[2,3,4,11,14],[2,3,4,16,20]]) (.two (sQ lF lF [4,5,6]) lF) [2,3,4,21]) (sQ lF (jN (sQ lF (.two (sQ lF lF [4,5,6]) lF) [2,3,4,7,29]) (sQ lF (jN (sQ lF (.two lF lF) [2,3,4,7,37]) (sQ lF lF [4,5,6]) [2,4,7]) [2,3,4,7]) [2,3,4,7]) [2,3,4,7]) [2,3,4]) [2,3,4])
def W75 (p l:List Nat) (e:zJ):Prop:=xG Pg N75 B75 K75 p l (zn Pg NU Q) e h
def zbZ:Prop:=W75 Q h [1,1,1,1,1,1] [] [(2,x2),(4,x4),(7,x7)]
def z7b:Prop:=W75 Q h [1,1,1,1] [] [(2,x2),(3,x3),(4,x4),(7,x7)]
def z93:Prop:=W75 Q h [1,1] [] [(2,x2),(3,x3),(4,x4)]
def zbS:Prop:=W75 Q h [1,0,1] [] [(2,x2),(3,x3),(4,x4),(21,x21)]
def z2N:Prop:=yu Pg N75 B75 K75 [1,0,0] 4 2 [] (zn Pg NU Q) [(2,x2),(3,x3),(4,x4),(16,x16),(20,x20)] h
def z3b:Prop:=yu Pg N75 B75 K75 [1,0,0] 2 1 [] (zn Pg NU Q) [(2,x2),(3,x3),(4,x4),(11,x11),(14,x14)] h
theorem Fd:zbZ Q x2 x4 x7 h=(
 z0 (z0o h 50 x2) λb c =>
 z0 (z03 (z0F c 3 5 x7) c) λd e =>
 z0 (z0t e 50 x4 b) λ_ f =>
 yq (zX Pg [(4,x4),(5,d),(6,(V.int .i64 0))] f NU) λv=>Q (.ret v) f):=K_
theorem E4:z7b Q x2 x3 x4 x7 h=(
 z0 (z0o h 50 x2) λb c =>
 z0q 118 [b] c (zS (λd e =>
 z0 (z0t e 50 x2 d) λ_ f =>
 z0 (z03 (z0e 50 x2 1) f) λg i =>
 z0 (z0o i 48 g) λj k =>
 z0 (z0u k .len [48] [j]) λl m =>
 z0 (z03 (z0s .eql 3 x7 l false) m) λo p =>
 zP o (
 z0 (z03 (z0e 50 x2 1) p) λq r =>
 z0 (z0o r 48 q) λs t =>
 z0 (z0o t 60 x3) λu w =>
 z0 (yp Pg w 48 1 [(0,u)]) λy z =>
 z0 (z0u z .append [48,48] [s,y]) λA B =>
 z0 (z03 (z0e 50 x2 1) B) λC D =>
 z0 (z0t D 48 C A) λ_ E =>
 z7 (zbZ Q x2 x4 x7 E)) (
 z0 (z03 (z0e 50 x2 1) p) λF G =>
 z0 (z0o G 48 F) λH I =>
 z0 (z0o I 60 x3) λJ K =>
 z0 (z03 (z0w 48 H x7) K) λL M =>
 z0 (z0t M 60 L J) λ_ O =>
 z7 (zbZ Q x2 x4 x7 O))) λv h=>Q (.panic v) h)):=K_
theorem DF:z93 Q x2 x3 x4 h=(
 z0 (z0o h 50 x2) λb c =>
 z0 (z03 (z0e 60 x3 4) c) λd e =>
 z0 (z0o e 9 d) λf g =>
 z0 (z0u g .len [9] [f]) λi j =>
 z0q 117 [b,i] j (zS (λk l =>
 z0 (z03 (z0s .lss 3 k (V.int .i64 0) true) l) λm o =>
 zP m (
 z0 (z03 (z0y 50 []) o) λp q =>
 z0 (z0t q 50 x4 p) λ_ r =>
 yq (zX Pg [(4,x4),(5,(V.int .u8 0)),(6,(V.int .i64 5))] r NU) λv=>Q (.ret v) r) (
 z7 (z7b Q x2 x3 x4 k o))) λv h=>Q (.panic v) h)):=K_
theorem FJ:zbS Q x2 x3 x4 x21 h=(
 zP x21 (
 z0 (z03 (z0y 50 []) h) λb c =>
 z0 (z0t c 50 x4 b) λ_ d =>
 yq (zX Pg [(4,x4),(5,(V.int .u8 0)),(6,(V.int .i64 1))] d NU) λv=>Q (.ret v) d) (
 z7 (z93 Q x2 x3 x4 h))):=K_
theorem Hc:z2N Q x2 x3 x4 x16 x20 h=(
 z0 (yc x16 (V.bool true) x20 h) λb c =>
 z7 (zbS Q x2 x3 x4 b c)):=K_
theorem Bu:z3b Q x2 x3 x4 x11 x14 h=(
 z0 (yc x11 (V.bool true) x14 h) λb c =>
 vp b false (
 z0 (z03 (z0e 60 x3 4) c) λd e =>
 z0 (z0o e 9 d) λf g =>
 z0 (z0u g .len [9] [f]) λi j =>
 z0 (z03 (z0s .gtr 3 i (V.int .i64 66) true) j) λk l =>
 z7 (z2N Q x2 x3 x4 b k l)) (z7 (z2N Q x2 x3 x4 b yw c))):=K_
theorem C75 (c :
 z0 (z0G h 50 a0) λb c =>
 z0 (z0G c 60 a1) λd e =>
 z0 (z0D e 50) λf g =>
 z0 (z0o g 50 b) λi j =>
 z0q 67 [i] j (zS (λk l =>
 z0 (z03 (qd .not k) l) λm o =>
 vp m false (
 z0 (z03 (z0e 60 d 0) o) λp q =>
 z0 (z0o q 4 p) λr s =>
 z0 (z03 (qd .not r) s) λt u =>
 z7 (z3b Q b d f m t u)) (z7 (z3b Q b d f m yw o))) λv h=>Q (.panic v) h)):z0q 75 [a0,a1] h Q :=
 mkC Tryz.func75 B75 N75 K75 NU c
def B116:=bd Tryz.f116
def R116:List ResultVar:=[.tmp 4]
abbrev N116:=9
def K116:KT:=(sQ lF (sQ lF lF [4]) [1,2])
theorem C116 (c :
 z0 (z0G h 50 a0) λb c =>
 z0 (z0o c 50 b) λd e =>
 z0q 117 [d,a1] e (zS (λf g =>
 z0 (z03 (z0s .geq 3 f (V.int .i64 0) true) g) λi j =>
 Q (.ret i) j) λv h=>Q (.panic v) h)):z0q 116 [a0,a1] h Q :=
 mkC Tryz.func116 B116 N116 K116 R116 c
def S2:=bd Tryz.f117
def OU:List ResultVar:=[.tmp 4]
abbrev Nk:=52
def Sn:KT:=(sQ lF (jN (jN (.rm [[1,2,9,11],[1,2,13,16]]) (.two (sQ lF lF [4]) lF) [1,2,17]) (jN (sQ lF (.one (.loop (sQ lF (jN (.two lF lF) (jN (.one (sQ lF (sQ lF (.two (jN (sQ lF (.two (sQ lF lF [4]) lF) [5,34]) (sQ lF lF [4]) [5]) lF) [1,2,5,19,20,21,28]) [1,2,5,6,19,20,21])) lF [1,2,19,20,21]) [1,2,19,20,21]) [1,2,19,20,21,22]) [1,2,19,20,21])) [1,2,19,20,21]) (jN (jN (.rm [[2,41,47]]) (.two (sQ lF lF [4]) lF) [2,48]) (sQ lF lF [4]) [2]) [1,2]) [1,2]) [1,2])
def z5H (p:List Nat) (i g:Nat) (l:List Nat) (e:zJ):Prop:=yu Pg Nk S2 Sn p i g l (zn Pg OU Q) e h
def UB (p l:List Nat) (e:zJ):Prop:=xG Pg Nk S2 Sn p l (zn Pg OU Q) e h
def zc0:Prop:=UB Q h [1,1,0,1,0,0,1,1,0,0,1,1,0,1] [n] [(5,x5)]
def z8b:Prop:=UB Q h [1,1,0,1,0,0,1,1,1] [n] [(1,x1),(2,x2),(19,x19),(20,x20),(21,x21)]
def z8i:Prop:=UB Q h [1,1,0,1,0,0,1,1] [n] [(1,x1),(2,x2),(19,x19),(20,x20),(21,x21)]
def z8x:Prop:=UB Q h [1,1,1,1] [] [(2,x2)]
def z9s:Prop:=UB Q h [1,1,1,0,1] [] [(2,x2),(48,x48)]
def Gz6:Prop:=z5H Q h [1,1,1,0,0] 2 1 [] [(2,x2),(41,x41),(47,x47)]
def zcp:Prop:=UB Q h [1,1,1] [] [(1,x1),(2,x2)]
def ES:Prop:=xX Pg Nk S2 Sn [1,1,0,1,0] [] n (zn Pg OU Q) [(1,x1),(2,x2),(19,x19),(20,x20),(21,x21)] h
def z9i:Prop:=UB Q h [1,1] [] [(1,x1),(2,x2)]
def Gg:Prop:=UB Q h [1,0,1] [] [(1,x1),(2,x2),(17,x17)]
def Gz5:Prop:=z5H Q h [1,0,0] 4 2 [] [(1,x1),(2,x2),(13,x13),(16,x16)]
def Gz4:Prop:=z5H Q h [1,0,0] 2 1 [] [(1,x1),(2,x2),(9,x9),(11,x11)]
theorem Dv:zc0 Q n x5 h=(
 Q (.ret x5) h):=K_
theorem CN:z8b Q n x1 x2 x19 x20 x21 h=(
 z0 (z03 (z0s .add 3 x21 (V.int .i64 1) true) h) λb c =>
 z7 (ES Q n x1 x2 x19 x20 b c)):=K_
theorem Xq:z8i Q n x1 x2 x19 x20 x21 h=(
 z0 (z03 (z0w 48 x19 x21) h) λb c =>
 z0 (z0o c 60 b) λd e =>
 z0 (z0D e 60) λf g =>
 z0 (z0t g 60 f d) λ_ i =>
 z0 (z03 (z0e 60 f 0) i) λj k =>
 z0 (z0o k 4 j) λl m =>
 z0 (z03 (qd .not l) m) λo p =>
 zP o (
 z0 (z0o p 50 x2) λq r =>
 z0q 113 [q] r (zS (λs t =>
 z0 (z03 (z0s .add 3 s (V.int .i64 10) true) t) λu w =>
 z0 (z03 (z0s .add 3 u x1 false) w) λy z =>
 z0 (z03 (z0s .gtr 3 y (V.int .i64 224) true) z) λA B =>
 zP A (
 Q (.ret (V.int .i64 (-1))) B) (
 z7 (zc0 Q n x21 B))) λv h=>Q (.panic v) h)) (
 z7 (z8b Q n x1 x2 x19 x20 x21 p))):=K_
theorem DD:z8x Q x2 h=(
 z0 (z03 (z0e 50 x2 1) h) λb c =>
 z0 (z0o c 48 b) λd e =>
 z0 (z0u e .len [48] [d]) λf g =>
 Q (.ret f) g):=K_
theorem WV:z9s Q x2 x48 h=(
 zP x48 (
 Q (.ret (V.int .i64 (-1))) h) (
 z7 (z8x Q x2 h))):=K_
theorem Tt:Gz6 Q x2 x41 x47 h=(
 z0 (yc x41 (V.bool true) x47 h) λb c =>
 z7 (z9s Q x2 b c)):=K_
theorem Qj:zcp Q x1 x2 h=(
 z0 (z03 (z0e 50 x2 1) h) λb c =>
 z0 (z0o c 48 b) λd e =>
 z0 (z0u e .len [48] [d]) λf g =>
 z0 (z03 (z0s .eql 3 f (V.int .i64 15) true) g) λi j =>
 vp i false (
 z0 (z0o j 50 x2) λk l =>
 z0q 113 [k] l (zS (λm o =>
 z0 (z03 (z0s .add 3 m (V.int .i64 11) true) o) λp q =>
 z0 (z03 (z0s .add 3 p x1 false) q) λr s =>
 z0 (z03 (z0s .gtr 3 r (V.int .i64 224) true) s) λt u =>
 z7 (Gz6 Q x2 i t u)) λv h=>Q (.panic v) h)) (z7 (Gz6 Q x2 i yw j))):=K_
theorem Pw:ES Q (n+1) x1 x2 x19 x20 x21 h=(
 z0 (z03 (z0s .lss 3 x21 x20 false) h) λb c =>
 zP b (
 z7 (z8i Q n x1 x2 x19 x20 x21 c)) (
 z7 (zcp Q x1 x2 c))):=K_
theorem GQ:z9i Q x1 x2 h=(
 z0 (z03 (z0e 50 x2 1) h) λb c =>
 z0 (z0o c 48 b) λd e =>
 z0 (z0u e .len [48] [d]) λf g =>
 ∃ n,z7 (ES Q n x1 x2 d f (V.int .i64 0) g)):=K_
theorem HG:Gg Q x1 x2 x17 h=(
 zP x17 (
 Q (.ret (V.int .i64 (-1))) h) (
 z7 (z9i Q x1 x2 h))):=K_
theorem TY:Gz5 Q x1 x2 x13 x16 h=(
 z0 (yc x13 (V.bool true) x16 h) λb c =>
 z7 (Gg Q x1 x2 b c)):=K_
theorem Sd:Gz4 Q x1 x2 x9 x11 h=(
 z0 (yc x9 (V.bool true) x11 h) λb c =>
 vp b false (
 z0 (z0o c 50 x2) λd e =>
 z0q 67 [d] e (zS (λf g =>
 z0 (z03 (qd .not f) g) λi j =>
 z7 (Gz5 Q x1 x2 b i j)) λv h=>Q (.panic v) h)) (z7 (Gz5 Q x1 x2 b yw c))):=K_
theorem C117 (c :
 z0 (z0G h 50 a0) λb c =>
 z0 (z03 (z0s .lss 3 a1 (V.int .i64 0) true) c) λd e =>
 vp d false (
 z0 (z03 (z0s .gtr 3 a1 (V.int .i64 66) true) e) λf g =>
 z7 (Gz4 Q a1 b d f g)) (z7 (Gz4 Q a1 b d yw e))):z0q 117 [a0,a1] h Q :=
 mkC Tryz.func117 S2 Nk Sn OU c
def B118:=bd Tryz.f118
def Nn:List ResultVar:=[.cell 2 50]
abbrev N118:=8
def K118:KT:=(sQ lF (sQ lF (sQ lF lF [2]) [1,2]) [1,2])
theorem z6R (c :
 z0 (z0G h 50 a0) λb c =>
 z0 (z0D c 50) λd e =>
 z0 (z03 (z0e 50 b 1) e) λf g =>
 z0 (z0o g 48 f) λi j =>
 z0 (z0u j .append [48,48] [(V.y8 none 0),i]) λk l =>
 z0 (z03 (z0e 50 b 1) l) λm o =>
 z0 (z0t o 48 m k) λ_ p =>
 z0 (z0o p 50 b) λq r =>
 z0 (z0t r 50 d q) λ_ s =>
 yq (zX Pg [(2,d)] s Nn) λv=>Q (.ret v) s):z0q 118 [a0] h Q :=
 mkC Tryz.func118 B118 N118 K118 Nn c
def HY:=bd Tryz.f119
def Uv:List ResultVar:=[.cell 4 60,.tmp 5]
abbrev z3E:=27
def FL:KT:=(sQ lF (jN (jN (.rm [[1,2,4,12,19]]) (.two (sQ lF lF [4,5]) lF) [1,2,4,20]) (sQ lF lF [4,5]) [1,2,4]) [1,2,4])
def z8E (p l:List Nat) (e:zJ):Prop:=xG Pg z3E HY FL p l (zn Pg Uv Q) e h
def z72:Prop:=z8E Q h [1,1] [] [(1,x1),(2,x2),(4,x4)]
def z7F:Prop:=z8E Q h [1,0,1] [] [(1,x1),(2,x2),(4,x4),(20,x20)]
def Gz7:Prop:=yu Pg z3E HY FL [1,0,0] 2 1 [] (zn Pg Uv Q) [(1,x1),(2,x2),(4,x4),(12,x12),(19,x19)] h
theorem Ij:z72 Q x1 x2 x4 h=(
 z0 (z03 (z0e 50 x2 1) h) λb c =>
 z0 (z0o c 48 b) λd e =>
 z0 (z03 (z0w 48 d x1) e) λf g =>
 z0 (z0o g 60 f) λi j =>
 z0 (z0t j 60 x4 i) λ_ k =>
 yq (zX Pg [(4,x4),(5,(V.bool true))] k Uv) λv=>Q (.ret v) k):=K_
theorem Gx:z7F Q x1 x2 x4 x20 h=(
 zP x20 (
 z0 (z03 (z0y 60 []) h) λb c =>
 z0 (z0t c 60 x4 b) λ_ d =>
 yq (zX Pg [(4,x4),(5,(V.bool false))] d Uv) λv=>Q (.ret v) d) (
 z7 (z72 Q x1 x2 x4 h))):=K_
theorem SZ:Gz7 Q x1 x2 x4 x12 x19 h=(
 z0 (yc x12 (V.bool true) x19 h) λb c =>
 z7 (z7F Q x1 x2 x4 b c)):=K_
theorem C119 (c :
 z0 (z0G h 50 a0) λb c =>
 z0 (z0D c 60) λd e =>
 z0 (z03 (z0F e 5 3 a1) e) λf g =>
 z0 (z03 (z0e 50 b 1) g) λi j =>
 z0 (z0o j 48 i) λk l =>
 z0 (z0u l .len [48] [k]) λm o =>
 z0 (z03 (z0s .geq 3 f m false) o) λp q =>
 vp p false (
 z0 (z03 (z0e 50 b 1) q) λr s =>
 z0 (z0o s 48 r) λt u =>
 z0 (z03 (z0w 48 t a1) u) λw y =>
 z0 (z03 (z0e 60 w 0) y) λz A =>
 z0 (z0o A 4 z) λB C =>
 z0 (z03 (qd .not B) C) λD E =>
 z7 (Gz7 Q a1 b d p D E)) (z7 (Gz7 Q a1 b d p yw q))):z0q 119 [a0,a1] h Q :=
 mkC Tryz.func119 HY z3E FL Uv c
def Nf:=bd Tryz.f154
def ZV:List ResultVar:=[.cell 4 50,.tmp 5]
abbrev Ml:=54
def Ng:KT:=(sQ lF (jN (sQ lF (jN (.rm [[1,2,4,16,19]]) (.two (sQ lF lF [4,5]) lF) [1,2,4,20]) [1,2,4,7]) (sQ lF (sQ lF (jN (.one (.loop (jN (jN (.rm [[2,4,33,43]]) (.two lF lF) [2,4,44]) (.one lF) [2,4]) [2,4])) (sQ lF lF [4,5]) [2,4]) [2,4]) [1,2,4]) [1,2,4]) [1,2,4])
def LN (p l:List Nat) (e:zJ):Prop:=xG Pg Ml Nf Ng p l (zn Pg ZV Q) e h
def Ci:Prop:=LN Q h [1,1,1,1,0,0,0,1] [n] [(2,x2),(4,x4)]
def z7O:Prop:=LN Q h [1,1,1,1,1] [] [(2,x2),(4,x4)]
def z8d:Prop:=LN Q h [1,1,1,1,0,0,0,0,1] [n] [(2,x2),(4,x4),(44,x44)]
def Gzl:Prop:=yu Pg Ml Nf Ng [1,1,1,1,0,0,0,0,0] 2 1 [n] (zn Pg ZV Q) [(2,x2),(4,x4),(33,x33),(43,x43)] h
def Ib:Prop:=xX Pg Ml Nf Ng [1,1,1,1,0,0] [] n (zn Pg ZV Q) [(2,x2),(4,x4)] h
def z98:Prop:=LN Q h [1,1] [] [(1,x1),(2,x2),(4,x4)]
def zaw:Prop:=LN Q h [1,0,1,1] [] [(1,x1),(2,x2),(4,x4),(20,x20)]
def Gzk:Prop:=yu Pg Ml Nf Ng [1,0,1,0] 2 1 [] (zn Pg ZV Q) [(1,x1),(2,x2),(4,x4),(16,x16),(19,x19)] h
theorem Qb:Ci Q n x2 x4 h=(
 z0 (z03 (z0e 50 x2 1) h) λb c =>
 z0 (z0o c 48 b) λd e =>
 z0 (z03 (z0e 50 x2 1) e) λf g =>
 z0 (z0o g 48 f) λi j =>
 z0 (z0u j .len [48] [i]) λk l =>
 z0 (z03 (z0s .sub 3 k (V.int .i64 1) true) l) λm o =>
 z0 (z03 (yC Pg o 48 d none (some m)) o) λp q =>
 z0 (z03 (z0e 50 x2 1) q) λr s =>
 z0 (z0t s 48 r p) λ_ t =>
 z7 (Ib Q n x2 x4 t)):=K_
theorem G5:z7O Q x2 x4 h=(
 z0 (z0o h 50 x2) λb c =>
 z0 (z0t c 50 x4 b) λ_ d =>
 yq (zX Pg [(4,x4),(5,(V.int .i64 0))] d ZV) λv=>Q (.ret v) d):=K_
theorem IQ:z8d Q n x2 x4 x44 h=(
 zP x44 (
 z7 (Ci Q n x2 x4 h)) (
 z7 (z7O Q x2 x4 h))):=K_
theorem St:Gzl Q n x2 x4 x33 x43 h=(
 z0 (yc x33 x43 (V.bool false) h) λb c =>
 z7 (z8d Q n x2 x4 b c)):=K_
theorem QU:Ib Q (n+1) x2 x4 h=(
 z0 (z03 (z0e 50 x2 1) h) λb c =>
 z0 (z0o c 48 b) λd e =>
 z0 (z0u e .len [48] [d]) λf g =>
 z0 (z03 (z0s .gtr 3 f (V.int .i64 0) true) g) λi j =>
 vp i true (
 z0 (z03 (z0e 50 x2 1) j) λk l =>
 z0 (z0o l 48 k) λm o =>
 z0 (z03 (z0e 50 x2 1) o) λp q =>
 z0 (z0o q 48 p) λr s =>
 z0 (z0u s .len [48] [r]) λt u =>
 z0 (z03 (z0s .sub 3 t (V.int .i64 1) true) u) λw y =>
 z0 (z03 (z0w 48 m w) y) λz A =>
 z0 (z03 (z0e 60 z 0) A) λB C =>
 z0 (z0o C 4 B) λD E =>
 z0 (z03 (qd .not D) E) λF G =>
 z7 (Gzl Q n x2 x4 i F G)) (z7 (Gzl Q n x2 x4 i yw j))):=K_
theorem IA:z98 Q x1 x2 x4 h=(
 z0 (z0o h 50 x2) λb c =>
 z0q 118 [b] c (zS (λd e =>
 z0 (z0t e 50 x2 d) λ_ f =>
 z0 (z03 (z0e 50 x2 1) f) λg i =>
 z0 (z0o i 48 g) λj k =>
 z0 (z03 (z0y 60 []) k) λl m =>
 z0 (z03 (z0w 48 j x1) m) λo p =>
 z0 (z0t p 60 o l) λ_ q =>
 ∃ n,z7 (Ib Q n x2 x4 q)) λv h=>Q (.panic v) h)):=K_
theorem DX:zaw Q x1 x2 x4 x20 h=(
 zP x20 (
 z0 (z03 (z0y 50 []) h) λb c =>
 z0 (z0t c 50 x4 b) λ_ d =>
 yq (zX Pg [(4,x4),(5,(V.int .i64 1))] d ZV) λv=>Q (.ret v) d) (
 z7 (z98 Q x1 x2 x4 h))):=K_
theorem z0P:Gzk Q x1 x2 x4 x16 x19 h=(
 z0 (yc x16 (V.bool true) x19 h) λb c =>
 z7 (zaw Q x1 x2 x4 b c)):=K_
theorem C154 (c :
 z0 (z0G h 50 a0) λb c =>
 z0 (z0D c 50) λd e =>
 z0 (z0o e 50 b) λf g =>
 z0q 119 [f,a1] g (zS (λi j =>
 z0 (z03 (zm i 0) j) λk l =>
 z0 (z03 (zm i 1) l) λm o =>
 z0 (z0D o 60) λp q =>
 z0 (z0t q 60 p k) λ_ r =>
 z0 (z03 (qd .not m) r) λs t =>
 vp s false (
 z0 (z0o t 50 b) λu w =>
 z0q 67 [u] w (zS (λy z =>
 z0 (z03 (qd .not y) z) λA B =>
 z7 (Gzk Q a1 b d s A B)) λv h=>Q (.panic v) h)) (z7 (Gzk Q a1 b d s yw t))) λv h=>Q (.panic v) h)):z0q 154 [a0,a1] h Q :=
 mkC Tryz.func154 Nf Ml Ng ZV c
def Dn:=bd Tryz.f155
def UE:List ResultVar:=[.cell 4 50,.tmp 5]
abbrev z1r:=31
def Fh:KT:=(sQ lF (jN (sQ lF (jN (.rm [[1,2,4,16,19]]) (.two (sQ lF lF [4,5]) lF) [1,2,4,20]) [1,2,4,7]) (sQ lF (sQ lF (sQ lF lF [4,5]) [2,4]) [1,2,4]) [1,2,4]) [1,2,4])
def zbl (p l:List Nat) (e:zJ):Prop:=xG Pg z1r Dn Fh p l (zn Pg UE Q) e h
def zca:Prop:=zbl Q h [1,1] [] [(1,x1),(2,x2),(4,x4)]
def zaq:Prop:=zbl Q h [1,0,1,1] [] [(1,x1),(2,x2),(4,x4),(20,x20)]
def Gzm:Prop:=yu Pg z1r Dn Fh [1,0,1,0] 2 1 [] (zn Pg UE Q) [(1,x1),(2,x2),(4,x4),(16,x16),(19,x19)] h
theorem WJ:zca Q x1 x2 x4 h=(
 z0 (z0o h 50 x2) λb c =>
 z0q 118 [b] c (zS (λd e =>
 z0 (z0t e 50 x2 d) λ_ f =>
 z0 (z03 (z0e 50 x2 1) f) λg i =>
 z0 (z0o i 48 g) λj k =>
 z0 (z03 (z0y 58 []) k) λl m =>
 z0 (z03 (z0w 48 j x1) m) λo p =>
 z0 (z03 (z0e 60 o 3) p) λq r =>
 z0 (z0t r 58 q l) λ_ s =>
 z0 (z0o s 50 x2) λt u =>
 z0 (z0t u 50 x4 t) λ_ w =>
 yq (zX Pg [(4,x4),(5,(V.int .i64 0))] w UE) λv=>Q (.ret v) w) λv h=>Q (.panic v) h)):=K_
theorem G8:zaq Q x1 x2 x4 x20 h=(
 zP x20 (
 z0 (z03 (z0y 50 []) h) λb c =>
 z0 (z0t c 50 x4 b) λ_ d =>
 yq (zX Pg [(4,x4),(5,(V.int .i64 1))] d UE) λv=>Q (.ret v) d) (
 z7 (zca Q x1 x2 x4 h))):=K_
theorem TC:Gzm Q x1 x2 x4 x16 x19 h=(
 z0 (yc x16 (V.bool true) x19 h) λb c =>
 z7 (zaq Q x1 x2 x4 b c)):=K_
theorem C155 (c :
 z0 (z0G h 50 a0) λb c =>
 z0 (z0D c 50) λd e =>
 z0 (z0o e 50 b) λf g =>
 z0q 119 [f,a1] g (zS (λi j =>
 z0 (z03 (zm i 0) j) λk l =>
 z0 (z03 (zm i 1) l) λm o =>
 z0 (z0D o 60) λp q =>
 z0 (z0t q 60 p k) λ_ r =>
 z0 (z03 (qd .not m) r) λs t =>
 vp s false (
 z0 (z0o t 50 b) λu w =>
 z0q 67 [u] w (zS (λy z =>
 z0 (z03 (qd .not y) z) λA B =>
 z7 (Gzm Q a1 b d s A B)) λv h=>Q (.panic v) h)) (z7 (Gzm Q a1 b d s yw t))) λv h=>Q (.panic v) h)):z0q 155 [a0,a1] h Q :=
 mkC Tryz.func155 Dn z1r Fh UE c
end
end
theorem MX {a b:List UInt8} (hl:a.length=b.length) (h:∀ i,i<a.length->a.getD i 0=b.getD i 0):a=b:=by
 apply List.ext_getElem hl;intro i h1 h2;have:=h i h1;simpa [List.getD_eq_getElem?_getD,h1,h2] using this
theorem dT {l ws:List UInt8} {s n:Nat} (h:s+n<=l.length) (i:Nat):(wS l s n ws).getD i 0=if s<=i/\i<s+min ws.length n then ws.getD (i-s) 0 else l.getD i 0:=by
 unfold wS;have hm:min ws.length n<=n:=Nat.min_le_right ..;have hm2:min ws.length n<=ws.length:=Nat.min_le_left ..;generalize hk:min ws.length n=k at *;simp only [List.getD_eq_getElem?_getD];by_cases h1:i<s
 ·rw [if_neg O_,List.append_assoc,List.getElem?_append_left (by simp;omega),List.getElem?_take,if_pos h1]
 ·have e1:(l.take s).length=s:=by simp;omega
  by_cases h2:i<s+k
  ·rw [if_pos ⟨O_,h2⟩,List.append_assoc,List.getElem?_append_right O_,e1,List.getElem?_append_left (by simp;omega),List.getElem?_take,if_pos O_]
  ·have e2:(l.take s++ws.take k).length=s+k:=by rw [List.length_append,e1];simp;omega
   rw [if_neg O_,List.getElem?_append_right O_,e2,List.getElem?_drop];congr 2;omega
theorem nK {p s:List UInt8} {a:Nat} (hp:p.length=224) (ha:a+s.length<=224) (i:Nat):(xZ p a s).getD i 0=if a<=i/\i<a+s.length then s.getD (i-a) 0 else p.getD i 0:=by
 unfold xZ;rw [dT O_,show min s.length (224-a)=s.length by omega]
theorem Na {s:List UInt8} {a n:Nat} (h:a+n<=s.length):(s.drop a).take n=(List.range n).map λi=>s.getD (a+i) 0:=by
 apply List.ext_getElem
 ·simp;omega
 ·intro i h1 h2;have hi:i<n:=by simpa using h2
  simp [List.getD_eq_getElem?_getD,show a+i<s.length by omega]
theorem OM (v n:Nat):xd v (n+1)=hE v 0 :: xd (v/256) n:=by
 unfold xd;rw [List.range_succ_eq_map];simp only [List.map_cons,List.map_map];congr 1;apply List.map_congr_left;intro k _;show hE v (k+1)=hE (v/256) k;unfold hE;rw [Nat.div_div_eq_div_mul,show 8*(k+1)=8+8*k by omega,Nat.pow_add]
theorem ig (n:Nat):∀ v:Nat,cn (xd v n)=v%256 ^ n:=by
 induction n with
 | zero=>intro v;simp [xd,cn,Nat.mod_one]
 | succ n ih =>
  intro v;rw [OM,cn,ih];have e:(hE v 0).toNat=v%256:=by unfold hE;simp
  rw [e,Nat.pow_succ,Nat.mul_comm (256 ^ n) 256,Nat.mod_mul]
theorem ly {p:List UInt8} {a n v:Nat} (h1:a+n<=p.length) (h:∀ i,i<n->p.getD (a+i) 0=(xd v n).getD i 0) (hv:v<256 ^ n):xB p a n=v:=by
 unfold xB;rw [Na h1];have e:(List.range n).map (λi=>p.getD (a+i) 0)=xd v n:=by
  apply MX (by simp [xd]);intro i hi;have hi:i<n:=by simpa using hi
  rw [<- h i hi];simp [List.getD_eq_getElem?_getD,hi]
 rw [e,ig,Nat.mod_eq_of_lt hv]
theorem OX {p:List UInt8} (hp:p.length=224) (k:UInt8) (i:Nat):(p.set 0 k).getD i 0=if i=0 then k else p.getD i 0:=by
 simp only [List.getD_eq_getElem?_getD,List.getElem?_set];by_cases h:i=0
 ·subst h;simp [hp]
 ·rw [if_neg (λe=>h e.symm),if_neg h]
theorem LS {p q:List UInt8} (hp:p.length=224) (hq:q.length=224) (h:∀ i,¬ (3<=i/\i<7)->p.getD i 0=q.getD i 0):kX p=kX q:=by
 unfold kX;congr 1;have l1:(wS p 3 (7-3) (xM 4)).length=p.length:=rP O_;have l2:(wS q 3 (7-3) (xM 4)).length=q.length:=rP O_;apply MX O_;intro i hi;rw [dT O_,dT O_,zI];split
 ·rfl
 ·rename_i g;exact h i O_
theorem Gm (p:List UInt8):kX p<4294967296:=cz _
theorem mL {kind:UInt8} {no zZ:Nat} {p:List UInt8} (hp:p.length=224) (i:Nat):(rC kind no zZ p).getD i 0 =
 if i=0 then kind else if 1<=i/\i<3 then (xd no 2).getD (i-1) 0 else if 7<=i/\i<15 then (xd zZ 8).getD (i-7) 0 else if 3<=i/\i<7 then (xd (kX (rC kind no zZ p)) 4).getD (i-3) 0 else p.getD i 0:=by
 have h0:(p.set 0 kind).length=224:=by simpa using hp
 have h1:(xZ (p.set 0 kind) 1 (xd no 2)).length=224:=wm h0 O_;have h2:(xZ (xZ (p.set 0 kind) 1 (xd no 2)) 7 (xd zZ 8)).length=224:=wm h1 O_;have e:kX (rC kind no zZ p)=kX (xZ (xZ (p.set 0 kind) 1 (xd no 2)) 7 (xd zZ 8)):=by
  refine LS (pe hp) h2 λi hi=>?_;unfold rC;simp only;rw [nK h2 (by simp [xL]),xL,if_neg O_]
 rw [e];unfold rC;simp only;rw [nK h2 (by simp [xL]),nK h1 (by simp [xL]),nK h0 (by simp [xL]),OX hp];simp only [xL];by_cases g0:i=0
 ·subst g0;simp
 ·by_cases g1:1<=i/\i<3
  ·rw [if_neg O_,if_neg O_,if_pos O_,if_neg g0,if_pos g1]
  ·by_cases g7:7<=i/\i<15
   ·rw [if_neg O_,if_pos O_,if_neg g0,if_neg g1,if_pos g7]
   ·by_cases g3:3<=i/\i<7
    ·rw [if_pos O_,if_neg g0,if_neg g1,if_neg g7,if_pos g3]
    ·rw [if_neg O_,if_neg O_,if_neg O_,if_neg g0,if_neg g0,if_neg g1,if_neg g7,if_neg g3]
theorem Z4 {kind:UInt8} {no zZ:Nat} {p:List UInt8} (hp:p.length=224) (vk:no<65536):oF kind no (rC kind no zZ p):=by
 have hl:=pe (kind:=kind) (no:=no) (zZ:=zZ) hp;refine ⟨by rw [mL hp,if_pos rfl],?_,?_⟩
 ·refine ly O_ (λi hi=>?_) (by simpa using vk);rw [mL hp,if_neg O_,if_pos O_,show 1+i-1=i by omega]
 ·refine ly O_ (λi hi=>?_) (Gm _);rw [mL hp,if_neg O_,if_neg O_,if_neg O_,if_pos O_,show 3+i-3=i by omega]
theorem Uk {kind:UInt8} {no zZ:Nat} {p:List UInt8} (hp:p.length=224) (hl:zZ<18446744073709551616):xB (rC kind no zZ p) 7 8=zZ:=by
 have PY:=pe (kind:=kind) (no:=no) (zZ:=zZ) hp;refine ly O_ (λi hi=>?_) hl;rw [mL hp,if_neg O_,if_neg O_,if_pos O_,show 7+i-7=i by omega]
theorem gG {kind:UInt8} {no zZ:Nat} {p:List UInt8} (hp:p.length=224) {i:Nat} (hi:15<=i):(rC kind no zZ p).getD i 0=p.getD i 0:=by
 rw [mL hp,if_neg O_,if_neg O_,if_neg O_,if_neg O_]
theorem Bn (n i:Nat):(xM n).getD i 0=0:=by
 unfold xM;simp only [List.getD_eq_getElem?_getD,List.getElem?_replicate];split <;> rfl
def M5 (d:Dt):List UInt8:=xZ ((xZ (xZ (xM 224) 15 (xd d.ts 4)) 19 (xd d.pp 2)).set 21 d.ps) 22 d.body
theorem Xs (no:Nat) (d:Dt):rF no d=rC 1 no d.zZ (M5 d):=rfl
theorem hI {d:Dt} (hd:d.body.length=64):(M5 d).length=224:=wm (by rw [List.length_set];exact wm (wm (zI _) O_) O_) O_
theorem R6 {d:Dt} (hd:d.body.length=64) (i:Nat):(M5 d).getD i 0=if 22<=i/\i<86 then d.body.getD (i-22) 0 else if i=21 then d.ps else if 19<=i/\i<21 then (xd d.pp 2).getD (i-19) 0 else if 15<=i/\i<19 then (xd d.ts 4).getD (i-15) 0 else 0:=by
 have h1:(xZ (xM 224) 15 (xd d.ts 4)).length=224:=wm (zI _) O_;have h2:(xZ (xZ (xM 224) 15 (xd d.ts 4)) 19 (xd d.pp 2)).length=224:=wm h1 O_;unfold M5;rw [nK (by simpa using h2) O_,hd];have e:∀ j:Nat,((xZ (xZ (xM 224) 15 (xd d.ts 4)) 19 (xd d.pp 2)).set 21 d.ps).getD j 0=if j=21 then d.ps else (xZ (xZ (xM 224) 15 (xd d.ts 4)) 19 (xd d.pp 2)).getD j 0:=by
  intro j;simp only [List.getD_eq_getElem?_getD,List.getElem?_set];by_cases h:j=21
  ·subst h;simp [h2]
  ·rw [if_neg (λe=>h e.symm),if_neg h]
 rw [e,nK h1 (by simp [xL]),nK (zI _) (by simp [xL]),Bn];simp only [xL]
theorem Qd {no:Nat} {d:Dt} (vk:no<65536) (ok:d.ok):ur no (rF no d):=by
 have hb:d.body.length=64:=ok.body;refine ⟨Z4 (hI hb) vk,λi hi=>?_⟩;have hl:(rF no d).length=224:=pL no;rw [List.length_drop,hl] at hi;have e:((rF no d).drop 86).getD i 0=(rF no d).getD (86+i) 0:=by simp [List.getD_eq_getElem?_getD]
 rw [e,Xs,gG (hI hb) O_,R6 hb,if_neg O_,if_neg O_,if_neg O_,if_neg O_]
theorem z2T {no:Nat} {d:Dt} (ok:d.ok):xB (rF no d) 7 8=d.zZ:=by
 rw [Xs];exact Uk (hI ok.body) ok.zZ
theorem VI {no:Nat} {d:Dt} (ok:d.ok):rq (rF no d)=d:=by
 have hb:d.body.length=64:=ok.body;have hl:(rF no d).length=224:=pL no;have hr:∀ i,15<=i->(rF no d).getD i 0=(M5 d).getD i 0:=λi hi=>by rw [Xs];exact gG (hI hb) hi
 have e1:=z2T (no:=no) ok;have e2:xB (rF no d) 15 4=d.ts:=ly O_ (λi hi=>by rw [hr _ O_,R6 hb,if_neg O_,if_neg O_,if_neg O_,if_pos O_,show 15+i-15=i by omega]) ok.ts;have e3:xB (rF no d) 19 2=d.pp:=ly O_ (λi hi=>by rw [hr _ O_,R6 hb,if_neg O_,if_neg O_,if_pos O_,show 19+i-19=i by omega]) ok.pp;have e4:(rF no d).getD 21 0=d.ps:=by rw [hr _ O_,R6 hb,if_neg O_,if_pos rfl]
 have e5:((rF no d).drop 22).take 64=d.body:=by
  apply MX (by simp [hl,hb]);intro i hi;have hi:i<64:=by simp at hi;omega
  have:(((rF no d).drop 22).take 64).getD i 0=(rF no d).getD (22+i) 0:=by
   simp [List.getD_eq_getElem?_getD,List.getElem?_take,hi]
  rw [this,hr _ O_,R6 hb,if_pos O_,show 22+i-22=i by omega]
 unfold rq;rw [e1,e2,e3,e4,e5]
structure Ol where
 live:Bool
 xu:Nat
 ts:Nat
 np:Nat
 ns:UInt8
 dl:List UInt8
 deriving DecidableEq
structure Ol.ok (o:Ol):Prop where
 xu:o.xu<65536
 ts:o.ts<4294967296
 np:o.np<65536
 dl:o.dl.length<1000000
def Ol.v (o:Ol):V:=.agg [.bool o.live,.int .u16 o.xu,.int .u32 o.ts,.agg [.int .u16 o.np,.int .u8 o.ns.toNat],.str o.dl]
def Ol.z:Ol:=⟨false,0,0,0,0,[]⟩
theorem qh (o:Ol):zf Pg o.v 60=true:=K_
theorem Mw:xk Pg 60=some Ol.z.v:=K_
theorem bOl:zD Pg 60 []=some Ol.z.v:=K_
structure Un where
 zZ:Nat
 zt:List Ol
structure Un.ok (u:Un):Prop where
 zZ:u.zZ<18446744073709551616
 zt:∀ o∈u.zt,o.ok
 len:u.zt.length<=1000000
def vE (l:Nat) (sv:V):V:=.agg [.int .u64 l,sv]
def dH (e:TypeId) (h:AH) (x:V) (xs:List V):Prop :=
 (x=.y8 none 0/\xs=[])\/∃ n ys,n<h.next/\x=.y8 (some (⟨n,.row e,[]⟩,0)) xs.length/\h.m n=some (.cells true (.row e) (.agg (xs++ys)))
theorem nD.dt {e:TypeId} {h:AH} {x:V} {xs:List V} (b:nD e h x xs):dH e h x xs:=by
 rcases b with ⟨rfl,rfl⟩ | ⟨n,h1,rfl,h3⟩
 ·exact .inl ⟨rfl,rfl⟩
 ·exact .inr ⟨n,[],h1,rfl,by rw [List.append_nil];exact h3⟩
theorem dH.zA {T:xr} {e:TypeId} {h h':AH} {x:V} {xs:List V} (b:dH e h x xs) (q:zb T h h') (ht:T.contains (1,e,0)=false):dH e h' x xs:=by
 rcases b with ⟨rfl,rfl⟩ | ⟨n,ys,h1,rfl,h3⟩
 ·exact .inl ⟨rfl,rfl⟩
 ·exact .inr ⟨n,ys,by have:=q.next;omega,rfl,q.at h3 h1 ht⟩
theorem dH.shape {e:TypeId} {h:AH} {x:V} {xs:List V} (b:dH e h x xs):∃ a,x=.y8 a xs.length:=by
 rcases b with ⟨rfl,rfl⟩ | ⟨n,ys,h1,rfl,h3⟩ <;> exact ⟨_,rfl⟩
theorem dH.elems {e:TypeId} {h:AH} {x:V} {xs:List V} (b:dH e h x xs):xY Pg h e x=some xs:=by
 rcases b with ⟨rfl,rfl⟩ | ⟨n,ys,h1,rfl,h3⟩
 ·rfl
 ·simp [xY,h3,Go.Ab.rowAt,yF]
structure sZ (h:AH) (v:V) (u:Un):Prop where
 v:∃ sv,v=vE u.zZ sv/\dH 60 h sv (u.zt.map Ol.v)
 ok:u.ok
theorem dH.get {e:TypeId} {h:AH} {x:V} {xs:List V} (b:dH e h x xs) {i:Nat} {w:V} (hi:xs[i]?=some w):∃ r ys,r<h.next/\x=.y8 (some (⟨r,.row e,[]⟩,0)) xs.length/\h.m r=some (.cells true (.row e) (.agg (xs++ys)))/\(xs++ys)[i]?=some w:=by
 rcases b with ⟨rfl,rfl⟩ | ⟨n,ys,h1,h2,h3⟩
 ·cases hi
 ·exact ⟨n,ys,h1,h2,h3,by rw [List.getElem?_append_left (List.getElem?_eq_some_iff.1 hi).1];exact hi⟩
theorem qN (l:Nat) {e:Nat} {h:AH} {sv:V} {xs:List V} (b:dH e h sv xs):zf Pg (vE l sv) 50=true:=by
 obtain ⟨a,rfl⟩:=b.shape
 kernel_rfl
def Ol.sz (o:Ol):Nat:=1+if o.live then 10+o.dl.length else 0
def yG (l:List Ol):Nat:=16+(l.map Ol.sz).sum
theorem kE (a b:List Ol):yG (a++b)=yG a+(b.map Ol.sz).sum:=by unfold yG;simp;omega
theorem iL {l:List Ol} (h:∀ o∈l,o.ok):yG l<=16+1000011*l.length:=by
 unfold yG;induction l with
 | nil=>simp
 | cons o l ih =>
  have h1:=ih λo' ho=>h o' (List.mem_cons_of_mem _ ho);have h2:=(h o List.mem_cons_self).dl;have h3:o.sz<=1000011:=by unfold Ol.sz;split <;> omega
  simp only [List.map_cons,List.sum_cons,List.length_cons];omega
section
variable {h0:AH} {sv:V} {zt:List Ol}
theorem Z9 {h:AH} {pre rest:List Ol} {o:Ol} (b:dH 60 h sv (zt.map Ol.v)) (e:zt=pre++o :: rest) {K:V->AH->Prop}
 (k:∀ h' n,h.next<=n->zb [] h h'->h'.m n=some (.cells true (.one 60) o.v)->n<h'.next->K (.ptr (some ⟨n,.one 60,[]⟩)) h') :
 z0 (z03 (zy Pg 48 sv (.int .i64 (pre.length:Nat))) h) λv11 NH=>z0 (z9 Pg NH 60 v11) λv13 JQ=>z0 (zV Pg JQ 60) λv15 h16=>z0 (zh Pg h16 60 v15 v13) λ_ h18=>K v15 h18:=by
 have hi:(zt.map Ol.v)[pre.length]?=some o.v:=by rw [e];simp
 obtain ⟨r,ys,r1,r2,r3,jI⟩:=b.get hi;rw [r2];refine z6 (xW _ K_ O_ (by rw [e];simp;omega)) ?_;refine ze (zR r3 K_ (w:=o.v) (by rw [show 0+((pre.length:Nat):Int).toNat=pre.length by omega];exact v7 jI)) ?_;refine zq (yA Mw (qh _)) λh1 u1=>?_;have n1:=u1.next;refine zq (zM (p:=[]) u1.at_ K_ rfl (qh o) rfl) λh2 u2=>?_;have n2:=u2.next;exact k h2 h.next (Nat.le_refl _) ((zb.new u1).ya u2 (Nat.le_refl _)) u2.at_ O_
theorem z04:∀ (rest pre:List Ol) (m:Nat) (h:AH),zt=pre++rest->rest.length<m->zb [] h0 h->dH 60 h sv (zt.map Ol.v)->(∀ o∈zt,o.ok)->zt.length<=1000000 ->
 D2 (vC (.int .i64 (yG zt:Nat)) h0) m (.int .i64 (yG pre:Nat)) sv (.int .i64 (zt.length:Nat)) (.int .i64 (pre.length:Nat)) h
 | rest,pre,0,h,e,hm,_,_,_,_=>by omega
 | [],pre,m+1,h,e,hm,q,b,ok,hl=>by
  rw [List.append_nil] at e;subst e;rw [Gq];refine yD O_ ?_;apply yZ;refine sm (P6 ..) ?_;exact ⟨rfl,q.all⟩
 | o :: rest,pre,m+1,h,e,hm,q,b,ok,hl=>by
  have hlen:zt.length=pre.length+1+rest.length:=by rw [e];simp;omega
  have o1:o.ok:=ok o (by rw [e];simp);have e':zt=(pre++[o])++rest:=by rw [e];simp
  have s1:yG (pre++[o])=yG pre+o.sz:=by rw [kE];simp
  have s2:=iL (l:=pre) λo' ho=>ok o' (by rw [e];simp [ho]);have d1:=o1.dl;rw [Gq];refine xH O_ ?_;apply xz;refine sm (Ed ..) ?_;refine Z9 b e λh1 n l1 q1 f1 l2=>?_;have b1:=b.zA q1 rfl;refine zE O_ O_ ?_;refine zx K_ ?_;refine zl f1 K_ (w:=.bool o.live) rfl ?_;have go:∀ x:Int,x=(yG (pre++[o]):Nat)->za6 (vC (.int .i64 (yG zt:Nat)) h0) m (.int .i64 x) sv (.int .i64 (zt.length:Nat)) (.int .i64 (pre.length:Nat)) h1:=by
   intro x hx;subst hx;rw [Qf];refine zE O_ O_ ?_;have:=z04 rest (pre++[o]) m h1 e' (by simp at hm;omega) (q.trans q1) b1 ok hl;rw [show (((pre++[o]).length:Nat):Int)=(pre.length:Int)+1 by simp] at this;exact z7.of this
  refine wJ (λg=>?_) (λg=>?_)
  ·refine zx K_ ?_;refine zl f1 K_ (w:=.str o.dl) rfl ?_;refine xq K_ ?_;refine zE O_ O_ ?_;refine zE O_ O_ ?_;exact z7.of (go _ (by rw [s1];unfold Ol.sz;rw [if_pos g];omega))
  ·exact z7.of (go _ (by rw [s1];unfold Ol.sz;rw [if_neg (by rw [g];decide)];omega))
theorem K5 {h:AH} {v:V} {u:Un} (b:sZ h v u):z0q 113 [v] h (zO (.int .i64 (yG u.zt:Nat)) h):=by
 obtain ⟨⟨sv,rfl,b⟩,ok⟩:=b;refine yN rfl ?_;show z0q 113 _ h (vC _ h);refine C113 _ _ _ ?_;refine zq (yl (qN u.zZ b)) λh1 u1=>?_;have q1:zb [] h h1:=zb.new u1;refine zx K_ ?_;refine zl u1.at_ K_ (w:=sv) rfl ?_;have b1:=b.zA q1 rfl;obtain ⟨a,ea⟩:=b1.shape;rw [List.length_map] at ea;refine ze (show zr Pg h1 .len [48] [sv]=some (.int .i64 u.zt.length,h1) by rw [ea];exact wa K_) ?_;exact ⟨u.zt.length+1,z7.of (z04 (h0:=h) u.zt [] _ h1 rfl O_ q1 b1 ok.zt ok.len)⟩
end
end Go.Proofs.YtdbgifdfdhhjcaaGreat.Sh
namespace Go.Proofs.YtdbgifdfdhhjcaaGreat.wT
open Go Go.Ab Go.RowKit
open Go.Proofs.YtdbgifdfdhhjcaaGreat.Ru (Pg yL)
open Go.Proofs.YtdbgifdfdhhjcaaGreat.Sh
set_option maxRecDepth 10000
set_option maxHeartbeats 2000000
theorem z2W:tN Pg (.one 95) [2]=some (3,33):=K_
structure Rc where
 k:Int
 zU:Bool
 no:Int
 im:List Int
 ts:Int
 pp:Int
 ps:Int
 dl:List UInt8
 sl:Int
 live:Bool
 op:Int
 du:Int
 dv:Int
 Xa:Int
 od:List UInt8
 deriving DecidableEq
def nE (l:List Int):V:=.agg (l.map (.int .u8))
def uL (p s:Int):V:=.agg [.int .u16 p,.int .u8 s]
def vPg (u:Bool) (n:Int):V:=.agg [.bool u,.int .u16 n]
def uD (live:Bool) (p ts np ns:Int) (d:List UInt8):V:=.agg [.bool live,.int .u16 p,.int .u32 ts,uL np ns,.str d]
def uV (k:Int) (zU:Bool) (no:Int) (im:List Int) (ts pp ps:Int) (dl:List UInt8) (sl:Int) (o:V):V :=
 .agg [.int .u8 k,vPg zU no,nE im,.int .u32 ts,uL pp ps,.str dl,.int .u8 sl,o]
def Rc.v (r:Rc):V:=uV r.k r.zU r.no r.im r.ts r.pp r.ps r.dl r.sl (uD r.live r.op r.du r.dv r.Xa r.od)
def Jo:List Int:=List.replicate 224 0
theorem LA {l:List Int} (h:l.length=224):zf Pg (nE l) 33=true:=by
 have e:zf Pg (nE l) 33=((l.map (V.int .u8)).length == 224&&zF Pg (l.map (V.int .u8)) 5):=K_;have all:∀ l:List Int,zF Pg (l.map (V.int .u8)) 5=true:=by
  intro l;induction l with
  | nil=>rfl
  | cons a l ih =>
   have:zF Pg ((a :: l).map (V.int .u8)) 5=(zf Pg (.int .u8 a) 5&&zF Pg (l.map (V.int .u8)) 5):=rfl;rw [this,ih];have:zf Pg (.int .u8 a) 5=true:=K_;rw [this];rfl
 rw [e,all];simp [h]
theorem z6M {k:Int} {zU:Bool} {no:Int} {im:List Int} {ts pp ps:Int} {dl:List UInt8} {sl:Int} {a:Bool} {b c d e:Int} {f:List UInt8} (h:im.length=224):zf Pg (uV k zU no im ts pp ps dl sl (uD a b c d e f)) 95=true:=by
 have e:zf Pg (uV k zU no im ts pp ps dl sl (uD a b c d e f)) 95=(zf Pg (nE im) 33&&true):=K_;rw [e,LA h];rfl
theorem Ry:∀ l:List Int,xU (l.map (V.int .u8))=true
 | []=>rfl
 | _ :: l=>by simp only [List.map_cons,xU,xS,Ry l,Bool.and_self]
theorem yR (r:Rc):xS r.v=true:=by
 simp only [Rc.v,uV,vPg,nE,uL,uD,xS,xU,Ry,Bool.and_self]
theorem gQ (r:Rc):xU [r.v]=true:=by simp only [xU,yR,Bool.and_self]
def Rc.z (k:Int):Rc:=⟨k,false,0,Jo,0,0,0,[],0,false,0,0,0,0,[]⟩
def Rc.bare (r:Rc):Rc :=
 if r.k=1 then { Rc.z r.k with zU:=r.zU,no:=r.no,im:=r.im }
 else if r.k=2 then { Rc.z r.k with no:=r.no,ts:=r.ts,pp:=r.pp,ps:=r.ps,dl:=r.dl }
 else if r.k=3 then { Rc.z r.k with zU:=true,no:=r.no,sl:=r.sl,live:=true,op:=r.op,du:=r.du,dv:=r.dv,Xa:=r.Xa,od:=r.od }
 else if r.k=4 then { Rc.z r.k with zU:=true,no:=r.no,sl:=r.sl }
 else if r.k=5 then { Rc.z r.k with zU:=true,no:=r.no,sl:=r.sl }
 else if r.k=6 then { Rc.z r.k with ts:=r.ts }
 else Rc.z r.k
theorem Rc.A0 (r:Rc) (hi:r.im.length=224):r.bare.im.length=224:=by
 have h0:Jo.length=224:=List.length_replicate ..;unfold Rc.bare
 repeat' split
 all_goals first | exact hi | exact h0
theorem Mv:∀ a b:List Int,a.length=b.length->v9 (a.map (V.int .u8)) (b.map (V.int .u8))=some (a == b)
 | [],[],_=>rfl
 | x :: a,y :: b,h=>by
  have ih:=Mv a b (by simpa using h);simp only [List.map_cons,v9,wW,if_true,ih];cases hxy:x == y
  ·simp [List.beq_cons_cons,hxy]
  ·simp [List.beq_cons_cons,hxy]
 | [],_ :: _,h=>by simp at h
 | _ :: _,[],h=>by simp at h
theorem xP {v w:V} {vs ws:List V} {b c:Bool} (hb:wW v w=some b) (hc:v9 vs ws=some c):v9 (v :: vs) (w :: ws)=some (b&&c):=by
 simp only [v9,hb];cases b <;> simp [hc]
theorem qX:v9 [] []=some true:=rfl
theorem kY {k:IntKind} {a b:Int}:wW (.int k a) (.int k b)=some (a == b):=by simp [wW]
theorem A1 {a b:Bool}:wW (.bool a) (.bool b)=some (a == b):=rfl
theorem z4T {a b:List UInt8}:wW (.str a) (.str b)=some (a == b):=rfl
theorem V8 {a b:List V} {c:Bool} (h:v9 a b=some c):wW (.agg a) (.agg b)=some c:=h
theorem Gh (r s:Rc) (h:r.im.length=s.im.length):wW r.v s.v=some (decide (r=s)):=by
 have e:wW r.v s.v=some ((r.k == s.k)&&(((r.zU == s.zU)&&((r.no == s.no)&&true))&&((r.im == s.im)&&((r.ts == s.ts)&&(((r.pp == s.pp)&&((r.ps == s.ps)&&true))&&((r.dl == s.dl)&&((r.sl == s.sl) &&
  (((r.live == s.live)&&((r.op == s.op)&&((r.du == s.du)&&(((r.dv == s.dv)&&((r.Xa == s.Xa)&&true))&&((r.od == s.od)&&true)))))&&true)))))))) :=
  V8 (xP kY (xP (V8 (xP A1 (xP kY qX))) (xP (V8 (Mv _ _ h)) (xP kY (xP (V8 (xP kY (xP kY qX))) (xP z4T (xP kY
   (xP (V8 (xP A1 (xP kY (xP kY (xP (V8 (xP kY (xP kY qX))) (xP z4T qX)))))) qX))))))))
 rw [e];congr 1;obtain ⟨r1,r2,r3,r4,r5,r6,r7,r8,r9,ra,rb,rc,rd,re,rf⟩:=r;obtain ⟨s1,s2,s3,s4,s5,s6,s7,s8,s9,sa,sb,sc,sd,se,sf⟩:=s;simp only [Rc.mk.injEq];rw [Bool.eq_iff_iff];simp only [Bool.and_eq_true,beq_iff_eq,decide_eq_true_eq,and_true];constructor
 ·rintro ⟨h1,⟨h2,h3⟩,h4,h5,⟨h6,h7⟩,h8,h9,ha,hb,hc,⟨hd,he⟩,hf⟩;exact ⟨h1,h2,h3,h4,h5,h6,h7,h8,h9,ha,hb,hc,hd,he,hf⟩
 ·rintro ⟨h1,h2,h3,h4,h5,h6,h7,h8,h9,ha,hb,hc,hd,he,hf⟩;exact ⟨h1,⟨h2,h3⟩,h4,h5,⟨h6,h7⟩,h8,h9,ha,hb,hc,⟨hd,he⟩,hf⟩
theorem qO (r:Rc) (hi:r.im.length=224):zf Pg r.v 95=true:=z6M hi
theorem pl51:yz Pg 20 95=true:=K_
theorem eq51 (r s:Rc) (hr:r.im.length=224) (hs:s.im.length=224) (c:Bool):zi Pg .eql 95 r.v s.v c=some (.bool (decide (r=s))):=by
 have h1:zi Pg .eql 95 r.v s.v c=if kT Pg 95 r.v s.v c=true then (WH Pg 95 r.v s.v).map .bool else none:=rfl
 have h2:kT Pg 95 r.v s.v c=true:=K_;rw [h1,h2,if_pos rfl];unfold WH;rw [pl51,if_pos rfl,qO r hr,qO s hs,Gh r s (by rw [hr,hs])];rfl
end Go.Proofs.YtdbgifdfdhhjcaaGreat.wT
namespace Go.Proofs.YtdbgifdfdhhjcaaGreat.Sh
open Go Go.Ab Go.RowKit
open Go.Proofs.YtdbgifdfdhhjcaaGreat.Ru (Pg yL)
set_option maxRecDepth 10000
set_option maxHeartbeats 4000000
set_option linter.unusedSectionVars false
theorem z7e (a b:Ol):wW a.v b.v=some (decide (a=b)):=by
 rw [show wW a.v b.v=some ((a.live == b.live)&&(((a.xu:Int) == (b.xu:Int))&&(((a.ts:Int) == (b.ts:Int))&&((((a.np:Int) == (b.np:Int))&&(((a.ns.toNat:Int) == (b.ns.toNat:Int))&&true))&&((a.dl == b.dl)&&true))))) from
  wT.V8 (wT.xP wT.A1 (wT.xP wT.kY (wT.xP wT.kY (wT.xP (wT.V8 (wT.xP wT.kY (wT.xP wT.kY wT.qX))) (wT.xP wT.z4T wT.qX)))))]
 congr 1;rw [Bool.eq_iff_iff];obtain ⟨a1,a2,a3,a4,a5,a6⟩:=a;obtain ⟨b1,b2,b3,b4,b5,b6⟩:=b;simp only [Bool.and_true,Bool.and_eq_true,beq_iff_eq,decide_eq_true_eq,Ol.mk.injEq];refine ⟨λ⟨h1,h2,h3,⟨h4,h5⟩,h6⟩=>⟨h1,O_,O_,O_,UInt8.toNat_inj.1 O_,h6⟩,λ⟨h1,h2,h3,h4,h5,h6⟩=>⟨h1,O_,O_,⟨O_,by rw [h5]⟩,h6⟩⟩
theorem zbt (a b:Ol) (c:Bool):zi Pg .neq 60 a.v b.v c=some (.bool (!(decide (a=b)))):=by
 have h1:zi Pg .neq 60 a.v b.v c=if kT Pg 60 a.v b.v c=true then (WH Pg 60 a.v b.v).map (λb=>.bool (!b)) else none:=rfl
 have h2:kT Pg 60 a.v b.v c=true:=K_;have h3:yz Pg 20 60=true:=K_;rw [h1,h2,if_pos rfl];unfold WH;rw [h3,if_pos rfl,qh,qh,z7e];rfl
theorem Aj {b:Bool} (h:(!b)=false):b=true:=by cases b <;> simp_all
theorem z0k {b:Bool} (h:(!b)=true):b=false:=by cases b <;> simp_all
def Ol.wG (o:Ol):Bool:=(o.live||decide (o=Ol.z))&&decide (o.dl.length<=66)
def wZ (l:List Ol):Bool:=decide (l.length<=15)&&(match l.getLast? with | some o=>o.live | none=>true)&&l.all Ol.wG&&decide (yG l<=224)
section
variable {h0:AH} {sv:V} {zt:List Ol} {n1:Nat} {u:Un}
theorem zaN (hu:u.zt=zt) (hv:∃ a,sv=.y8 a zt.length) (hb:wZ zt=(zt.all Ol.wG&&decide (yG zt<=224))):∀ (rest pre:List Ol) (m:Nat) (h:AH),zt=pre++rest->rest.length<m->zb [] h0 h->sZ h (vE u.zZ sv) u->h.m n1=some (.cells true (.one 50) (vE u.zZ sv))->n1<h.next->pre.all Ol.wG=true ->
 Db (vC (.bool (wZ zt)) h0) m (.ptr (some ⟨n1,.one 50,[]⟩)) sv (.int .i64 (zt.length:Nat)) (.int .i64 (pre.length:Nat)) h
 | rest,pre,0,h,e,hm,_,_,_,_,_=>by omega
 | [],pre,m+1,h,e,hm,q,b,f1,l1,hp=>by
  rw [List.append_nil] at e;have hlen:zt.length<=1000000:=by rw [<- hu];exact b.ok.len
  rw [RW];refine yD (by rw [e];omega) ?_;apply yZ;refine sm (DV ..) ?_;refine zl f1 K_ (w:=vE u.zZ sv) rfl ?_;refine yf (K5 b) ?_;have s2:=iL b.ok.zt;rw [hu] at s2 ⊢;by_cases g:yG zt<=224
  ·refine lu O_ ?_;refine ⟨?_,q.all⟩;rw [hb,decide_eq_true g,e,hp];rfl
  ·refine bY O_ ?_;refine ⟨?_,q.all⟩;rw [hb,decide_eq_false g,Bool.and_false]
 | o :: rest,pre,m+1,h,e,hm,q,b,f1,l1,hp=>by
  have hlen:zt.length=pre.length+1+rest.length:=by rw [e];simp;omega
  have O5:zt.length<=1000000:=by rw [<- hu];exact b.ok.len
  have o1:o.ok:=b.ok.zt o (by rw [hu,e];simp);have e':zt=(pre++[o])++rest:=by rw [e];simp
  have JS:dH 60 h sv (zt.map Ol.v):=by
   obtain ⟨⟨qL,ev,rb⟩,_⟩:=b;have:qL=sv:=by
    have:=(V.agg.inj ev)
    simp only [List.cons.injEq,and_true] at this;exact this.2.symm
   rw [hu,this] at rb;exact rb
  have d1:=o1.dl;rw [RW];refine xH O_ ?_;apply xz;refine sm (Gy ..) ?_;refine Z9 JS e λh1 n l1' q1 g1 l2=>?_;have b1':sZ h1 (vE u.zZ sv) u:=⟨⟨sv,rfl,by rw [hu];exact JS.zA q1 rfl⟩,b.ok⟩
  have fin:∀ c:Bool,c=!o.wG->zbU (vC (.bool (wZ zt)) h0) m (.ptr (some ⟨n1,.one 50,[]⟩)) sv (.int .i64 (zt.length:Nat)) (.int .i64 (pre.length:Nat)) (.bool c) h1:=by
   intro c hc;subst hc;rw [Hl];refine wJ (λg=>?_) (λg=>?_)
   ·refine ⟨?_,(q.trans q1).all⟩;have gf:o.wG=false:=by simpa using g
    rw [hb,e];simp [gf]
   ·have gf:o.wG=true:=by simpa using g
    refine sm (Bq ..) ?_;refine zE O_ O_ ?_;have:=zaN hu hv hb rest (pre++[o]) m h1 e' (by simp at hm;omega) (q.trans q1) b1' (q1.at f1 l1 rfl) (by have:=q1.next;omega) (by simp [gf];simpa using hp);rw [show (((pre++[o]).length:Nat):Int)=(pre.length:Int)+1 by simp] at this;exact z7.of this
  have nxt:∀ c:Bool,c=(!(o.live||decide (o=Ol.z)))->∀ x y:V,yc x y (.bool false) h1=some (.bool c,h1)->z4f (vC (.bool (wZ zt)) h0) m (.ptr (some ⟨n1,.one 50,[]⟩)) (.ptr (some ⟨n,.one 60,[]⟩)) sv (.int .i64 (zt.length:Nat)) (.int .i64 (pre.length:Nat)) x y h1:=by
   intro c hc x y hxy;rw [RA];refine ze hxy ?_;refine pj (λg=>?_) (λg=>?_)
   ·rw [g];refine zx K_ ?_;refine zl g1 K_ (w:=.str o.dl) rfl ?_;refine xq K_ ?_;have h2:(o.live||decide (o=Ol.z))=true:=Aj (by rw [<- hc];exact g);by_cases g3:o.dl.length<=66
    ·refine xA O_ ?_;refine sm (PJ ..) ?_;apply yi;exact z7.of (fin _ (by unfold Ol.wG;rw [h2,decide_eq_true g3];rfl))
    ·refine vT O_ ?_;refine sm (PJ ..) ?_;apply yi;exact z7.of (fin _ (by unfold Ol.wG;rw [decide_eq_false g3,Bool.and_false];rfl))
   ·rw [g];refine sm (PJ ..) ?_;apply wc;have h2:(o.live||decide (o=Ol.z))=false:=z0k (by rw [<- hc];exact g);exact z7.of (fin _ (by unfold Ol.wG;rw [h2];rfl))
  refine zx K_ ?_;refine zl g1 K_ (w:=.bool o.live) rfl ?_;cases hl:o.live with
  | true =>
   apply wq;apply jo;exact z7.of (nxt false (by rw [hl];rfl) _ _ (by exact j9))
  | false =>
   apply tv;apply sE;refine zl g1 K_ (w:=o.v) rfl ?_;refine z6 bOl ?_;refine z6 (zbt o Ol.z false) ?_;exact z7.of (nxt (!(decide (o=Ol.z))) (by rw [hl];rfl) _ _ (by exact gD))
theorem j7 {h:AH} {v:V} {u:Un} (b:sZ h v u):z0q 67 [v] h (zO (.bool (wZ u.zt)) h):=by
 obtain ⟨⟨sv,rfl,rb⟩,ok⟩:=b;refine yN rfl ?_;show z0q 67 _ h (vC _ h);have hl:=ok.len;refine C67 _ _ _ ?_;refine zq (yl (qN u.zZ rb)) λh1 u1=>?_;have n1:=u1.next;have q1:zb [] h h1:=zb.new u1;have f1:=u1.at_;have NJ:=rb.zA q1 rfl;have b1:sZ h1 (vE u.zZ sv) u:=⟨⟨sv,rfl,NJ⟩,ok⟩
 obtain ⟨a,ea⟩:=NJ.shape;rw [List.length_map] at ea;have Ri:∀ h,zr Pg h .len [48] [sv]=some (.int .i64 u.zt.length,h):=λh=>by rw [ea];exact wa K_
 refine zx K_ ?_;refine zl f1 K_ (w:=sv) rfl ?_;refine ze (Ri h1) ?_
 -- Ja is left when the head is wG
 have go:∀ c:Bool,c=!(decide (u.zt.length<=15)&&(match u.zt.getLast? with | some o=>o.live | none=>true))->zb1 (vC (.bool (wZ u.zt)) h) (.ptr (some ⟨h.next,.one 50,[]⟩)) (.bool c) h1:=by
  intro c hc;subst hc;rw [Em];refine wJ (λg=>?_) (λg=>?_)
  ·refine ⟨?_,q1.all⟩;have g:(decide (u.zt.length<=15)&&(match u.zt.getLast? with | some o=>o.live | none=>true))=false:=z0k g;unfold wZ;rw [g];rfl
  ·have g:(decide (u.zt.length<=15)&&(match u.zt.getLast? with | some o=>o.live | none=>true))=true:=Aj g;refine sm (CO ..) ?_;refine zx K_ ?_;refine zl f1 K_ (w:=sv) rfl ?_;refine ze (Ri h1) ?_;exact ⟨u.zt.length+1,z7.of (zaN (h0:=h) rfl ⟨a,ea⟩ (by unfold wZ;rw [g,Bool.true_and]) u.zt [] _ h1 rfl O_ q1 b1 f1 O_ rfl)⟩
 by_cases g15:u.zt.length<=15
 ·rw [decide_eq_true g15] at go;refine xA O_ ?_;apply xc;refine zx K_ ?_;refine zl f1 K_ (w:=sv) rfl ?_;refine ze (Ri h1) ?_;cases hg:u.zt.getLast? with
  | none =>
   have dQ:u.zt=[]:=List.getLast?_eq_none_iff.1 hg;rw [hg] at go;rw [dQ];refine xA S_ ?_;refine sm (Xx ..) ?_;apply jo;refine sm (Ef ..) ?_;apply xc;apply yi;refine sm (Xh ..) ?_;apply yi;have:=go false rfl;rw [dQ] at this;exact z7.of this
  | some o =>
   rw [hg] at go;have J1:0<u.zt.length:=by cases hq:u.zt with | nil=>rw [hq] at hg;cases hg | cons a b=>simp
   have hgt:u.zt[u.zt.length-1]?=some o:=by rw [<- List.getLast?_eq_getElem?];exact hg
   refine vT O_ ?_;refine sm (Xx ..) ?_;apply sE;refine zx K_ ?_;refine zl f1 K_ (w:=sv) rfl ?_;refine zx K_ ?_;refine zl f1 K_ (w:=sv) rfl ?_;refine ze (Ri h1) ?_;refine rQ O_ O_ ?_;have hgv:(u.zt.map Ol.v)[u.zt.length-1]?=some o.v:=by rw [List.getElem?_map,hgt];rfl
   obtain ⟨r,ys,r1,r2,r3,hgv2⟩:=NJ.get hgv;rw [List.length_map] at r2;rw [r2];refine z6 (xW _ K_ O_ O_) ?_;refine zx K_ ?_;have ei:0+((u.zt.length:Int)-1).toNat=u.zt.length-1:=O_;refine zl r3 K_ (w:=.bool o.live) (by
    rw [ei];show yF (.agg (u.zt.map Ol.v++ys)) [u.zt.length-1,0]=_;simp only [yF,hgv2];rfl) ?_
   refine z6 (show qd .not (.bool o.live)=some (.bool (!o.live)) from rfl) ?_;refine sm (Ef ..) ?_;apply xc;apply wc;refine sm (Xh ..) ?_;apply yi;exact z7.of (go _ S_)
 ·rw [decide_eq_false g15] at go;refine vT O_ ?_;apply tA;refine sm (Xx ..) ?_;apply aQ;refine sm (Ef ..) ?_;apply tA;refine sm (Xh ..) ?_;apply wc;exact z7.of (go true rfl)
end
end Go.Proofs.YtdbgifdfdhhjcaaGreat.Sh
namespace Go.Proofs.YtdbgifdfdhhjcaaGreat.wT
open Go Go.Ab Go.RowKit
open Go.Proofs.YtdbgifdfdhhjcaaGreat.Ru (Pg yL)
open Go.Proofs.YtdbgifdfdhhjcaaGreat.Sh
set_option maxRecDepth 10000
set_option maxHeartbeats 2000000
def rz (k:Int):V:=(Rc.z k).v
theorem Rj:xk Pg 95=some (rz 0):=K_
theorem Qi (k:Int):zD Pg 95 [(0,.int .u8 k)]=some (rz k):=K_
theorem V9 (k:Int):zf Pg (rz k) 95=true:=qO _ (List.length_replicate ..)
theorem dV (n:Int):zD Pg 43 [(0,.bool true),(1,.int .u16 n)]=some (vPg true n):=K_
theorem z66 (r:Rc) (hi:r.im.length=224) (q:yO->Prop) (c:q (.ret r.bare.v)):za Pg 133 [r.v] xD λe _=>q e:=by
 refine C133 _ r.v xD ?_
 repeat' (first
  | (with_reducible refine ze (pH (by first | with_unfolding_all exact qO _ hi | with_unfolding_all exact V9 _ | with_unfolding_all exact LA hi | kernel_rfl)) ?_)
  | (with_reducible refine ze (jd Rj (V9 0)) ?_)
  | (with_reducible refine z6 (Qi _) ?_)
  | (with_reducible refine And.intro (zR W_ K_ W_) ?_)
  | (with_reducible refine z6 dV ?_)
  | (with_reducible refine zg (dV _) ?_)
  | (with_reducible refine yr W_ ?_)
  | (with_reducible refine z6 (yM K_) ?_)
  | (with_reducible refine zg (yM K_) ?_)
  | (with_reducible refine ze (zR W_ K_ W_) ?_)
  | (with_reducible refine zN (zR W_ K_ W_) ?_)
  | (with_reducible refine ze (ru W_ K_ W_ (by first | with_unfolding_all exact qO _ hi | with_unfolding_all exact V9 _ | with_unfolding_all exact LA hi | kernel_rfl) W_) ?_)
  | (with_reducible refine z6 d6 ?_)
  | (with_reducible refine zg d6 ?_)
  | (with_reducible refine z6 iF ?_)
  | (with_reducible refine zg iF ?_)
  | (with_reducible refine z6 Z3 ?_)
  | (with_reducible refine zg Z3 ?_)
  | (with_reducible refine z6 qe ?_)
  | (with_reducible refine zg qe ?_)
  | (with_reducible refine z6 nl ?_)
  | (with_reducible refine zg nl ?_)
  | (with_reducible refine z6 vq ?_)
  | (with_reducible refine zg vq ?_)
  | (with_reducible refine z6 eH ?_)
  | (with_reducible refine zg eH ?_)
  | (with_reducible refine z6 qI ?_)
  | (with_reducible refine zg qI ?_)
  | (with_reducible refine z6 rB ?_)
  | (with_reducible refine zg rB ?_)
  | (with_reducible refine z6 aN ?_)
  | (with_reducible refine zg aN ?_)
  | (with_reducible refine z6 bP ?_)
  | (with_reducible refine zg bP ?_)
  | (with_reducible refine z6 mT ?_)
  | (with_reducible refine zg mT ?_)
  | (with_reducible refine z6 (Qz D_) ?_)
  | (with_reducible refine z6 (Uz D_) ?_)
  | (with_reducible refine z6 (xV .u64 K_) ?_)
  | (with_reducible refine zg (xV .u64 K_) ?_)
  | (with_reducible refine z6 (xV .i64 K_) ?_)
  | (with_reducible refine zg (xV .i64 K_) ?_)
  | (with_reducible refine z6 (xV .u8 K_) ?_)
  | (with_reducible refine zg (xV .u8 K_) ?_)
  | (with_reducible refine z6 (xV .u16 K_) ?_)
  | (with_reducible refine zg (xV .u16 K_) ?_)
  | (with_reducible refine z6 (xV .u32 K_) ?_)
  | (with_reducible refine zg (xV .u32 K_) ?_)
  | (with_reducible refine ze (ue K_) ?_)
  | (with_reducible refine zN (ue K_) ?_)
  | (with_reducible refine ze gD ?_)
  | (with_reducible refine zN gD ?_)
  | (with_reducible refine ze j9 ?_)
  | (with_reducible refine zN j9 ?_)
  | (with_reducible refine ze (fP _ _ _ _) ?_)
  | (with_reducible refine zN (fP _ _ _ _) ?_)
  | (with_reducible refine sE ?_)
  | (with_reducible refine jo ?_)
  | (with_reducible refine tA ?_)
  | (with_reducible refine xc ?_)
  | (with_reducible refine aQ ?_)
  | (with_reducible refine xz ?_)
  | (with_reducible refine yZ ?_)
  | ((with_reducible refine wJ ?_ ?_) <;> intro hb <;> (try rw [hb]))
  | ((with_reducible refine qY ?_ ?_) <;> intro hb <;> (try rw [hb]))
  | ((with_reducible refine pj ?_ ?_) <;> intro hb <;> (try rw [hb]))
  | (with_reducible refine sm (FN _ _ _ _) ?_)
  | (with_reducible refine sm (HD _ _ _ _ _) ?_)
  | (with_reducible refine sm (EU _ _ _ _ _) ?_)
  | (with_reducible refine sm (Iv _ _ _ _ _) ?_)
  | (with_reducible refine sm (Be _ _ _ _ _) ?_)
  | (with_reducible refine sm (Gc _ _ _ _ _) ?_)
  | (with_reducible refine sm (IM _ _ _ _) ?_)
  | (with_reducible refine sm (z3T _ _ _ _ _ _) ?_)
  | (with_reducible refine sm (EC _ _ _ _ _ _ _) ?_)
  | (with_reducible refine sm (Fb _ _ _ _ _ _) ?_)
  | (with_reducible refine sm (Ev _ _ _ _ _ _) ?_)
  | (with_reducible refine sm (Fc _ _ _ _ _ _) ?_)
  )
 all_goals (
  simp only [beq_iff_eq,beq_eq_false_iff_ne,ne_eq] at *;unfold Rc.bare at c
  repeat (first | rw [if_pos (by assumption)] at c | rw [if_neg (by assumption)] at c)
  first | exact c | with_unfolding_all exact c)
theorem z7d (r:Rc) (hi:r.im.length=224) (h:AH):za Pg 133 [r.v] h (zO r.bare.v h):=xa (gQ r) (yR _) (z66 r hi _ rfl) h
theorem conv {q:yO->Prop} {a b:Bool} (c:q (.ret (.bool a))) (e:a=b):q (.ret (.bool b)):=e▸c
def Rc.may (r:Rc):Bool:=decide (1<=r.k)&&decide (r.k<=6)&&decide (r.bare=r)&&decide (r.dl.length<=66)&&decide (r.od.length<=66)
theorem mayC (r:Rc) (hi:r.im.length=224) (q:yO->Prop) (c:q (.ret (.bool r.may))):za Pg 89 [r.v] xD λe _=>q e:=by
 refine C89 _ r.v xD ?_
 repeat' (first
  | (refine ⟨_,z7d _ hi _,?_⟩)
  | (with_reducible refine zg (eq51 _ _ (Rc.A0 _ hi) hi _) ?_)
  | (with_reducible refine ze (pH (by first | with_unfolding_all exact qO _ hi | with_unfolding_all exact V9 _ | with_unfolding_all exact LA hi | kernel_rfl)) ?_)
  | (with_reducible refine ze (jd Rj (V9 0)) ?_)
  | (with_reducible refine z6 (Qi _) ?_)
  | (with_reducible refine And.intro (zR W_ K_ W_) ?_)
  | (with_reducible refine z6 dV ?_)
  | (with_reducible refine zg (dV _) ?_)
  | (with_reducible refine yr W_ ?_)
  | (with_reducible refine z6 (yM K_) ?_)
  | (with_reducible refine zg (yM K_) ?_)
  | (with_reducible refine ze (zR W_ K_ W_) ?_)
  | (with_reducible refine zN (zR W_ K_ W_) ?_)
  | (with_reducible refine ze (ru W_ K_ W_ (by first | with_unfolding_all exact qO _ hi | with_unfolding_all exact V9 _ | with_unfolding_all exact LA hi | kernel_rfl) W_) ?_)
  | (with_reducible refine z6 d6 ?_)
  | (with_reducible refine zg d6 ?_)
  | (with_reducible refine z6 iF ?_)
  | (with_reducible refine zg iF ?_)
  | (with_reducible refine z6 Z3 ?_)
  | (with_reducible refine zg Z3 ?_)
  | (with_reducible refine z6 qe ?_)
  | (with_reducible refine zg qe ?_)
  | (with_reducible refine z6 nl ?_)
  | (with_reducible refine zg nl ?_)
  | (with_reducible refine z6 vq ?_)
  | (with_reducible refine zg vq ?_)
  | (with_reducible refine z6 eH ?_)
  | (with_reducible refine zg eH ?_)
  | (with_reducible refine z6 qI ?_)
  | (with_reducible refine zg qI ?_)
  | (with_reducible refine z6 rB ?_)
  | (with_reducible refine zg rB ?_)
  | (with_reducible refine z6 aN ?_)
  | (with_reducible refine zg aN ?_)
  | (with_reducible refine z6 bP ?_)
  | (with_reducible refine zg bP ?_)
  | (with_reducible refine z6 mT ?_)
  | (with_reducible refine zg mT ?_)
  | (with_reducible refine z6 (Qz D_) ?_)
  | (with_reducible refine z6 (Uz D_) ?_)
  | (with_reducible refine z6 (xV .u64 K_) ?_)
  | (with_reducible refine zg (xV .u64 K_) ?_)
  | (with_reducible refine z6 (xV .i64 K_) ?_)
  | (with_reducible refine zg (xV .i64 K_) ?_)
  | (with_reducible refine z6 (xV .u8 K_) ?_)
  | (with_reducible refine zg (xV .u8 K_) ?_)
  | (with_reducible refine z6 (xV .u16 K_) ?_)
  | (with_reducible refine zg (xV .u16 K_) ?_)
  | (with_reducible refine z6 (xV .u32 K_) ?_)
  | (with_reducible refine zg (xV .u32 K_) ?_)
  | (with_reducible refine ze (ue K_) ?_)
  | (with_reducible refine zN (ue K_) ?_)
  | (with_reducible refine ze gD ?_)
  | (with_reducible refine zN gD ?_)
  | (with_reducible refine ze j9 ?_)
  | (with_reducible refine zN j9 ?_)
  | (with_reducible refine ze (fP _ _ _ _) ?_)
  | (with_reducible refine zN (fP _ _ _ _) ?_)
  | (with_reducible refine sE ?_)
  | (with_reducible refine jo ?_)
  | (with_reducible refine tA ?_)
  | (with_reducible refine xc ?_)
  | (with_reducible refine aQ ?_)
  | (with_reducible refine xz ?_)
  | (with_reducible refine yZ ?_)
  | ((with_reducible refine wJ ?_ ?_) <;> intro hb <;> (try rw [hb]))
  | ((with_reducible refine qY ?_ ?_) <;> intro hb <;> (try rw [hb]))
  | ((with_reducible refine pj ?_ ?_) <;> intro hb <;> (try rw [hb]))
  | (with_reducible refine sm (Ww _ _ _) ?_)
  | (with_reducible refine sm (Ws _ _ _ _) ?_)
  | (with_reducible refine sm (Wf _ _ _ _ _) ?_)
  | (with_reducible refine sm (Wx _ _ _ _ _) ?_)
  | (with_reducible refine sm (dW _ _ _ _ _) ?_)
  )
 all_goals (
  refine conv c ?_;unfold Rc.may;simp only [ge_iff_le] at *
  first
   | (simp only [*,Bool.and_true,Bool.true_and,Bool.and_false,Bool.false_and];done)
   | (simp only [*,Bool.and_true,Bool.true_and,Bool.and_false,Bool.false_and];rw [Bool.eq_iff_iff];simp only [decide_eq_true_eq,Bool.false_eq_true,iff_false,Bool.and_eq_true,decide_eq_false_iff_not] at *;omega))
theorem tE (r:Rc) (hi:r.im.length=224) (h:AH):za Pg 89 [r.v] h (zO (.bool r.may) h):=xa (gQ r) rfl (mayC r hi _ rfl) h
def mA (v:Int) (i:Int):UInt8:=UInt8.ofNat (IntKind.u8.wrap (ZM .u64 v (IntKind.i64.wrap (8*i)))).toNat
theorem z3M (q:yO->Prop) (v:Int):vc Pg ZZ ZX .leaf (zn Pg ZR (λe _=>q e)) (zC 0 [.int .u64 v,.int .i64 2]) xD=q (.ret (.str [mA v 0,mA v 1])):=K_
theorem z32 (q:yO->Prop) (v:Int):vc Pg ZZ ZX .leaf (zn Pg ZR (λe _=>q e)) (zC 0 [.int .u64 v,.int .i64 4]) xD=q (.ret (.str [mA v 0,mA v 1,mA v 2,mA v 3])):=K_
theorem Ar (x:Int):IntKind.u8.wrap x=x%256:=rfl
def lay:Nat->Int->List UInt8
 | 0,_=>[]
 | n+1,v=>UInt8.ofNat (v%256).toNat :: lay n (v/256)
theorem Q4 (v:Int):mA v 0=UInt8.ofNat (v%256).toNat/\mA v 1=UInt8.ofNat (v/256%256).toNat/\mA v 2=UInt8.ofNat (v/256/256%256).toNat/\mA v 3=UInt8.ofNat (v/256/256/256%256).toNat:=by
 have e (i:Int) (n:Nat) (h:min (IntKind.i64.wrap (8*i)).toNat 64=n):mA v i=UInt8.ofNat (v/2 ^ n%256).toNat:=by
  unfold mA ZM;rw [Ar];have:IntKind.u64.bits=64:=rfl;rw [this,h]
 refine ⟨?_,?_,?_,?_⟩
 ·rw [e 0 0 D_];congr 2;simp
 ·rw [e 1 8 D_];congr 2
 ·rw [e 2 16 D_];congr 2;omega
 ·rw [e 3 24 D_];congr 2;omega
theorem zaa (q:yO->Prop) (v:Int) (c:q (.ret (.str [mA v 0,mA v 1]))):za Pg 129 [.int .u64 v,.int .i64 2] xD λe _=>q e :=
 ny yL Tryz.func129 (show Tryz.f129.body=some ZX from K_) .leaf ZZ ZR rfl K_ (by rw [z3M q v];exact c)
theorem zat (q:yO->Prop) (v:Int) (c:q (.ret (.str [mA v 0,mA v 1,mA v 2,mA v 3]))):za Pg 129 [.int .u64 v,.int .i64 4] xD λe _=>q e :=
 ny yL Tryz.func129 (show Tryz.f129.body=some ZX from K_) .leaf ZZ ZR rfl K_ (by rw [z32 q v];exact c)
theorem LB (v:Int) (h:AH):za Pg 129 [.int .u64 v,.int .i64 2] h (zO (.str (lay 2 v)) h):=by
 refine xa rfl rfl (zaa _ v ?_) h;obtain ⟨h0,h1,_,_⟩:=Q4 v;rw [h0,h1];rfl
theorem Av (v:Int) (h:AH):za Pg 129 [.int .u64 v,.int .i64 4] h (zO (.str (lay 4 v)) h):=by
 refine xa rfl rfl (zat _ v ?_) h;obtain ⟨h0,h1,h2,h3⟩:=Q4 v;rw [h0,h1,h2,h3];rfl
def b1 (v:Int):UInt8:=UInt8.ofNat (v%256).toNat
theorem bs1 (h:AH) (x:Int):yp Pg h 154 1 [(0,.int .u8 x)]=some (.y8 (some (⟨h.next,.row 5,[]⟩,0)) 1,h.make (.cells true (.row 5) (.agg [.int .u8 x]))):=K_
theorem bs1c (x:Int):y9 Pg (xD.make (.cells true (.row 5) (.agg [.int .u8 x]))) 154 9 (.y8 (some (⟨xD.next,.row 5,[]⟩,0)) 1)=some (.str [UInt8.ofNat x.toNat]):=K_
theorem z8X (x:Int):oB Pg 154 1 [(0,.int .u8 x)] 154 9=some (.str [UInt8.ofNat x.toNat]):=K_
theorem z3P (s:List UInt8) (hs:s.length<1000000) (q:yO->Prop) (c:q (.ret (.str (b1 s.length :: s)))):za Pg 130 [.str s] xD λe _=>q e:=by
 refine C130 _ _ xD ?_;refine ze (ue K_) ?_;refine z6 (xV .u8 K_) ?_;refine ze (bs1 _ _) ?_;refine z6 (bs1c _) ?_;refine z6 (qg (by simp only [List.length_singleton];omega)) ?_;rw [Ar];exact c
theorem SB (s:List UInt8) (hs:s.length<1000000) (h:AH):za Pg 130 [.str s] h (zO (.str (b1 s.length :: s)) h):=xa rfl rfl (z3P s hs _ rfl) h
theorem z9Z (p s:Int):zf Pg (uL p s) 58=true:=K_
theorem refC (p s:Int) (q:yO->Prop) (c:q (.ret (.str (lay 2 (IntKind.u64.wrap p)++[UInt8.ofNat s.toNat])))):za Pg 131 [uL p s] xD λe _=>q e:=by
 refine C131 _ _ xD ?_;refine ze (pH (z9Z p s)) ?_;refine zg (yM K_) ?_;refine zN (zR rfl K_ rfl) ?_;refine zg (xV .u64 K_) ?_;refine ⟨_,LB _ _,?_⟩;refine zg (yM K_) ?_;refine zN (zR rfl K_ rfl) ?_;refine wM (z8X _) ?_;refine zg (qg (by simp [lay])) ?_;exact c
theorem refP (p s:Int) (h:AH):za Pg 131 [uL p s] h (zO (.str (lay 2 (IntKind.u64.wrap p)++[UInt8.ofNat s.toNat])) h):=xa rfl rfl (refC p s _ rfl) h
end Go.Proofs.YtdbgifdfdhhjcaaGreat.wT
namespace Go.Proofs.YtdbgifdfdhhjcaaGreat.Sh
open Go Go.Ab Go.RowKit
open Go.Proofs.YtdbgifdfdhhjcaaGreat.Ru (Pg yL)
set_option maxRecDepth 10000
set_option maxHeartbeats 4000000
set_option linter.unusedSectionVars false
def Ol.enc (o:Ol):List UInt8:=if o.live then [1]++xd o.xu 2++xd o.ts 4++xd o.np 2++[o.ns,UInt8.ofNat o.dl.length]++o.dl else [0]
theorem nN (o:Ol):o.enc.length=o.sz:=by
 unfold Ol.enc Ol.sz;split <;> simp [xL] <;> omega
def pX (l:List Ol):List UInt8:=l.flatMap Ol.enc
theorem VW (l:List Ol):16+(pX l).length=yG l:=by
 unfold pX yG;induction l with
 | nil=>rfl
 | cons o l ih =>
  simp only [List.flatMap_cons,List.length_append,List.map_cons,List.sum_cons,nN];omega
theorem OI (l:List Ol) (o:Ol):pX (l++[o])=pX l++o.enc:=by unfold pX;simp
def kQ (n:Nat) (l:List Ol):List UInt8:=(xM 15++[UInt8.ofNat n]++pX l)++xM (224-yG l)
def OL (l:List Ol):List UInt8:=kQ l.length l
theorem it {n:Nat} {l:List Ol} (h:yG l<=224):(kQ n l).length=224:=by
 have:=VW l;unfold kQ;simp only [List.length_append,zI,List.length_singleton];omega
def tg (no:Nat) (u:Un):List UInt8:=rC 2 no u.zZ (OL u.zt)
theorem pK {no:Nat} {u:Un} (h:wZ u.zt=true):(tg no u).length=224:=by
 unfold wZ at h;simp only [Bool.and_eq_true,decide_eq_true_eq] at h;exact pe (it h.2)
def mM (no:Nat) (u:Un):V:=if wZ u.zt then .yX [.agg (zd (tg no u)),.int .i64 0] else .yX [.agg (zd (xM 224)),.int .i64 1]
theorem lit2 (x y:Int):oB Pg 154 2 [(0,.int .u8 x),(1,.int .u8 y)] 154 9=some (.str [UInt8.ofNat x.toNat,UInt8.ofNat y.toNat]):=K_
section
variable {h0:AH} {sv:V} {zt:List Ol} {n1 n3 n6 no:Nat} {u:Un}
theorem AT (hu:u.zt=zt) (vk:no<65536) (hm:wZ zt=true):∀ (rest pre:List Ol) (m:Nat) (h:AH),zt=pre++rest->rest.length<m->zb [] h0 h->sZ h (vE u.zZ sv) u->h.m n1=some (.cells true (.one 50) (vE u.zZ sv))->n1<h.next->(∃ w,h.m n3=some (.cells true (.one 33) w))->n3<h.next->h0.next<=n3->n3≠n6 ->
 h.m n6=some (.cells true (.one 33) (.agg (zd (kQ zt.length pre))))->n6<h.next->h0.next<=n6 ->
 z4w (vC (mM no u) h0) m (.int .u16 no) (.ptr (some ⟨n1,.one 50,[]⟩)) (VC n3) (VC n6) (.int .i64 (yG pre:Nat)) sv (.int .i64 (zt.length:Nat)) (.int .i64 (pre.length:Nat)) h
 | rest,pre,0,h,e,hm,_,_,_,_,_,_,_,_,_,_,_=>by omega
 | [],pre,m+1,h,e,hmm,q,b,f1,l1,f3,l3,y3,ne,f6,l6,y6=>by
  rw [List.append_nil] at e;subst e;have hs:yG zt<=224:=by
   unfold wZ at hm;simp only [Bool.and_eq_true,decide_eq_true_eq] at hm;exact hm.2
  have hl:=b.ok.zZ;have bl:(kQ zt.length zt).length=224:=it hs;rw [z0X];refine yD O_ ?_;apply yZ;refine sm (HC ..) ?_;refine zx K_ ?_;refine zl f1 K_ (w:=.int .u64 u.zZ) rfl ?_;refine zl f6 K_ (w:=.agg (zd (kQ zt.length zt))) rfl ?_;refine yf (MY (kind:=2) bl vk hl h) ?_;obtain ⟨w,f3⟩:=f3;have el:(tg no u).length=224:=pK (by rw [hu];exact hm);have ep:rC 2 no u.zZ (kQ zt.length zt)=tg no u:=by unfold tg OL;rw [hu]
  rw [ep];refine zq (zM (p:=[]) f3 K_ rfl (xf el) rfl) λh7 u7=>?_;have e1:=zR (P:=Pg) (t:=33) (p:=[]) u7.at_ K_ (w:=.agg (zd (tg no u))) rfl;simp only [z9] at e1;have e2:=(zK e1).1;refine yr (show zX Pg _ _ Fu=some [.agg (zd (tg no u)),.int .i64 0] by simp [Fu,zX,zJ.get,e2]) ?_;refine ⟨?_,(q.ya u7 y3).all⟩;unfold mM;rw [hu,if_pos hm];rfl
 | o :: rest,pre,m+1,h,e,hmm,q,b,f1,l1,f3,l3,y3,ne,f6,l6,y6=>by
  have hlen:zt.length=pre.length+1+rest.length:=by rw [e];simp;omega
  have O5:zt.length<=1000000:=by rw [<- hu];exact b.ok.len
  have o1:o.ok:=b.ok.zt o (by rw [hu,e];simp);have e':zt=(pre++[o])++rest:=by rw [e];simp
  have s0:yG zt<=224:=by
   unfold wZ at hm;simp only [Bool.and_eq_true,decide_eq_true_eq] at hm;exact hm.2
  have s1:yG (pre++[o])=yG pre+o.sz:=by rw [kE];simp
  have s3:yG pre+o.sz<=224:=by
   have:yG zt=yG pre+o.sz+(rest.map Ol.sz).sum:=by rw [e,kE];simp;omega
   omega
  have d66:o.dl.length<=223:=by
   by_cases g:o.live=true
   ·have:o.sz=1+(10+o.dl.length):=by unfold Ol.sz;rw [if_pos g]
    omega
   ·have hf:o.wG=true:=by
     unfold wZ at hm;simp only [Bool.and_eq_true,decide_eq_true_eq] at hm;exact List.all_eq_true.1 hm.1.2 o (by rw [e];simp)
    unfold Ol.wG at hf;simp only [Bool.and_eq_true,decide_eq_true_eq] at hf;omega
  have JS:dH 60 h sv (zt.map Ol.v):=by
   obtain ⟨⟨qL,ev,rb⟩,_⟩:=b;have:qL=sv:=by
    have:=(V.agg.inj ev)
    simp only [List.cons.injEq,and_true] at this;exact this.2.symm
   rw [hu,this] at rb;exact rb
  rw [z0X];refine xH O_ ?_;apply xz;refine sm (GN ..) ?_;refine Z9 JS e λh1 n l1' q1 g1 l2=>?_;have n1':=q1.next;have b1:sZ h1 (vE u.zZ sv) u:=⟨⟨sv,rfl,by rw [hu];exact JS.zA q1 rfl⟩,b.ok⟩
  have f61:=q1.at f6 l6 rfl;have bl:(kQ zt.length pre).length=224:=it O_
  -- the text is copied
  have fin:z6j (vC (mM no u) h0) m (.int .u16 no) (.ptr (some ⟨n1,.one 50,[]⟩)) (VC n3) (VC n6) (.int .i64 (yG pre:Nat)) (.str o.enc) sv (.int .i64 (zt.length:Nat)) (.int .i64 (pre.length:Nat)) h1:=by
   rw [Bb];refine z6 (eX (lo:=some (.int .i64 (yG pre:Nat))) (hi:=none) (n:=224) f61 K_ (a:=yG pre) (b:=224) (tU O_) rfl O_ O_) ?_;refine zq (nL (ws:=o.enc) f61 K_ O_) λh2 u2=>?_;have n2:=u2.next;have em:min o.enc.length (224-yG pre)=o.sz:=by rw [nN];omega
   rw [em];refine zE O_ O_ ?_;refine sm (z4u ..) ?_;refine zE O_ O_ ?_;have ec:wS (kQ zt.length pre) (yG pre) (224-yG pre) o.enc=kQ zt.length (pre++[o]):=by
    unfold kQ;have ea:(xM 15++[UInt8.ofNat zt.length]++pX pre).length=yG pre:=by
     have:=VW pre;simp only [List.length_append,zI,List.length_singleton];omega
    have h1:wS ((xM 15++[UInt8.ofNat zt.length]++pX pre)++xM (224-yG pre)) (yG pre) (224-yG pre) o.enc=wS ((xM 15++[UInt8.ofNat zt.length]++pX pre)++xM (224-yG pre)) (xM 15++[UInt8.ofNat zt.length]++pX pre).length o.sz o.enc:=by
     rw [ea];unfold wS;rw [em,show min o.enc.length o.sz=o.sz by rw [nN];omega]
    rw [h1,Vq _ _ _ _ (by rw [nN];omega) O_,s1,OI,List.take_of_length_le (by rw [nN];omega),show 224-yG pre-o.sz=224-(yG pre+o.sz) by omega];simp only [List.append_assoc]
   have f62:h2.m n6=some (.cells true (.one 33) (.agg (zd (kQ zt.length (pre++[o]))))):=by rw [<- ec];exact u2.at_
   have q2:zb [(0,33,0)] h1 h2:=zb.vP u2 f61 rfl rfl;have b2:sZ h2 (vE u.zZ sv) u:=⟨⟨sv,rfl,by rw [hu];exact (JS.zA q1 rfl).zA q2 rfl⟩,b.ok⟩
   obtain ⟨w,f3⟩:=f3;have:=AT hu vk hm rest (pre++[o]) m h2 e' (by simp at hmm;omega) ((q.trans q1).ya u2 y6) b2 (q2.at (q1.at f1 l1 rfl) O_ rfl) O_ ⟨w,(u2.other _ ne).trans (q1.at f3 l3 rfl)⟩ O_ y3 ne f62 O_ y6;rw [show (((pre++[o]).length:Nat):Int)=(pre.length:Int)+1 by simp,show ((yG (pre++[o]):Nat):Int)=(yG pre:Int)+(o.sz:Nat) by rw [s1];omega] at this;exact z7.of this
  refine zx K_ ?_;refine zl g1 K_ (w:=.bool o.live) rfl ?_;cases hl:o.live with
  | false =>
   have ee:o.enc=[0]:=by unfold Ol.enc;rw [if_neg (by rw [hl];decide)]
   rw [ee] at fin;exact yZ (z7.of fin)
  | true =>
   have ee:o.enc=[1]++xd o.xu 2++xd o.ts 4++xd o.np 2++[o.ns,UInt8.ofNat o.dl.length]++o.dl:=by unfold Ol.enc;rw [if_pos hl]
   rw [ee] at fin;have p1:=o1.xu;have p2:=o1.ts;have p3:=o1.np;have p4:=o.ns.toNat_lt;apply xz;refine ym K_ ?_;refine zY g1 K_ (w:=.int .u16 o.xu) rfl ?_;refine oU E_ O_ O_ ?_;refine ⟨_,Ye o.xu h1,?_⟩;refine zg (qg (by simp [xL])) ?_;refine ym K_ ?_;refine zY g1 K_ (w:=.int .u32 o.ts) rfl ?_;refine oU E_ O_ O_ ?_;refine ⟨_,Pc o.ts h1,?_⟩;refine zg (qg (by simp [xL])) ?_;refine ym K_ ?_;refine ym K_ ?_;refine zY g1 K_ (w:=.int .u16 o.np) rfl ?_;refine oU E_ O_ O_ ?_;refine ⟨_,Ye o.np h1,?_⟩;refine zg (qg (by simp [xL])) ?_;refine ym K_ ?_;refine ym K_ ?_;refine zY g1 K_ (w:=.int .u8 o.ns.toNat) rfl ?_;refine ym K_ ?_;refine zY g1 K_ (w:=.str o.dl) rfl ?_;refine jP K_ ?_;refine Zg E_ O_ O_ ?_;refine wM (lit2 _ _) ?_;have en:UInt8.ofNat ((o.ns.toNat:Int).toNat)=o.ns:=S_;have ed:UInt8.ofNat ((o.dl.length:Int).toNat)=UInt8.ofNat o.dl.length:=S_;rw [en,ed];refine zg (qg (by simp [xL])) ?_;refine ym K_ ?_;refine zY g1 K_ (w:=.str o.dl) rfl ?_;refine zg (qg (by simp [xL];omega)) ?_;exact z7.of fin
theorem AM {h:AH} {v:V} {u:Un} (b:sZ h v u) {no:Nat} (vk:no<65536):z0q 96 [.int .u16 no,v] h (zO (mM no u) h):=by
 obtain ⟨⟨sv,rfl,rb⟩,ok⟩:=b;have ho:tK (λn=>(h.m n).isSome) (mM no u)=true:=by
  unfold mM;split <;> (show oh _ [_,_]=true;have e:=rE (λn=>(h.m n).isSome);simp only [tK] at e;simp only [oh,tK,e,Bool.and_self])
 refine yN ho ?_;show z0q 96 _ h (vC _ h);have hl:=ok.len;refine C96 _ _ _ _ ?_;refine zq (yl (qN u.zZ rb)) λh1 u1=>?_;have n1:=u1.next;have q1:zb [] h h1:=zb.new u1;refine zq (yA na (xf (zI 224))) λh2 u2=>?_;have n2:=u2.next;have q2:zb [] h1 h2:=zb.new u2;have cL:=q1.trans q2;have f1:=q2.at u1.at_ O_ rfl;have f3:=u2.at_;have b2:sZ h2 (vE u.zZ sv) u:=⟨⟨sv,rfl,rb.zA cL rfl⟩,ok⟩
 refine zl f1 K_ (w:=vE u.zZ sv) rfl ?_;refine yf (j7 b2) ?_;cases hm:wZ u.zt with
 | false =>
  apply tv;apply xz;refine z6 (show zD Pg 33 []=some (.agg (zd (xM 224))) by kernel_rfl) ?_;refine zq (zM (p:=[]) f3 K_ rfl (xf (zI 224)) rfl) λh7 u7=>?_;have e1:=zR (P:=Pg) (t:=33) (p:=[]) u7.at_ K_ (w:=.agg (zd (xM 224))) rfl;simp only [z9] at e1;have e2:=(zK e1).1;refine yr (show zX Pg _ _ Fu=some [.agg (zd (xM 224)),.int .i64 1] by simp [Fu,zX,zJ.get,e2]) ?_;refine ⟨?_,(cL.ya u7 O_).all⟩;unfold mM;rw [hm];rfl
 | true =>
  have h15:u.zt.length<=15:=by
   unfold wZ at hm;simp only [Bool.and_eq_true,decide_eq_true_eq] at hm;exact hm.1.1.1
  apply wq;apply yZ;refine sm (FV ..) ?_;refine zq (yA na (xf (zI 224))) λh3 u3=>?_;have n3:=u3.next;have q3:zb [] h2 h3:=zb.new u3;have g1:=q3.at f1 O_ rfl;have b3:sZ h3 (vE u.zZ sv) u:=⟨⟨sv,rfl,rb.zA (cL.trans q3) rfl⟩,ok⟩
  obtain ⟨a,ea⟩:=rb.shape;rw [List.length_map] at ea;have Ri:∀ h,zr Pg h .len [48] [sv]=some (.int .i64 u.zt.length,h):=λh=>by rw [ea];exact wa K_
  refine zx K_ ?_;refine zl g1 K_ (w:=sv) rfl ?_;refine ze (Ri h3) ?_;refine bX E_ O_ O_ ?_;refine z6 (show zy Pg 33 (.ptr (some ⟨h2.next,.one 33,[]⟩)) (.int .i64 15)=some _ from pF 224 5 K_ O_ O_) ?_;have e15:(UInt8.ofNat u.zt.length).toNat=u.zt.length:=by rw [UInt8.toNat_ofNat_of_lt' (by simp [UInt8.size];omega)]
  refine zq (zM u3.at_ K_ (mJ (i:=15) (by rw [zI];omega)) K_ (by
   have:=Qk (l:=xM 224) (i:=15) (by rw [zI];omega) (UInt8.ofNat u.zt.length);rw [e15] at this;exact this)) λh4 u4=>?_
  have n4:=u4.next;have q4:zb [] h h4:=(cL.trans q3).ya u4 O_;have q34:zb [] h1 h4:=(q2.trans q3).ya u4 O_;have g41:=q34.at u1.at_ O_ rfl;have b4:sZ h4 (vE u.zZ sv) u:=⟨⟨sv,rfl,rb.zA q4 rfl⟩,ok⟩
  have g43:h4.m h1.next=some (.cells true (.one 33) (.agg (zd (xM 224)))):=(u4.other _ O_).trans (q3.at f3 O_ rfl);have eb:(xM 224).set 15 (UInt8.ofNat u.zt.length)=kQ u.zt.length []:=by
   have:=Px (xM 15) 208 (UInt8.ofNat u.zt.length);have e1:xM 15++xM (208+1)=xM 224:=by unfold xM;rw [List.replicate_append_replicate]
   rw [e1,zI] at this;rw [this];unfold kQ pX yG;simp
  have g46:h4.m h2.next=some (.cells true (.one 33) (.agg (zd (kQ u.zt.length [])))):=by rw [<- eb];exact u4.at_
  refine zx K_ ?_;refine zl g41 K_ (w:=sv) rfl ?_;refine ze (Ri h4) ?_;exact ⟨u.zt.length+1,z7.of (AT (h0:=h) rfl vk hm u.zt [] (u.zt.length+1) h4 rfl O_ q4 b4 g41 O_ ⟨_,g43⟩ O_ O_ O_ g46 O_ O_)⟩
def W6 (i:Bool × Nat):List UInt8:=if i.1 then tg i.2 ⟨0,[]⟩ else rF i.2 Dt.z
theorem jT:wZ []=true:=D_
theorem tO (i:Bool × Nat):(W6 i).length=224:=by
 unfold W6;split
 ·exact pK jT
 ·exact pL _
theorem WR {i:Bool × Nat} (hi:i.2<65536) (h:AH):z0q 44 [vM i.1 i.2] h (zO (.agg (zd (W6 i))) h):=by
 obtain ⟨iu,ino⟩:=i;cases iu with
 | false=>exact I9 hi h
 | true =>
  refine xa (by simp only [vM,xU,xS,Bool.and_self]) (by simp only [xS,yW]) ?_ h;refine C44 _ _ _ ?_;refine zq (yl (je true ino)) λh1 u1=>?_;have n1:=u1.next;refine zq (yA na (xf (zI 224))) λh2 u2=>?_;have n2:=u2.next;have f1:=(u2.other _ O_).trans u1.at_;refine z6 (yM K_) ?_;refine ze (zR f1 K_ (w:=.bool true) rfl) ?_;apply xz;refine z6 (yM K_) ?_;refine ze (zR f1 K_ (w:=.int .u16 ino) rfl) ?_;refine z6 (show zD Pg 50 []=some (vE 0 (.y8 none 0)) from K_) ?_;have b0:sZ h2 (vE 0 (.y8 none 0)) ⟨0,[]⟩:=⟨⟨.y8 none 0,rfl,.inl ⟨rfl,rfl⟩⟩,by show 0<_;omega,(λ_ h=>nomatch h),S_⟩
  refine yf (AM b0 hi) ?_;rw [show mM ino ⟨0,[]⟩=.yX [.agg (zd (tg ino ⟨0,[]⟩)),.int .i64 0] by unfold mM;rw [if_pos jT]];have pl:(tg ino ⟨0,[]⟩).length=224:=pK jT;apply wj;apply wl;refine zq (yA na (xf (zI 224))) λh3 u3=>?_;have n3:=u3.next;refine zq (zM (p:=[]) u3.at_ K_ rfl (xf pl) rfl) λh4 u4=>?_;refine ze (zR (p:=[]) u4.at_ K_ rfl) ?_;have f4:h4.m h1.next=some (.cells true (.one 33) (.agg (zd (xM 224)))):=(u4.other _ O_).trans ((u3.other _ O_).trans u2.at_);refine zq (zM (p:=[]) f4 K_ rfl (xf pl) rfl) λh5 u5=>?_;have q1:=zR (P:=Pg) (t:=33) (p:=[]) u5.at_ K_ (w:=.agg (zd (tg ino ⟨0,[]⟩))) rfl;simp only [z9] at q1;have q2:=(zK q1).1;refine yr (show zX Pg _ _ An=some [.agg (zd (tg ino ⟨0,[]⟩))] by simp [An,zX,zJ.get,q2]) ?_;rfl
end
section
set_option maxRecDepth 100000
noncomputable section
variable (Q:yO->AH->Prop) (ds:List AD) (n n1 n2:Nat) (x0 x3 x4 x5 x8 x13 x15 x16 x18 x21 x23 x26 x27:V) (a0 a1 a2 a3 a4 a5 a6:V) (h:AH)
def B14:=bd Tryz.f14
def R14:List ResultVar:=[.tmp 2]
abbrev N14:=9
def K14:KT:=(sQ lF (jN (sQ lF (.two (sQ lF lF [2]) lF) [0,4]) (sQ lF lF [2]) [0]) [0])
def Mz:Prop:=xG Pg N14 B14 K14 [1,1] [] (zn Pg R14 Q) [(0,x0)] h
theorem He:Mz Q x0 h=(
 z0 (y7 x0 h) λb c =>
 z0 (z03 (z0e 127 b 2) c) λd e =>
 z0 (z0o e 38 d) λf g =>
 Q (.ret f) g):=K_
theorem C14 (c :
 z0 (z03 (z0s .eql 24 a0 (V.ptr none) true) h) λb c =>
 zP b (
 Q (.ret (V.ptr none)) c) (
 z7 (Mz Q a0 c))):z0q 14 [a0] h Q :=
 mkC Tryz.func14 B14 N14 K14 R14 c
def B20:=bd Tryz.f20
def R20:List ResultVar:=[.tmp 2]
abbrev N20:=9
def K20:KT:=(sQ lF (jN (sQ lF (.two (sQ lF lF [2]) lF) [0,4]) (sQ lF lF [2]) [0]) [0])
def z8H:Prop:=xG Pg N20 B20 K20 [1,1] [] (zn Pg R20 Q) [(0,x0)] h
theorem Dp:z8H Q x0 h=(
 z0 (y7 x0 h) λb c =>
 z0 (z03 (z0e 127 b 3) c) λd e =>
 z0 (z0o e 53 d) λf g =>
 Q (.ret f) g):=K_
theorem C20 (c :
 z0 (z03 (z0s .eql 24 a0 (V.ptr none) true) h) λb c =>
 zP b (
 Q (.ret (V.ptr none)) c) (
 z7 (z8H Q a0 c))):z0q 20 [a0] h Q :=
 mkC Tryz.func20 B20 N20 K20 R20 c
def B31:=bd Tryz.f31
def R31:List ResultVar:=[.tmp 2]
abbrev N31:=9
def K31:KT:=(sQ lF (jN (sQ lF (.two (sQ lF lF [2]) lF) [0,4]) (sQ lF lF [2]) [0]) [0])
def zak:Prop:=xG Pg N31 B31 K31 [1,1] [] (zn Pg R31 Q) [(0,x0)] h
theorem E5:zak Q x0 h=(
 z0 (y7 x0 h) λb c =>
 z0 (z03 (z0e 127 b 1) c) λd e =>
 z0 (z0o e 83 d) λf g =>
 Q (.ret f) g):=K_
theorem C31 (c :
 z0 (z03 (z0s .eql 24 a0 (V.ptr none) true) h) λb c =>
 zP b (
 Q (.ret (V.ptr none)) c) (
 z7 (zak Q a0 c))):z0q 31 [a0] h Q :=
 mkC Tryz.func31 B31 N31 K31 R31 c
def Ki:=bd Tryz.f40
def dD:List ResultVar:=[.tmp 4]
abbrev Lb:=105
def Mo:KT:=(sQ lF (jN (jN (.rm [[0,3,4,13,16],[0,3,4,18,21],[0,3,4,23,26]]) (.two (sQ lF lF [4]) lF) [0,3,4,27]) (sQ (.NG [6,10,11] [10] 11 6) (jN (sQ lF (.two (sQ lF lF [4]) lF) [0,3,4,5,6,39]) (sQ lF (sQ (.nG [14]) (jN (sQ lF (.two (sQ lF lF [4]) lF) [0,3,4,5,6,62]) (jN (sQ lF (.two lF lF) [0,3,4,5,70]) (sQ lF (jN (sQ lF (sQ lF (.two (sQ lF lF [4]) lF) [0,3,4,5,10,90]) [0,3,4,5,10]) (sQ (.NG [7] [] 0 7) (sQ lF (sQ lF lF [4]) []) [0,3,4,5]) [0,3,4,5]) [0,3,4,5,7]) [0,3,4,5]) [0,3,4,5]) [0,3,4,5,6]) [0,3,4,5]) [0,3,4,5]) [0,3,4,5,6]) [0,3,4]) [0,3,4])
def z7E:Prop:=YS Pg Lb Ki Mo [1,1,1,1,1,1,1,1,1,1] (pE Pg dD Q) ds [(0,x0),(3,x3),(4,x4),(5,x5)] h
def zbi:Prop:=YS Pg Lb Ki Mo [1,1,1,1,1,1,1,1] (pE Pg dD Q) ds [(0,x0),(3,x3),(4,x4),(5,x5)] h
def z28:Prop:=YS Pg Lb Ki Mo [1,1,1,1,1,1,1] (pE Pg dD Q) ds [(0,x0),(3,x3),(4,x4),(5,x5)] h
def z8F:Prop:=YS Pg Lb Ki Mo [1,1,1,1] (pE Pg dD Q) ds [(0,x0),(3,x3),(4,x4),(5,x5)] h
def z8s:Prop:=YS Pg Lb Ki Mo [1,1] (pE Pg dD Q) ds [(0,x0),(3,x3),(4,x4)] h
def za1:Prop:=YS Pg Lb Ki Mo [1,0,1] (pE Pg dD Q) ds [(0,x0),(3,x3),(4,x4),(27,x27)] h
def Gzx:Prop:=Ts Pg Lb Ki Mo [1,0,0] 6 3 (pE Pg dD Q) ds [(0,x0),(3,x3),(4,x4),(23,x23),(26,x26)] h
def Gzw:Prop:=Ts Pg Lb Ki Mo [1,0,0] 4 2 (pE Pg dD Q) ds [(0,x0),(3,x3),(4,x4),(18,x18),(21,x21)] h
def Gzv:Prop:=Ts Pg Lb Ki Mo [1,0,0] 2 1 (pE Pg dD Q) ds [(0,x0),(3,x3),(4,x4),(13,x13),(16,x16)] h
theorem Cu:z7E Q ds x0 x3 x4 x5 h=(
 zc (zj (y7 x0 h)) λb =>
 zc (zj (z03 (z0e 127 b 2) h)) λc =>
 zc (zj (z0o h 38 c)) λd =>
 (
 zc (zj (z03 (z0e 95 x3 1) h)) λe =>
 zc (zj (z0o h 43 e)) λf =>
 (
 zc (zj (z0o h 33 x5)) λg =>
 (
 z0q 92 [d,f,g] h (zS (λi j=>(
 z0 (z03 (z0e 95 x3 1) j) λk l =>
 z0 (z0o l 43 k) λm o =>
 z0 (z0o o 33 x5) λp q =>
 z0q 93 [x0,m,p] q (zS (λr s =>
 vy Pg dD Q [(V.int .i64 0)] ds none s) λv h=>vy Pg dD Q [x4] ds (some v) h))) λ_ _=>False))))):=K_
theorem B3:zbi Q ds x0 x3 x4 x5 h=(
 z0 (z0o h 95 x3) λb c =>
 z0q 87 [b] c (zS (λd e =>
 z0 (z03 (zm d 0) e) λf g =>
 z0 (z03 (zm d 1) g) λi j =>
 z0 (y7 x0 j) λk l =>
 z0 (z03 (z0e 127 k 1) l) λm o =>
 z0 (z0o o 83 m) λp q =>
 z0q 88 [p,f] q (zS (λr s =>
 z0 (z03 (zm r 0) s) λt u =>
 z0 (z03 (zm r 1) u) λw y =>
 z0 (z03 (z0s .neq 36 w (V.int .i64 0) true) y) λz A =>
 zP z (
 vy Pg dD Q [w] ds none A) (
 z7 (z7E Q ds x0 x3 x4 x5 A))) λv h=>vy Pg dD Q [x4] ds (some v) h)) λv h=>vy Pg dD Q [x4] ds (some v) h)):=K_
theorem C0:z28 Q ds x0 x3 x4 x5 h=(
 zc (zj (y7 x0 h)) λb =>
 zc (zj (z03 (z0e 127 b 2) h)) λc =>
 zc (zj (z0o h 38 c)) λd =>
 zc (zj (z03 (z0e 95 x3 1) h)) λe =>
 zc (zj (z0o h 43 e)) λf =>
 ∃ g,z0q 91 [d,f] h (zO g h)/\(
 zP g (
 z0 (z03 (z0e 95 x3 1) h) λi j =>
 z0 (z0o j 43 i) λk l =>
 z0 (z0o l 33 x5) λm o =>
 z0 (z03 (z0y 95 [(0,(V.int .u8 1)),(1,k),(2,m)]) o) λp q =>
 z0 (z0t q 95 x3 p) λ_ r =>
 z7 (zbi Q ds x0 x3 x4 x5 r)) (
 z7 (zbi Q ds x0 x3 x4 x5 h)))):=K_
theorem H6:z8F Q ds x0 x3 x4 x5 h=(
 zc (zj (y7 x0 h)) λb =>
 zc (zj (z03 (z0e 127 b 2) h)) λc =>
 zc (zj (z0o h 38 c)) λd =>
 zc (zj (z03 (z0e 95 x3 1) h)) λe =>
 zc (zj (z0o h 43 e)) λf =>
 zc (zj (z03 (z0e 95 x3 1) h)) λg =>
 zc (zj (z0o h 43 g)) λi =>
 (
 zc (zj (z0o h 33 x5)) λj =>
 (
 zc (zj (y7 x0 h)) λk =>
 zc (zj (z03 (z0e 127 k 1) h)) λl =>
 zc (zj (z0o h 83 l)) λm =>
 (
 ∃ o,z0q 32 [m] h (zO o h)/\(
 (
 zc (zj (z0o h 95 x3)) λp =>
 (
 zc (zj (z03 (z0y 97 [(0,o),(1,p)]) h)) λq =>
 ∃ r,z0q 90 [i,j,q] h (zO r h)/\(
 (
 zc (zj (z03 (zm r 0) h)) λs =>
 zc (zj (z03 (zm r 1) h)) λt =>
 z0 (z0t h 33 x5 s) λ_ u=>(
 z0 (z03 (z0s .neq 36 t (V.int .i64 0) true) u) λw y =>
 zP w (
 vy Pg dD Q [t] ((18,[d,f]) :: ds) none y) (
 z7 (z28 Q ((18,[d,f]) :: ds) x0 x3 x4 x5 y)))))))))))):=K_
theorem EV:z8s Q ds x0 x3 x4 h=(
 zc (zj (y7 x0 h)) λb =>
 zc (zj (z03 (z0e 127 b 2) h)) λc =>
 zc (zj (z0o h 38 c)) λd =>
 (
 zc (zj (z03 (z0e 95 x3 1) h)) λe =>
 zc (zj (z0o h 43 e)) λf =>
 (
 z0q 15 [d,f] h (zS (λg i=>(
 zc (zj (z03 (zm g 0) i)) λj =>
 zc (zj (z03 (zm g 1) i)) λk =>
 ZK h i (tt Pg (λ_=>.xF) (.alloc 33)) λl m=>(
 z0 (z0t m 33 l j) λ_ o=>(
 z0 (z03 (z0s .neq 36 k (V.int .i64 0) true) o) λp q =>
 zP p (
 vy Pg dD Q [k] ds none q) (
 z7 (z8F Q ds x0 x3 x4 l q)))))) λ_ _=>False)))):=K_
theorem C3:za1 Q ds x0 x3 x4 x27 h=(
 zP x27 (
 vy Pg dD Q [(V.int .i64 1)] ds none h) (
 z7 (z8s Q ds x0 x3 x4 h))):=K_
theorem z2s:Gzx Q ds x0 x3 x4 x23 x26 h=(
 z0 (yc x23 (V.bool true) x26 h) λb c =>
 z7 (za1 Q ds x0 x3 x4 b c)):=K_
theorem WW:Gzw Q ds x0 x3 x4 x18 x21 h=(
 z0 (yc x18 (V.bool true) x21 h) λb c =>
 vp b false (
 z0 (z03 (z0e 95 x3 0) c) λd e =>
 z0 (z0o e 5 d) λf g =>
 z0 (z03 (z0s .eql 5 f (V.int .u8 6) true) g) λi j =>
 z7 (Gzx Q ds x0 x3 x4 b i j)) (z7 (Gzx Q ds x0 x3 x4 b yw c))):=K_
theorem R9:Gzv Q ds x0 x3 x4 x13 x16 h=(
 z0 (yc x13 (V.bool true) x16 h) λb c =>
 vp b false (
 z0 (z03 (z0e 95 x3 0) c) λd e =>
 z0 (z0o e 5 d) λf g =>
 z0 (z03 (z0s .eql 5 f (V.int .u8 1) true) g) λi j =>
 z7 (Gzw Q ds x0 x3 x4 b i j)) (z7 (Gzw Q ds x0 x3 x4 b yw c))):=K_
theorem C40 (c :
 z0 (z0G h 95 a1) λb c =>
 z0 (z03 (z0s .eql 24 a0 (V.ptr none) true) c) λd e =>
 vp d false (
 z0 (z0o e 95 b) λf g =>
 z0q 89 [f] g (zS (λi j =>
 z0 (z03 (qd .not i) j) λk l =>
 z7 (Gzv Q [] a0 b (V.int .i64 0) d k l)) λv h=>vy Pg dD Q [(V.int .i64 0)] [] (some v) h)) (z7 (Gzv Q [] a0 b (V.int .i64 0) d yw e))):z0q 40 [a0,a1] h Q :=
 Sq yL Tryz.func40 (show Tryz.f40.body=some Ki from K_) Mo Lb dD rfl K_ (show Ve Pg Lb Ki Mo (pE Pg dD Q) [] (zC 0 [a0,a1]) h from z8 K_ c)
def B46:=bd Tryz.f46
def R46:List ResultVar:=[.tmp 14]
abbrev N46:=50
def K46:KT:=(sQ lF (sQ lF (sQ lF (jN (sQ lF (.two (sQ lF lF [14]) lF) [0,8,15,16,40]) (sQ (.nG [5,8]) lF [14]) [0,8,15,16]) [0,8,15,16]) [0,2,8,15]) [0,2,3,4,5,6,8])
def z9o:Prop:=xG Pg N46 B46 K46 [1,1,1,1] [] (zn Pg R46 Q) [(0,x0),(8,x8),(15,x15),(16,x16)] h
theorem WP:z9o Q x0 x8 x15 x16 h=(
 zc (zj (z03 (z0e 116 x8 1) h)) λb =>
 zc (zj (z0o h 3 b)) λc =>
 (
 ∃ d e,z0q 100 [c] h (zO d e)/\(
 zc (zj (z0o e 116 x8)) λf =>
 (z0o h 116 x8=some (f,h))/\(
 zc (zj (z03 (z0y 127 [(0,x0),(1,x15),(2,x16),(3,d),(4,f)]) e)) λg =>
 z0 (z0G e 127 g) λi j=>(
 Q (.ret i) j))))):=K_
theorem C46 (c :
 z0 (z0G h 116 a1) λb c =>
 z0 (z03 (z0e 116 b 0) c) λd e =>
 z0 (z0o e 3 d) λf g =>
 z0 (z03 (z0s .add 3 (V.int .i64 2) f true) g) λi j =>
 z0 (z03 (z0e 116 b 1) j) λk l =>
 z0 (z0o l 3 k) λm o =>
 z0 (z03 (z0s .add 3 i m false) o) λp q =>
 z0 (z03 (z0e 116 b 2) q) λr s =>
 z0 (z0o s 3 r) λt u =>
 z0q 98 [a0,p,t,a3,a4,a5,a6] u (zS (λw y =>
 z0 (z03 (z0e 116 b 0) y) λz A =>
 z0 (z0o A 3 z) λB C =>
 z0 (z03 (z0e 116 b 1) C) λD E =>
 z0 (z0o E 3 D) λF G =>
 z0q 99 [a0,w,a2,B,F] G (zS (λH I =>
 z0 (z03 (z0s .eql 38 H (V.ptr none) true) I) λJ K =>
 zP J (
 Q (.ret (V.ptr none)) K) (
 z7 (z9o Q a0 b w H K))) λv h=>Q (.panic v) h)) λv h=>Q (.panic v) h)):z0q 46 [a0,a1,a2,a3,a4,a5,a6] h Q :=
 mkC Tryz.func46 B46 N46 K46 R46 c
def B93:=bd Tryz.f93
def R93:List ResultVar:=[]
abbrev N93:=35
def K93:KT:=(sQ lF (sQ lF (.two (sQ lF (sQ (.NG [8] [] 0 8) (.nG [6,8]) [0,4,6]) [0,4,6]) lF) [0,4,5,9]) [0,4,5])
theorem C93 (c :
 z0 (z0G h 43 a1) λb c =>
 z0 (z0G c 33 a2) λd e =>
 z0 (z03 (z0e 43 b 0) e) λf g =>
 z0 (z0o g 4 f) λi j =>
 zP i (
 z0 (z03 (z0e 43 b 1) j) λk l =>
 z0 (z0o l 41 k) λm o =>
 z0 (z0o o 33 d) λp q =>
 z0q 19 [m,p] q (zS (λr s =>
 z0 (z03 (zm r 0) s) λt u =>
 z0 (z03 (zm r 1) u) λw y =>
 z0 (z0D y 50) λz A =>
 z0 (z0t A 50 z t) λ_ B =>
 zc (zj (y7 a0 B)) λC =>
 zc (zj (z03 (z0e 127 C 3) B)) λD =>
 zc (zj (z0o B 53 D)) λE =>
 (
 zc (zj (z03 (z0e 43 b 1) B)) λF =>
 zc (zj (z0o B 41 F)) λG =>
 (
 zc (zj (z03 (z0F B 41 3 G) B)) λH =>
 (
 zc (zj (z0o B 50 z)) λI =>
 (
 z0q 135 [E,H,I] B (zS (λJ K=>(
 zc (zj (y7 a0 K)) λL =>
 zc (zj (z03 (z0e 127 L 2) K)) λM =>
 zc (zj (z0o K 38 M)) λO =>
 (
 zc (zj (z0o K 43 b)) λP =>
 (
 zc (zj (z0o K 50 z)) λR =>
 (
 ∃ S T,z0q 71 [R] K (zO S T)/\(z0o T 43 b=some (P,T))/\(z0o T 38 M=some (O,T))/\(
 zc (zj (z03 (z0s .eql 3 S (V.int .i64 0) true) T)) λU =>
 ∃ W X,z0q 136 [O,P,U] T (zO W X)/\(
 Q (.ret (V.yX [])) X))))))) λ_ _=>False)))))) λv h=>Q (.panic v) h)) (
 Q (.ret (V.yX [])) j)):z0q 93 [a0,a1,a2] h Q :=
 mkC Tryz.func93 B93 N93 K93 R93 c
end
end
end Go.Proofs.YtdbgifdfdhhjcaaGreat.Sh
end
