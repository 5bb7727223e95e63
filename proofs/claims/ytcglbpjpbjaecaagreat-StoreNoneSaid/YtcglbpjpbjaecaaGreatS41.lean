import Derived.Test.YtcglbpjpbjaecaaGreatS16
import Derived.Test.YtcglbpjpbjaecaaGreatS15
import Derived.Test.YtcglbpjpbjaecaaGreatS17
import Derived.Test.YtcglbpjpbjaecaaGreatS18
import Derived.Test.YtcglbpjpbjaecaaGreatS19
import Derived.Test.YtcglbpjpbjaecaaGreatS20
import Derived.Test.YtcglbpjpbjaecaaGreatS21
import Derived.Test.YtcglbpjpbjaecaaGreatS22
import Derived.Test.YtcglbpjpbjaecaaGreatS23
import Derived.Test.YtcglbpjpbjaecaaGreatS24
import Derived.Test.YtcglbpjpbjaecaaGreatS25
import Derived.Test.YtcglbpjpbjaecaaGreatS26
import Derived.Test.YtcglbpjpbjaecaaGreatS27
import Derived.Test.YtcglbpjpbjaecaaGreatS28
import Derived.Test.YtcglbpjpbjaecaaGreatS29
import Derived.Test.YtcglbpjpbjaecaaGreatS30
import Derived.Test.YtcglbpjpbjaecaaGreatS31
import Derived.Test.YtcglbpjpbjaecaaGreatS32
import Derived.Test.YtcglbpjpbjaecaaGreatS33
import Derived.Test.YtcglbpjpbjaecaaGreatS34
import Derived.Test.YtcglbpjpbjaecaaGreatS35
import Derived.Test.YtcglbpjpbjaecaaGreatS36
import Derived.Test.YtcglbpjpbjaecaaGreatS37
import Derived.Test.YtcglbpjpbjaecaaGreatS38
import Derived.Test.YtcglbpjpbjaecaaGreatS39
import Derived.Test.YtcglbpjpbjaecaaGreatS40
set_option linter.unusedVariables false
set_option linter.unusedSimpArgs false
namespace Go.Proofs.YtcglbpjpbjaecaaGreat.Ru
open Go Go.Ab Go.RowKit
set_option maxRecDepth 100000
theorem Strun168 : (exTabM Pg FT hdW (orMemo Sh.keysHm (allMemoC [])) pu 60).ex (V × HT) Stm168.f Stm168.args ⟨Stm168.H.next, Stm168.H.next, Stm168.H.tr⟩ (pairP [(2361, 12)]) = some (Stm168.v, Stm168.H') := by kernel_rfl
theorem Stmok168 (hh : HdOk Pg hd) : MemoOk Pg Stm168 := memo_ofP okP tabOk (hdW_ok hh) (orMemo_ok Sh.keysHm_ok (allMemoC_ok (l := []) trivial)) [(2361, 12)] (own_of Stown336) Strun168
end Go.Proofs.YtcglbpjpbjaecaaGreat.Ru
namespace Go.Proofs.YtcglbpjpbjaecaaGreat.Ru
open Go Go.Ab Go.RowKit
set_option maxRecDepth 100000
theorem Strun169 : (exTabM Pg FT hdW (orMemo Sh.keysHm (allMemoC [])) pu 60).ex (V × HT) Stm169.f Stm169.args ⟨Stm169.H.next, Stm169.H.next, Stm169.H.tr⟩ (pairP [(2374, 676)]) = some (Stm169.v, Stm169.H') := by kernel_rfl
theorem Stmok169 (hh : HdOk Pg hd) : MemoOk Pg Stm169 := memo_ofP okP tabOk (hdW_ok hh) (orMemo_ok Sh.keysHm_ok (allMemoC_ok (l := []) trivial)) [(2374, 676)] (own_of Stown337) Strun169
end Go.Proofs.YtcglbpjpbjaecaaGreat.Ru
namespace Go.Proofs.YtcglbpjpbjaecaaGreat.Ru
open Go Go.Ab Go.RowKit
set_option maxRecDepth 100000
theorem Strun170 : (exTabM Pg FT hdW (orMemo Sh.keysHm (allMemoC [])) pu 60).ex (V × HT) Stm170.f Stm170.args ⟨Stm170.H.next, Stm170.H.next, Stm170.H.tr⟩ (pairP [(3058, 12)]) = some (Stm170.v, Stm170.H') := by kernel_rfl
theorem Stmok170 (hh : HdOk Pg hd) : MemoOk Pg Stm170 := memo_ofP okP tabOk (hdW_ok hh) (orMemo_ok Sh.keysHm_ok (allMemoC_ok (l := []) trivial)) [(3058, 12)] (own_of Stown339) Strun170
end Go.Proofs.YtcglbpjpbjaecaaGreat.Ru
namespace Go.Proofs.YtcglbpjpbjaecaaGreat.Ru
open Go Go.Ab Go.RowKit
set_option maxRecDepth 100000
theorem Strun171 : (exTabM Pg FT hdW (orMemo Sh.keysHm (allMemoC [])) pu 60).ex (V × HT) Stm171.f Stm171.args ⟨Stm171.H.next, Stm171.H.next, Stm171.H.tr⟩ (pairP [(3071, 4)]) = some (Stm171.v, Stm171.H') := by kernel_rfl
theorem Stmok171 (hh : HdOk Pg hd) : MemoOk Pg Stm171 := memo_ofP okP tabOk (hdW_ok hh) (orMemo_ok Sh.keysHm_ok (allMemoC_ok (l := []) trivial)) [(3071, 4)] (own_of Stown340) Strun171
end Go.Proofs.YtcglbpjpbjaecaaGreat.Ru
namespace Go.Proofs.YtcglbpjpbjaecaaGreat.Ru
open Go Go.Ab Go.RowKit
set_option maxRecDepth 100000
theorem Strun172 : (exTabM Pg FT hdW (orMemo Sh.keysHm (allMemoC [Stm170, Stm171])) pu 60).ex (V × HT) Stm172.f Stm172.args ⟨Stm172.H.next, Stm172.H.next, Stm172.H.tr⟩ (pairP [(3050, 25)]) = some (Stm172.v, Stm172.H') := by kernel_rfl
theorem Stmok172 (hh : HdOk Pg hd) : MemoOk Pg Stm172 := memo_ofP okP tabOk (hdW_ok hh) (orMemo_ok Sh.keysHm_ok (allMemoC_ok (l := [Stm170, Stm171]) ⟨Stmok170 hh, Stmok171 hh, trivial⟩)) [(3050, 25)] (own_of Stown338) Strun172
end Go.Proofs.YtcglbpjpbjaecaaGreat.Ru
namespace Go.Proofs.YtcglbpjpbjaecaaGreat.Ru
open Go Go.Ab Go.RowKit
set_option maxRecDepth 100000
theorem Strun173 : (exTabM Pg FT hdW (orMemo Sh.keysHm (allMemoC [Stm0, Stm1, Stm2, Stm3, Stm4, Stm5, Stm6, Stm7, Stm8, Stm9, Stm10, Stm11, Stm12, Stm13, Stm14, Stm15, Stm16, Stm17, Stm18, Stm19, Stm20, Stm21, Stm22, Stm23, Stm24, Stm25, Stm26, Stm27, Stm28, Stm29, Stm30, Stm31, Stm32, Stm33, Stm34, Stm35, Stm36, Stm37, Stm38, Stm39, Stm40, Stm41, Stm42, Stm43, Stm44, Stm45, Stm46, Stm47, Stm48, Stm49, Stm50, Stm51, Stm52, Stm53, Stm54, Stm55, Stm56, Stm57, Stm58, Stm59, Stm60, Stm61, Stm62, Stm63, Stm64, Stm65, Stm66, Stm67, Stm68, Stm69, Stm70, Stm71, Stm72, Stm73, Stm74, Stm75, Stm76, Stm77, Stm78, Stm79, Stm80, Stm81, Stm82, Stm83, Stm84, Stm85, Stm86, Stm87, Stm88, Stm89, Stm90, Stm91, Stm92, Stm93, Stm94, Stm95, Stm96, Stm97, Stm98, Stm99, Stm100, Stm101, Stm102, Stm103, Stm104, Stm105, Stm106, Stm107, Stm108, Stm109, Stm110, Stm111, Stm112, Stm113, Stm114, Stm115, Stm116, Stm117, Stm118, Stm119, Stm120, Stm121, Stm122, Stm123, Stm124, Stm125, Stm126, Stm127, Stm128, Stm129, Stm130, Stm131, Stm132, Stm133, Stm134, Stm135, Stm136, Stm137, Stm138, Stm139, Stm140, Stm141, Stm142, Stm143, Stm144, Stm145, Stm146, Stm147, Stm148, Stm149, Stm150, Stm151, Stm152, Stm153, Stm154, Stm155, Stm156, Stm157, Stm158, Stm159, Stm160, Stm161, Stm162, Stm163, Stm164, Stm165, Stm166, Stm167, Stm168, Stm169, Stm172])) pu 60).ex (V × HT) Stm173.f Stm173.args ⟨Stm173.H.next, Stm173.H.next, Stm173.H.tr⟩ (pairP [(4, 3071)]) = some (Stm173.v, Stm173.H') := by kernel_rfl
theorem Stmok173 (hh : HdOk Pg hd) : MemoOk Pg Stm173 := memo_ofP okP tabOk (hdW_ok hh) (orMemo_ok Sh.keysHm_ok (allMemoC_ok (l := [Stm0, Stm1, Stm2, Stm3, Stm4, Stm5, Stm6, Stm7, Stm8, Stm9, Stm10, Stm11, Stm12, Stm13, Stm14, Stm15, Stm16, Stm17, Stm18, Stm19, Stm20, Stm21, Stm22, Stm23, Stm24, Stm25, Stm26, Stm27, Stm28, Stm29, Stm30, Stm31, Stm32, Stm33, Stm34, Stm35, Stm36, Stm37, Stm38, Stm39, Stm40, Stm41, Stm42, Stm43, Stm44, Stm45, Stm46, Stm47, Stm48, Stm49, Stm50, Stm51, Stm52, Stm53, Stm54, Stm55, Stm56, Stm57, Stm58, Stm59, Stm60, Stm61, Stm62, Stm63, Stm64, Stm65, Stm66, Stm67, Stm68, Stm69, Stm70, Stm71, Stm72, Stm73, Stm74, Stm75, Stm76, Stm77, Stm78, Stm79, Stm80, Stm81, Stm82, Stm83, Stm84, Stm85, Stm86, Stm87, Stm88, Stm89, Stm90, Stm91, Stm92, Stm93, Stm94, Stm95, Stm96, Stm97, Stm98, Stm99, Stm100, Stm101, Stm102, Stm103, Stm104, Stm105, Stm106, Stm107, Stm108, Stm109, Stm110, Stm111, Stm112, Stm113, Stm114, Stm115, Stm116, Stm117, Stm118, Stm119, Stm120, Stm121, Stm122, Stm123, Stm124, Stm125, Stm126, Stm127, Stm128, Stm129, Stm130, Stm131, Stm132, Stm133, Stm134, Stm135, Stm136, Stm137, Stm138, Stm139, Stm140, Stm141, Stm142, Stm143, Stm144, Stm145, Stm146, Stm147, Stm148, Stm149, Stm150, Stm151, Stm152, Stm153, Stm154, Stm155, Stm156, Stm157, Stm158, Stm159, Stm160, Stm161, Stm162, Stm163, Stm164, Stm165, Stm166, Stm167, Stm168, Stm169, Stm172]) ⟨Stmok0 hh, Stmok1 hh, Stmok2 hh, Stmok3 hh, Stmok4 hh, Stmok5 hh, Stmok6 hh, Stmok7 hh, Stmok8 hh, Stmok9 hh, Stmok10 hh, Stmok11 hh, Stmok12 hh, Stmok13 hh, Stmok14 hh, Stmok15 hh, Stmok16 hh, Stmok17 hh, Stmok18 hh, Stmok19 hh, Stmok20 hh, Stmok21 hh, Stmok22 hh, Stmok23 hh, Stmok24 hh, Stmok25 hh, Stmok26 hh, Stmok27 hh, Stmok28 hh, Stmok29 hh, Stmok30 hh, Stmok31 hh, Stmok32 hh, Stmok33 hh, Stmok34 hh, Stmok35 hh, Stmok36 hh, Stmok37 hh, Stmok38 hh, Stmok39 hh, Stmok40 hh, Stmok41 hh, Stmok42 hh, Stmok43 hh, Stmok44 hh, Stmok45 hh, Stmok46 hh, Stmok47 hh, Stmok48 hh, Stmok49 hh, Stmok50 hh, Stmok51 hh, Stmok52 hh, Stmok53 hh, Stmok54 hh, Stmok55 hh, Stmok56 hh, Stmok57 hh, Stmok58 hh, Stmok59 hh, Stmok60 hh, Stmok61 hh, Stmok62 hh, Stmok63 hh, Stmok64 hh, Stmok65 hh, Stmok66 hh, Stmok67 hh, Stmok68 hh, Stmok69 hh, Stmok70 hh, Stmok71 hh, Stmok72 hh, Stmok73 hh, Stmok74 hh, Stmok75 hh, Stmok76 hh, Stmok77 hh, Stmok78 hh, Stmok79 hh, Stmok80 hh, Stmok81 hh, Stmok82 hh, Stmok83 hh, Stmok84 hh, Stmok85 hh, Stmok86 hh, Stmok87 hh, Stmok88 hh, Stmok89 hh, Stmok90 hh, Stmok91 hh, Stmok92 hh, Stmok93 hh, Stmok94 hh, Stmok95 hh, Stmok96 hh, Stmok97 hh, Stmok98 hh, Stmok99 hh, Stmok100 hh, Stmok101 hh, Stmok102 hh, Stmok103 hh, Stmok104 hh, Stmok105 hh, Stmok106 hh, Stmok107 hh, Stmok108 hh, Stmok109 hh, Stmok110 hh, Stmok111 hh, Stmok112 hh, Stmok113 hh, Stmok114 hh, Stmok115 hh, Stmok116 hh, Stmok117 hh, Stmok118 hh, Stmok119 hh, Stmok120 hh, Stmok121 hh, Stmok122 hh, Stmok123 hh, Stmok124 hh, Stmok125 hh, Stmok126 hh, Stmok127 hh, Stmok128 hh, Stmok129 hh, Stmok130 hh, Stmok131 hh, Stmok132 hh, Stmok133 hh, Stmok134 hh, Stmok135 hh, Stmok136 hh, Stmok137 hh, Stmok138 hh, Stmok139 hh, Stmok140 hh, Stmok141 hh, Stmok142 hh, Stmok143 hh, Stmok144 hh, Stmok145 hh, Stmok146 hh, Stmok147 hh, Stmok148 hh, Stmok149 hh, Stmok150 hh, Stmok151 hh, Stmok152 hh, Stmok153 hh, Stmok154 hh, Stmok155 hh, Stmok156 hh, Stmok157 hh, Stmok158 hh, Stmok159 hh, Stmok160 hh, Stmok161 hh, Stmok162 hh, Stmok163 hh, Stmok164 hh, Stmok165 hh, Stmok166 hh, Stmok167 hh, Stmok168 hh, Stmok169 hh, Stmok172 hh, trivial⟩)) [(4, 3071)] (own_of Stown343) Strun173
end Go.Proofs.YtcglbpjpbjaecaaGreat.Ru
namespace Go.Proofs.YtcglbpjpbjaecaaGreat.Ru
open Go Go.Ab Go.RowKit
set_option maxRecDepth 100000
theorem Strun174 : (exTabM Pg FT hdW (orMemo Sh.keysHm (allMemoC [])) pu 60).ex (V × HT) Stm174.f Stm174.args ⟨Stm174.H.next, Stm174.H.next, Stm174.H.tr⟩ (pairP []) = some (Stm174.v, Stm174.H') := by kernel_rfl
theorem Stmok174 (hh : HdOk Pg hd) : MemoOk Pg Stm174 := memo_ofP okP tabOk (hdW_ok hh) (orMemo_ok Sh.keysHm_ok (allMemoC_ok (l := []) trivial)) [] (own_of Stown344) Strun174
end Go.Proofs.YtcglbpjpbjaecaaGreat.Ru
