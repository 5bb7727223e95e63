import Derived.Test.YtcglbpjpbjaecaaGreatS12
import Derived.Test.YtcglbpjpbjaecaaGreatProg
import Derived.Test.YtcglbpjpbjaecaaGreatS13
import Derived.RangeFuncLeaves
import Derived.RangeFuncRecord
import Derived.Shelf.GgSortFunc.Tiny
import Derived.Test.YtcglbpjpbjaecaaGreatS07
set_option linter.unusedVariables false
set_option linter.unusedSimpArgs false
namespace Go.Proofs.YtcglbpjpbjaecaaGreat.Ru
open Go Go.Ab Go.RowKit
noncomputable abbrev Pg : Program := Tryz.prog
set_option maxRecDepth 100000
theorem okAll : ((List.range Pg.types.size).all fun t => layAt Pg t && zeroAt Pg t) = true := by kernel_rfl
theorem okP : Ok Pg := ok_of Pg fun t ht => List.all_eq_true.1 okAll t (List.mem_range.2 ht)
noncomputable def F2 : FD := ⟨1, Tryz.f2.results.toList, (Tryz.f2.body).getD .skip, false, false⟩
theorem ok2 : FdOk Pg 2 F2 := ⟨Tryz.f2, Tryz.func2, by kernel_rfl, by kernel_rfl, rfl, by kernel_rfl⟩
noncomputable def F3 : FD := ⟨65, Tryz.f3.results.toList, (Tryz.f3.body).getD .skip, false, false⟩
theorem ok3 : FdOk Pg 3 F3 := ⟨Tryz.f3, Tryz.func3, by kernel_rfl, by kernel_rfl, rfl, by kernel_rfl⟩
noncomputable def F4 : FD := ⟨63, Tryz.f4.results.toList, (Tryz.f4.body).getD .skip, false, false⟩
theorem ok4 : FdOk Pg 4 F4 := ⟨Tryz.f4, Tryz.func4, by kernel_rfl, by kernel_rfl, rfl, by kernel_rfl⟩
noncomputable def F5 : FD := ⟨71, Tryz.f5.results.toList, (Tryz.f5.body).getD .skip, false, false⟩
theorem ok5 : FdOk Pg 5 F5 := ⟨Tryz.f5, Tryz.func5, by kernel_rfl, by kernel_rfl, rfl, by kernel_rfl⟩
noncomputable def F6 : FD := ⟨45, Tryz.f6.results.toList, (Tryz.f6.body).getD .skip, false, false⟩
theorem ok6 : FdOk Pg 6 F6 := ⟨Tryz.f6, Tryz.func6, by kernel_rfl, by kernel_rfl, rfl, by kernel_rfl⟩
noncomputable def F7 : FD := ⟨41, Tryz.f7.results.toList, (Tryz.f7.body).getD .skip, false, false⟩
theorem ok7 : FdOk Pg 7 F7 := ⟨Tryz.f7, Tryz.func7, by kernel_rfl, by kernel_rfl, rfl, by kernel_rfl⟩
noncomputable def F8 : FD := ⟨122, Tryz.f8.results.toList, (Tryz.f8.body).getD .skip, false, false⟩
theorem ok8 : FdOk Pg 8 F8 := ⟨Tryz.f8, Tryz.func8, by kernel_rfl, by kernel_rfl, rfl, by kernel_rfl⟩
noncomputable def F9 : FD := ⟨11, Tryz.f9.results.toList, (Tryz.f9.body).getD .skip, false, false⟩
theorem ok9 : FdOk Pg 9 F9 := ⟨Tryz.f9, Tryz.func9, by kernel_rfl, by kernel_rfl, rfl, by kernel_rfl⟩
noncomputable def F10 : FD := ⟨38, Tryz.f10.results.toList, (Tryz.f10.body).getD .skip, false, false⟩
theorem ok10 : FdOk Pg 10 F10 := ⟨Tryz.f10, Tryz.func10, by kernel_rfl, by kernel_rfl, rfl, by kernel_rfl⟩
noncomputable def F11 : FD := ⟨76, Tryz.f11.results.toList, (Tryz.f11.body).getD .skip, false, false⟩
theorem ok11 : FdOk Pg 11 F11 := ⟨Tryz.f11, Tryz.func11, by kernel_rfl, by kernel_rfl, rfl, by kernel_rfl⟩
noncomputable def F12 : FD := ⟨101, Tryz.f12.results.toList, (Tryz.f12.body).getD .skip, false, false⟩
theorem ok12 : FdOk Pg 12 F12 := ⟨Tryz.f12, Tryz.func12, by kernel_rfl, by kernel_rfl, rfl, by kernel_rfl⟩
noncomputable def F13 : FD := ⟨47, Tryz.f13.results.toList, (Tryz.f13.body).getD .skip, false, false⟩
theorem ok13 : FdOk Pg 13 F13 := ⟨Tryz.f13, Tryz.func13, by kernel_rfl, by kernel_rfl, rfl, by kernel_rfl⟩
noncomputable def F14 : FD := ⟨99, Tryz.f14.results.toList, (Tryz.f14.body).getD .skip, false, false⟩
theorem ok14 : FdOk Pg 14 F14 := ⟨Tryz.f14, Tryz.func14, by kernel_rfl, by kernel_rfl, rfl, by kernel_rfl⟩
noncomputable def F15 : FD := ⟨17, Tryz.f15.results.toList, (Tryz.f15.body).getD .skip, false, false⟩
theorem ok15 : FdOk Pg 15 F15 := ⟨Tryz.f15, Tryz.func15, by kernel_rfl, by kernel_rfl, rfl, by kernel_rfl⟩
noncomputable def F16 : FD := ⟨9, Tryz.f16.results.toList, (Tryz.f16.body).getD .skip, false, false⟩
theorem ok16 : FdOk Pg 16 F16 := ⟨Tryz.f16, Tryz.func16, by kernel_rfl, by kernel_rfl, rfl, by kernel_rfl⟩
noncomputable def F17 : FD := ⟨23, Tryz.f17.results.toList, (Tryz.f17.body).getD .skip, false, false⟩
theorem ok17 : FdOk Pg 17 F17 := ⟨Tryz.f17, Tryz.func17, by kernel_rfl, by kernel_rfl, rfl, by kernel_rfl⟩
noncomputable def F18 : FD := ⟨27, Tryz.f18.results.toList, (Tryz.f18.body).getD .skip, false, false⟩
theorem ok18 : FdOk Pg 18 F18 := ⟨Tryz.f18, Tryz.func18, by kernel_rfl, by kernel_rfl, rfl, by kernel_rfl⟩
noncomputable def F19 : FD := ⟨14, Tryz.f19.results.toList, (Tryz.f19.body).getD .skip, false, false⟩
theorem ok19 : FdOk Pg 19 F19 := ⟨Tryz.f19, Tryz.func19, by kernel_rfl, by kernel_rfl, rfl, by kernel_rfl⟩
noncomputable def F20 : FD := ⟨62, Tryz.f20.results.toList, (Tryz.f20.body).getD .skip, false, false⟩
theorem ok20 : FdOk Pg 20 F20 := ⟨Tryz.f20, Tryz.func20, by kernel_rfl, by kernel_rfl, rfl, by kernel_rfl⟩
noncomputable def F21 : FD := ⟨123, Tryz.f21.results.toList, (Tryz.f21.body).getD .skip, false, false⟩
theorem ok21 : FdOk Pg 21 F21 := ⟨Tryz.f21, Tryz.func21, by kernel_rfl, by kernel_rfl, rfl, by kernel_rfl⟩
noncomputable def F22 : FD := ⟨96, Tryz.f22.results.toList, (Tryz.f22.body).getD .skip, false, false⟩
theorem ok22 : FdOk Pg 22 F22 := ⟨Tryz.f22, Tryz.func22, by kernel_rfl, by kernel_rfl, rfl, by kernel_rfl⟩
noncomputable def F23 : FD := ⟨9, Tryz.f23.results.toList, (Tryz.f23.body).getD .skip, false, false⟩
theorem ok23 : FdOk Pg 23 F23 := ⟨Tryz.f23, Tryz.func23, by kernel_rfl, by kernel_rfl, rfl, by kernel_rfl⟩
noncomputable def F24 : FD := ⟨10, Tryz.f24.results.toList, (Tryz.f24.body).getD .skip, false, false⟩
theorem ok24 : FdOk Pg 24 F24 := ⟨Tryz.f24, Tryz.func24, by kernel_rfl, by kernel_rfl, rfl, by kernel_rfl⟩
noncomputable def F25 : FD := ⟨64, Tryz.f25.results.toList, (Tryz.f25.body).getD .skip, false, false⟩
theorem ok25 : FdOk Pg 25 F25 := ⟨Tryz.f25, Tryz.func25, by kernel_rfl, by kernel_rfl, rfl, by kernel_rfl⟩
noncomputable def F26 : FD := ⟨57, Tryz.f26.results.toList, (Tryz.f26.body).getD .skip, false, false⟩
theorem ok26 : FdOk Pg 26 F26 := ⟨Tryz.f26, Tryz.func26, by kernel_rfl, by kernel_rfl, rfl, by kernel_rfl⟩
noncomputable def F27 : FD := ⟨32, Tryz.f27.results.toList, (Tryz.f27.body).getD .skip, false, false⟩
theorem ok27 : FdOk Pg 27 F27 := ⟨Tryz.f27, Tryz.func27, by kernel_rfl, by kernel_rfl, rfl, by kernel_rfl⟩
noncomputable def F28 : FD := ⟨123, Tryz.f28.results.toList, (Tryz.f28.body).getD .skip, false, false⟩
theorem ok28 : FdOk Pg 28 F28 := ⟨Tryz.f28, Tryz.func28, by kernel_rfl, by kernel_rfl, rfl, by kernel_rfl⟩
noncomputable def F29 : FD := ⟨24, Tryz.f29.results.toList, (Tryz.f29.body).getD .skip, false, false⟩
theorem ok29 : FdOk Pg 29 F29 := ⟨Tryz.f29, Tryz.func29, by kernel_rfl, by kernel_rfl, rfl, by kernel_rfl⟩
noncomputable def F30 : FD := ⟨36, Tryz.f30.results.toList, (Tryz.f30.body).getD .skip, false, false⟩
theorem ok30 : FdOk Pg 30 F30 := ⟨Tryz.f30, Tryz.func30, by kernel_rfl, by kernel_rfl, rfl, by kernel_rfl⟩
noncomputable def F31 : FD := ⟨11, Tryz.f31.results.toList, (Tryz.f31.body).getD .skip, false, false⟩
theorem ok31 : FdOk Pg 31 F31 := ⟨Tryz.f31, Tryz.func31, by kernel_rfl, by kernel_rfl, rfl, by kernel_rfl⟩
noncomputable def F32 : FD := ⟨9, Tryz.f32.results.toList, (Tryz.f32.body).getD .skip, false, false⟩
theorem ok32 : FdOk Pg 32 F32 := ⟨Tryz.f32, Tryz.func32, by kernel_rfl, by kernel_rfl, rfl, by kernel_rfl⟩
noncomputable def F33 : FD := ⟨9, Tryz.f33.results.toList, (Tryz.f33.body).getD .skip, false, false⟩
theorem ok33 : FdOk Pg 33 F33 := ⟨Tryz.f33, Tryz.func33, by kernel_rfl, by kernel_rfl, rfl, by kernel_rfl⟩
noncomputable def F34 : FD := ⟨52, Tryz.f34.results.toList, (Tryz.f34.body).getD .skip, false, false⟩
theorem ok34 : FdOk Pg 34 F34 := ⟨Tryz.f34, Tryz.func34, by kernel_rfl, by kernel_rfl, rfl, by kernel_rfl⟩
noncomputable def F35 : FD := ⟨95, Tryz.f35.results.toList, (Tryz.f35.body).getD .skip, false, false⟩
theorem ok35 : FdOk Pg 35 F35 := ⟨Tryz.f35, Tryz.func35, by kernel_rfl, by kernel_rfl, rfl, by kernel_rfl⟩
noncomputable def F36 : FD := ⟨53, Tryz.f36.results.toList, (Tryz.f36.body).getD .skip, false, false⟩
theorem ok36 : FdOk Pg 36 F36 := ⟨Tryz.f36, Tryz.func36, by kernel_rfl, by kernel_rfl, rfl, by kernel_rfl⟩
noncomputable def F37 : FD := ⟨10, Tryz.f37.results.toList, (Tryz.f37.body).getD .skip, false, false⟩
theorem ok37 : FdOk Pg 37 F37 := ⟨Tryz.f37, Tryz.func37, by kernel_rfl, by kernel_rfl, rfl, by kernel_rfl⟩
noncomputable def F38 : FD := ⟨9, Tryz.f38.results.toList, (Tryz.f38.body).getD .skip, false, false⟩
theorem ok38 : FdOk Pg 38 F38 := ⟨Tryz.f38, Tryz.func38, by kernel_rfl, by kernel_rfl, rfl, by kernel_rfl⟩
noncomputable def F39 : FD := ⟨9, Tryz.f39.results.toList, (Tryz.f39.body).getD .skip, false, false⟩
theorem ok39 : FdOk Pg 39 F39 := ⟨Tryz.f39, Tryz.func39, by kernel_rfl, by kernel_rfl, rfl, by kernel_rfl⟩
noncomputable def F40 : FD := ⟨9, Tryz.f40.results.toList, (Tryz.f40.body).getD .skip, false, false⟩
theorem ok40 : FdOk Pg 40 F40 := ⟨Tryz.f40, Tryz.func40, by kernel_rfl, by kernel_rfl, rfl, by kernel_rfl⟩
noncomputable def F41 : FD := ⟨53, Tryz.f41.results.toList, (Tryz.f41.body).getD .skip, false, false⟩
theorem ok41 : FdOk Pg 41 F41 := ⟨Tryz.f41, Tryz.func41, by kernel_rfl, by kernel_rfl, rfl, by kernel_rfl⟩
noncomputable def F42 : FD := ⟨20, Tryz.f42.results.toList, (Tryz.f42.body).getD .skip, false, false⟩
theorem ok42 : FdOk Pg 42 F42 := ⟨Tryz.f42, Tryz.func42, by kernel_rfl, by kernel_rfl, rfl, by kernel_rfl⟩
noncomputable def F43 : FD := ⟨46, Tryz.f43.results.toList, (Tryz.f43.body).getD .skip, false, false⟩
theorem ok43 : FdOk Pg 43 F43 := ⟨Tryz.f43, Tryz.func43, by kernel_rfl, by kernel_rfl, rfl, by kernel_rfl⟩
noncomputable def F44 : FD := ⟨57, Tryz.f44.results.toList, (Tryz.f44.body).getD .skip, false, false⟩
theorem ok44 : FdOk Pg 44 F44 := ⟨Tryz.f44, Tryz.func44, by kernel_rfl, by kernel_rfl, rfl, by kernel_rfl⟩
noncomputable def F45 : FD := ⟨81, Tryz.f45.results.toList, (Tryz.f45.body).getD .skip, false, false⟩
theorem ok45 : FdOk Pg 45 F45 := ⟨Tryz.f45, Tryz.func45, by kernel_rfl, by kernel_rfl, rfl, by kernel_rfl⟩
noncomputable def F46 : FD := ⟨35, Tryz.f46.results.toList, (Tryz.f46.body).getD .skip, false, false⟩
theorem ok46 : FdOk Pg 46 F46 := ⟨Tryz.f46, Tryz.func46, by kernel_rfl, by kernel_rfl, rfl, by kernel_rfl⟩
noncomputable def F47 : FD := ⟨79, Tryz.f47.results.toList, (Tryz.f47.body).getD .skip, false, false⟩
theorem ok47 : FdOk Pg 47 F47 := ⟨Tryz.f47, Tryz.func47, by kernel_rfl, by kernel_rfl, rfl, by kernel_rfl⟩
noncomputable def F48 : FD := ⟨88, Tryz.f48.results.toList, (Tryz.f48.body).getD .skip, false, false⟩
theorem ok48 : FdOk Pg 48 F48 := ⟨Tryz.f48, Tryz.func48, by kernel_rfl, by kernel_rfl, rfl, by kernel_rfl⟩
noncomputable def F49 : FD := ⟨32, Tryz.f49.results.toList, (Tryz.f49.body).getD .skip, false, false⟩
theorem ok49 : FdOk Pg 49 F49 := ⟨Tryz.f49, Tryz.func49, by kernel_rfl, by kernel_rfl, rfl, by kernel_rfl⟩
noncomputable def F50 : FD := ⟨35, Tryz.f50.results.toList, (Tryz.f50.body).getD .skip, false, false⟩
theorem ok50 : FdOk Pg 50 F50 := ⟨Tryz.f50, Tryz.func50, by kernel_rfl, by kernel_rfl, rfl, by kernel_rfl⟩
noncomputable def F51 : FD := ⟨56, Tryz.f51.results.toList, (Tryz.f51.body).getD .skip, false, false⟩
theorem ok51 : FdOk Pg 51 F51 := ⟨Tryz.f51, Tryz.func51, by kernel_rfl, by kernel_rfl, rfl, by kernel_rfl⟩
noncomputable def F52 : FD := ⟨38, Tryz.f52.results.toList, (Tryz.f52.body).getD .skip, false, false⟩
theorem ok52 : FdOk Pg 52 F52 := ⟨Tryz.f52, Tryz.func52, by kernel_rfl, by kernel_rfl, rfl, by kernel_rfl⟩
noncomputable def F53 : FD := ⟨38, Tryz.f53.results.toList, (Tryz.f53.body).getD .skip, true, false⟩
theorem ok53 : FdOk Pg 53 F53 := ⟨Tryz.f53, Tryz.func53, by kernel_rfl, by kernel_rfl, rfl, by kernel_rfl⟩
noncomputable def F54 : FD := ⟨19, Tryz.f54.results.toList, (Tryz.f54.body).getD .skip, true, false⟩
theorem ok54 : FdOk Pg 54 F54 := ⟨Tryz.f54, Tryz.func54, by kernel_rfl, by kernel_rfl, rfl, by kernel_rfl⟩
noncomputable def F55 : FD := ⟨19, Tryz.f55.results.toList, (Tryz.f55.body).getD .skip, false, false⟩
theorem ok55 : FdOk Pg 55 F55 := ⟨Tryz.f55, Tryz.func55, by kernel_rfl, by kernel_rfl, rfl, by kernel_rfl⟩
noncomputable def F56 : FD := ⟨50, Tryz.f56.results.toList, (Tryz.f56.body).getD .skip, false, false⟩
theorem ok56 : FdOk Pg 56 F56 := ⟨Tryz.f56, Tryz.func56, by kernel_rfl, by kernel_rfl, rfl, by kernel_rfl⟩
noncomputable def F57 : FD := ⟨29, Tryz.f57.results.toList, (Tryz.f57.body).getD .skip, false, false⟩
theorem ok57 : FdOk Pg 57 F57 := ⟨Tryz.f57, Tryz.func57, by kernel_rfl, by kernel_rfl, rfl, by kernel_rfl⟩
noncomputable def F58 : FD := ⟨9, Tryz.f58.results.toList, (Tryz.f58.body).getD .skip, false, false⟩
theorem ok58 : FdOk Pg 58 F58 := ⟨Tryz.f58, Tryz.func58, by kernel_rfl, by kernel_rfl, rfl, by kernel_rfl⟩
noncomputable def F59 : FD := ⟨58, Tryz.f59.results.toList, (Tryz.f59.body).getD .skip, false, false⟩
theorem ok59 : FdOk Pg 59 F59 := ⟨Tryz.f59, Tryz.func59, by kernel_rfl, by kernel_rfl, rfl, by kernel_rfl⟩
noncomputable def F60 : FD := ⟨45, Tryz.f60.results.toList, (Tryz.f60.body).getD .skip, false, false⟩
theorem ok60 : FdOk Pg 60 F60 := ⟨Tryz.f60, Tryz.func60, by kernel_rfl, by kernel_rfl, rfl, by kernel_rfl⟩
noncomputable def F61 : FD := ⟨52, Tryz.f61.results.toList, (Tryz.f61.body).getD .skip, false, false⟩
theorem ok61 : FdOk Pg 61 F61 := ⟨Tryz.f61, Tryz.func61, by kernel_rfl, by kernel_rfl, rfl, by kernel_rfl⟩
noncomputable def F62 : FD := ⟨28, Tryz.f62.results.toList, (Tryz.f62.body).getD .skip, false, false⟩
theorem ok62 : FdOk Pg 62 F62 := ⟨Tryz.f62, Tryz.func62, by kernel_rfl, by kernel_rfl, rfl, by kernel_rfl⟩
noncomputable def F63 : FD := ⟨105, Tryz.f63.results.toList, (Tryz.f63.body).getD .skip, false, true⟩
theorem ok63 : FdOk Pg 63 F63 := ⟨Tryz.f63, Tryz.func63, by kernel_rfl, by kernel_rfl, rfl, by kernel_rfl⟩
noncomputable def F64 : FD := ⟨19, Tryz.f64.results.toList, (Tryz.f64.body).getD .skip, false, false⟩
theorem ok64 : FdOk Pg 64 F64 := ⟨Tryz.f64, Tryz.func64, by kernel_rfl, by kernel_rfl, rfl, by kernel_rfl⟩
noncomputable def F65 : FD := ⟨41, Tryz.f65.results.toList, (Tryz.f65.body).getD .skip, false, false⟩
theorem ok65 : FdOk Pg 65 F65 := ⟨Tryz.f65, Tryz.func65, by kernel_rfl, by kernel_rfl, rfl, by kernel_rfl⟩
noncomputable def F66 : FD := ⟨38, Tryz.f66.results.toList, (Tryz.f66.body).getD .skip, false, false⟩
theorem ok66 : FdOk Pg 66 F66 := ⟨Tryz.f66, Tryz.func66, by kernel_rfl, by kernel_rfl, rfl, by kernel_rfl⟩
noncomputable def F67 : FD := ⟨18, Tryz.f67.results.toList, (Tryz.f67.body).getD .skip, true, false⟩
theorem ok67 : FdOk Pg 67 F67 := ⟨Tryz.f67, Tryz.func67, by kernel_rfl, by kernel_rfl, rfl, by kernel_rfl⟩
noncomputable def F68 : FD := ⟨50, Tryz.f68.results.toList, (Tryz.f68.body).getD .skip, false, false⟩
theorem ok68 : FdOk Pg 68 F68 := ⟨Tryz.f68, Tryz.func68, by kernel_rfl, by kernel_rfl, rfl, by kernel_rfl⟩
noncomputable def F69 : FD := ⟨16, Tryz.f69.results.toList, (Tryz.f69.body).getD .skip, false, false⟩
theorem ok69 : FdOk Pg 69 F69 := ⟨Tryz.f69, Tryz.func69, by kernel_rfl, by kernel_rfl, rfl, by kernel_rfl⟩
noncomputable def F70 : FD := ⟨9, Tryz.f70.results.toList, (Tryz.f70.body).getD .skip, false, false⟩
theorem ok70 : FdOk Pg 70 F70 := ⟨Tryz.f70, Tryz.func70, by kernel_rfl, by kernel_rfl, rfl, by kernel_rfl⟩
noncomputable def F71 : FD := ⟨34, Tryz.f71.results.toList, (Tryz.f71.body).getD .skip, false, false⟩
theorem ok71 : FdOk Pg 71 F71 := ⟨Tryz.f71, Tryz.func71, by kernel_rfl, by kernel_rfl, rfl, by kernel_rfl⟩
noncomputable def F72 : FD := ⟨107, Tryz.f72.results.toList, (Tryz.f72.body).getD .skip, false, false⟩
theorem ok72 : FdOk Pg 72 F72 := ⟨Tryz.f72, Tryz.func72, by kernel_rfl, by kernel_rfl, rfl, by kernel_rfl⟩
noncomputable def F73 : FD := ⟨54, Tryz.f73.results.toList, (Tryz.f73.body).getD .skip, false, false⟩
theorem ok73 : FdOk Pg 73 F73 := ⟨Tryz.f73, Tryz.func73, by kernel_rfl, by kernel_rfl, rfl, by kernel_rfl⟩
noncomputable def F74 : FD := ⟨56, Tryz.f74.results.toList, (Tryz.f74.body).getD .skip, false, false⟩
theorem ok74 : FdOk Pg 74 F74 := ⟨Tryz.f74, Tryz.func74, by kernel_rfl, by kernel_rfl, rfl, by kernel_rfl⟩
noncomputable def F75 : FD := ⟨33, Tryz.f75.results.toList, (Tryz.f75.body).getD .skip, false, false⟩
theorem ok75 : FdOk Pg 75 F75 := ⟨Tryz.f75, Tryz.func75, by kernel_rfl, by kernel_rfl, rfl, by kernel_rfl⟩
noncomputable def F76 : FD := ⟨23, Tryz.f76.results.toList, (Tryz.f76.body).getD .skip, false, false⟩
theorem ok76 : FdOk Pg 76 F76 := ⟨Tryz.f76, Tryz.func76, by kernel_rfl, by kernel_rfl, rfl, by kernel_rfl⟩
noncomputable def F77 : FD := ⟨9, Tryz.f77.results.toList, (Tryz.f77.body).getD .skip, false, false⟩
theorem ok77 : FdOk Pg 77 F77 := ⟨Tryz.f77, Tryz.func77, by kernel_rfl, by kernel_rfl, rfl, by kernel_rfl⟩
noncomputable def F78 : FD := ⟨88, Tryz.f78.results.toList, (Tryz.f78.body).getD .skip, false, false⟩
theorem ok78 : FdOk Pg 78 F78 := ⟨Tryz.f78, Tryz.func78, by kernel_rfl, by kernel_rfl, rfl, by kernel_rfl⟩
noncomputable def F79 : FD := ⟨9, Tryz.f79.results.toList, (Tryz.f79.body).getD .skip, false, false⟩
theorem ok79 : FdOk Pg 79 F79 := ⟨Tryz.f79, Tryz.func79, by kernel_rfl, by kernel_rfl, rfl, by kernel_rfl⟩
noncomputable def F80 : FD := ⟨14, Tryz.f80.results.toList, (Tryz.f80.body).getD .skip, false, false⟩
theorem ok80 : FdOk Pg 80 F80 := ⟨Tryz.f80, Tryz.func80, by kernel_rfl, by kernel_rfl, rfl, by kernel_rfl⟩
noncomputable def F81 : FD := ⟨9, Tryz.f81.results.toList, (Tryz.f81.body).getD .skip, false, false⟩
theorem ok81 : FdOk Pg 81 F81 := ⟨Tryz.f81, Tryz.func81, by kernel_rfl, by kernel_rfl, rfl, by kernel_rfl⟩
noncomputable def F82 : FD := ⟨17, Tryz.f82.results.toList, (Tryz.f82.body).getD .skip, false, false⟩
theorem ok82 : FdOk Pg 82 F82 := ⟨Tryz.f82, Tryz.func82, by kernel_rfl, by kernel_rfl, rfl, by kernel_rfl⟩
noncomputable def F83 : FD := ⟨74, Tryz.f83.results.toList, (Tryz.f83.body).getD .skip, false, false⟩
theorem ok83 : FdOk Pg 83 F83 := ⟨Tryz.f83, Tryz.func83, by kernel_rfl, by kernel_rfl, rfl, by kernel_rfl⟩
noncomputable def F84 : FD := ⟨2, Tryz.f84.results.toList, (Tryz.f84.body).getD .skip, false, false⟩
theorem ok84 : FdOk Pg 84 F84 := ⟨Tryz.f84, Tryz.func84, by kernel_rfl, by kernel_rfl, rfl, by kernel_rfl⟩
noncomputable def F85 : FD := ⟨34, Tryz.f85.results.toList, (Tryz.f85.body).getD .skip, false, false⟩
theorem ok85 : FdOk Pg 85 F85 := ⟨Tryz.f85, Tryz.func85, by kernel_rfl, by kernel_rfl, rfl, by kernel_rfl⟩
noncomputable def F86 : FD := ⟨43, Tryz.f86.results.toList, (Tryz.f86.body).getD .skip, false, false⟩
theorem ok86 : FdOk Pg 86 F86 := ⟨Tryz.f86, Tryz.func86, by kernel_rfl, by kernel_rfl, rfl, by kernel_rfl⟩
noncomputable def F87 : FD := ⟨36, Tryz.f87.results.toList, (Tryz.f87.body).getD .skip, false, false⟩
theorem ok87 : FdOk Pg 87 F87 := ⟨Tryz.f87, Tryz.func87, by kernel_rfl, by kernel_rfl, rfl, by kernel_rfl⟩
noncomputable def F88 : FD := ⟨66, Tryz.f88.results.toList, (Tryz.f88.body).getD .skip, false, false⟩
theorem ok88 : FdOk Pg 88 F88 := ⟨Tryz.f88, Tryz.func88, by kernel_rfl, by kernel_rfl, rfl, by kernel_rfl⟩
noncomputable def F89 : FD := ⟨35, Tryz.f89.results.toList, (Tryz.f89.body).getD .skip, false, false⟩
theorem ok89 : FdOk Pg 89 F89 := ⟨Tryz.f89, Tryz.func89, by kernel_rfl, by kernel_rfl, rfl, by kernel_rfl⟩
noncomputable def F90 : FD := ⟨158, Tryz.f90.results.toList, (Tryz.f90.body).getD .skip, false, false⟩
theorem ok90 : FdOk Pg 90 F90 := ⟨Tryz.f90, Tryz.func90, by kernel_rfl, by kernel_rfl, rfl, by kernel_rfl⟩
noncomputable def F91 : FD := ⟨303, Tryz.f91.results.toList, (Tryz.f91.body).getD .skip, false, false⟩
theorem ok91 : FdOk Pg 91 F91 := ⟨Tryz.f91, Tryz.func91, by kernel_rfl, by kernel_rfl, rfl, by kernel_rfl⟩
noncomputable def F92 : FD := ⟨19, Tryz.f92.results.toList, (Tryz.f92.body).getD .skip, false, false⟩
theorem ok92 : FdOk Pg 92 F92 := ⟨Tryz.f92, Tryz.func92, by kernel_rfl, by kernel_rfl, rfl, by kernel_rfl⟩
noncomputable def F93 : FD := ⟨171, Tryz.f93.results.toList, (Tryz.f93.body).getD .skip, false, false⟩
theorem ok93 : FdOk Pg 93 F93 := ⟨Tryz.f93, Tryz.func93, by kernel_rfl, by kernel_rfl, rfl, by kernel_rfl⟩
noncomputable def F94 : FD := ⟨145, Tryz.f94.results.toList, (Tryz.f94.body).getD .skip, false, false⟩
theorem ok94 : FdOk Pg 94 F94 := ⟨Tryz.f94, Tryz.func94, by kernel_rfl, by kernel_rfl, rfl, by kernel_rfl⟩
noncomputable def F95 : FD := ⟨13, Tryz.f95.results.toList, (Tryz.f95.body).getD .skip, false, false⟩
theorem ok95 : FdOk Pg 95 F95 := ⟨Tryz.f95, Tryz.func95, by kernel_rfl, by kernel_rfl, rfl, by kernel_rfl⟩
noncomputable def F96 : FD := ⟨3, Tryz.f96.results.toList, (Tryz.f96.body).getD .skip, false, false⟩
theorem ok96 : FdOk Pg 96 F96 := ⟨Tryz.f96, Tryz.func96, by kernel_rfl, by kernel_rfl, rfl, by kernel_rfl⟩
noncomputable def F97 : FD := ⟨10, Tryz.f97.results.toList, (Tryz.f97.body).getD .skip, false, false⟩
theorem ok97 : FdOk Pg 97 F97 := ⟨Tryz.f97, Tryz.func97, by kernel_rfl, by kernel_rfl, rfl, by kernel_rfl⟩
noncomputable def F98 : FD := ⟨21, Tryz.f98.results.toList, (Tryz.f98.body).getD .skip, false, false⟩
theorem ok98 : FdOk Pg 98 F98 := ⟨Tryz.f98, Tryz.func98, by kernel_rfl, by kernel_rfl, rfl, by kernel_rfl⟩
noncomputable def F99 : FD := ⟨10, Tryz.f99.results.toList, (Tryz.f99.body).getD .skip, false, false⟩
theorem ok99 : FdOk Pg 99 F99 := ⟨Tryz.f99, Tryz.func99, by kernel_rfl, by kernel_rfl, rfl, by kernel_rfl⟩
noncomputable def F100 : FD := ⟨42, Tryz.f100.results.toList, (Tryz.f100.body).getD .skip, false, false⟩
theorem ok100 : FdOk Pg 100 F100 := ⟨Tryz.f100, Tryz.func100, by kernel_rfl, by kernel_rfl, rfl, by kernel_rfl⟩
noncomputable def F101 : FD := ⟨32, Tryz.f101.results.toList, (Tryz.f101.body).getD .skip, false, false⟩
theorem ok101 : FdOk Pg 101 F101 := ⟨Tryz.f101, Tryz.func101, by kernel_rfl, by kernel_rfl, rfl, by kernel_rfl⟩
noncomputable def F102 : FD := ⟨11, Tryz.f102.results.toList, (Tryz.f102.body).getD .skip, false, false⟩
theorem ok102 : FdOk Pg 102 F102 := ⟨Tryz.f102, Tryz.func102, by kernel_rfl, by kernel_rfl, rfl, by kernel_rfl⟩
noncomputable def F103 : FD := ⟨80, Tryz.f103.results.toList, (Tryz.f103.body).getD .skip, false, false⟩
theorem ok103 : FdOk Pg 103 F103 := ⟨Tryz.f103, Tryz.func103, by kernel_rfl, by kernel_rfl, rfl, by kernel_rfl⟩
noncomputable def F104 : FD := ⟨35, Tryz.f104.results.toList, (Tryz.f104.body).getD .skip, false, false⟩
theorem ok104 : FdOk Pg 104 F104 := ⟨Tryz.f104, Tryz.func104, by kernel_rfl, by kernel_rfl, rfl, by kernel_rfl⟩
noncomputable def F105 : FD := ⟨94, Tryz.f105.results.toList, (Tryz.f105.body).getD .skip, false, false⟩
theorem ok105 : FdOk Pg 105 F105 := ⟨Tryz.f105, Tryz.func105, by kernel_rfl, by kernel_rfl, rfl, by kernel_rfl⟩
noncomputable def F106 : FD := ⟨33, Tryz.f106.results.toList, (Tryz.f106.body).getD .skip, false, false⟩
theorem ok106 : FdOk Pg 106 F106 := ⟨Tryz.f106, Tryz.func106, by kernel_rfl, by kernel_rfl, rfl, by kernel_rfl⟩
noncomputable def F107 : FD := ⟨16, Tryz.f107.results.toList, (Tryz.f107.body).getD .skip, false, false⟩
theorem ok107 : FdOk Pg 107 F107 := ⟨Tryz.f107, Tryz.func107, by kernel_rfl, by kernel_rfl, rfl, by kernel_rfl⟩
noncomputable def F108 : FD := ⟨43, Tryz.f108.results.toList, (Tryz.f108.body).getD .skip, false, false⟩
theorem ok108 : FdOk Pg 108 F108 := ⟨Tryz.f108, Tryz.func108, by kernel_rfl, by kernel_rfl, rfl, by kernel_rfl⟩
noncomputable def F109 : FD := ⟨26, Tryz.f109.results.toList, (Tryz.f109.body).getD .skip, false, false⟩
theorem ok109 : FdOk Pg 109 F109 := ⟨Tryz.f109, Tryz.func109, by kernel_rfl, by kernel_rfl, rfl, by kernel_rfl⟩
noncomputable def F110 : FD := ⟨9, Tryz.f110.results.toList, (Tryz.f110.body).getD .skip, false, false⟩
theorem ok110 : FdOk Pg 110 F110 := ⟨Tryz.f110, Tryz.func110, by kernel_rfl, by kernel_rfl, rfl, by kernel_rfl⟩
noncomputable def F111 : FD := ⟨13, Tryz.f111.results.toList, (Tryz.f111.body).getD .skip, false, false⟩
theorem ok111 : FdOk Pg 111 F111 := ⟨Tryz.f111, Tryz.func111, by kernel_rfl, by kernel_rfl, rfl, by kernel_rfl⟩
noncomputable def F112 : FD := ⟨174, Tryz.f112.results.toList, (Tryz.f112.body).getD .skip, false, false⟩
theorem ok112 : FdOk Pg 112 F112 := ⟨Tryz.f112, Tryz.func112, by kernel_rfl, by kernel_rfl, rfl, by kernel_rfl⟩
noncomputable def F113 : FD := ⟨153, Tryz.f113.results.toList, (Tryz.f113.body).getD .skip, false, false⟩
theorem ok113 : FdOk Pg 113 F113 := ⟨Tryz.f113, Tryz.func113, by kernel_rfl, by kernel_rfl, rfl, by kernel_rfl⟩
noncomputable def F114 : FD := ⟨10, Tryz.f114.results.toList, (Tryz.f114.body).getD .skip, false, false⟩
theorem ok114 : FdOk Pg 114 F114 := ⟨Tryz.f114, Tryz.func114, by kernel_rfl, by kernel_rfl, rfl, by kernel_rfl⟩
noncomputable def F115 : FD := ⟨5, Tryz.f115.results.toList, (Tryz.f115.body).getD .skip, false, false⟩
theorem ok115 : FdOk Pg 115 F115 := ⟨Tryz.f115, Tryz.func115, by kernel_rfl, by kernel_rfl, rfl, by kernel_rfl⟩
noncomputable def F116 : FD := ⟨7, Tryz.f116.results.toList, (Tryz.f116.body).getD .skip, false, false⟩
theorem ok116 : FdOk Pg 116 F116 := ⟨Tryz.f116, Tryz.func116, by kernel_rfl, by kernel_rfl, rfl, by kernel_rfl⟩
noncomputable def F117 : FD := ⟨17, Tryz.f117.results.toList, (Tryz.f117.body).getD .skip, false, false⟩
theorem ok117 : FdOk Pg 117 F117 := ⟨Tryz.f117, Tryz.func117, by kernel_rfl, by kernel_rfl, rfl, by kernel_rfl⟩
noncomputable def F118 : FD := ⟨28, Tryz.f118.results.toList, (Tryz.f118.body).getD .skip, false, false⟩
theorem ok118 : FdOk Pg 118 F118 := ⟨Tryz.f118, Tryz.func118, by kernel_rfl, by kernel_rfl, rfl, by kernel_rfl⟩
noncomputable def F119 : FD := ⟨17, Tryz.f119.results.toList, (Tryz.f119.body).getD .skip, false, false⟩
theorem ok119 : FdOk Pg 119 F119 := ⟨Tryz.f119, Tryz.func119, by kernel_rfl, by kernel_rfl, rfl, by kernel_rfl⟩
noncomputable def F120 : FD := ⟨20, Tryz.f120.results.toList, (Tryz.f120.body).getD .skip, false, false⟩
theorem ok120 : FdOk Pg 120 F120 := ⟨Tryz.f120, Tryz.func120, by kernel_rfl, by kernel_rfl, rfl, by kernel_rfl⟩
noncomputable def F121 : FD := ⟨46, Tryz.f121.results.toList, (Tryz.f121.body).getD .skip, false, false⟩
theorem ok121 : FdOk Pg 121 F121 := ⟨Tryz.f121, Tryz.func121, by kernel_rfl, by kernel_rfl, rfl, by kernel_rfl⟩
noncomputable def F122 : FD := ⟨217, Tryz.f122.results.toList, (Tryz.f122.body).getD .skip, false, false⟩
theorem ok122 : FdOk Pg 122 F122 := ⟨Tryz.f122, Tryz.func122, by kernel_rfl, by kernel_rfl, rfl, by kernel_rfl⟩
noncomputable def F123 : FD := ⟨19, Tryz.f123.results.toList, (Tryz.f123.body).getD .skip, false, false⟩
theorem ok123 : FdOk Pg 123 F123 := ⟨Tryz.f123, Tryz.func123, by kernel_rfl, by kernel_rfl, rfl, by kernel_rfl⟩
noncomputable def F124 : FD := ⟨8, Tryz.f124.results.toList, (Tryz.f124.body).getD .skip, false, false⟩
theorem ok124 : FdOk Pg 124 F124 := ⟨Tryz.f124, Tryz.func124, by kernel_rfl, by kernel_rfl, rfl, by kernel_rfl⟩
noncomputable def F125 : FD := ⟨14, Tryz.f125.results.toList, (Tryz.f125.body).getD .skip, false, false⟩
theorem ok125 : FdOk Pg 125 F125 := ⟨Tryz.f125, Tryz.func125, by kernel_rfl, by kernel_rfl, rfl, by kernel_rfl⟩
noncomputable def F126 : FD := ⟨214, Tryz.f126.results.toList, (Tryz.f126.body).getD .skip, false, false⟩
theorem ok126 : FdOk Pg 126 F126 := ⟨Tryz.f126, Tryz.func126, by kernel_rfl, by kernel_rfl, rfl, by kernel_rfl⟩
noncomputable def F127 : FD := ⟨70, Tryz.f127.results.toList, (Tryz.f127.body).getD .skip, false, false⟩
theorem ok127 : FdOk Pg 127 F127 := ⟨Tryz.f127, Tryz.func127, by kernel_rfl, by kernel_rfl, rfl, by kernel_rfl⟩
noncomputable def F128 : FD := ⟨32, Tryz.f128.results.toList, (Tryz.f128.body).getD .skip, true, false⟩
theorem ok128 : FdOk Pg 128 F128 := ⟨Tryz.f128, Tryz.func128, by kernel_rfl, by kernel_rfl, rfl, by kernel_rfl⟩
noncomputable def F129 : FD := ⟨43, Tryz.f129.results.toList, (Tryz.f129.body).getD .skip, false, false⟩
theorem ok129 : FdOk Pg 129 F129 := ⟨Tryz.f129, Tryz.func129, by kernel_rfl, by kernel_rfl, rfl, by kernel_rfl⟩
noncomputable def F130 : FD := ⟨72, Tryz.f130.results.toList, (Tryz.f130.body).getD .skip, false, false⟩
theorem ok130 : FdOk Pg 130 F130 := ⟨Tryz.f130, Tryz.func130, by kernel_rfl, by kernel_rfl, rfl, by kernel_rfl⟩
noncomputable def F131 : FD := ⟨61, Tryz.f131.results.toList, (Tryz.f131.body).getD .skip, false, false⟩
theorem ok131 : FdOk Pg 131 F131 := ⟨Tryz.f131, Tryz.func131, by kernel_rfl, by kernel_rfl, rfl, by kernel_rfl⟩
noncomputable def F132 : FD := ⟨13, Tryz.f132.results.toList, (Tryz.f132.body).getD .skip, false, false⟩
theorem ok132 : FdOk Pg 132 F132 := ⟨Tryz.f132, Tryz.func132, by kernel_rfl, by kernel_rfl, rfl, by kernel_rfl⟩
noncomputable def F133 : FD := ⟨189, Tryz.f133.results.toList, (Tryz.f133.body).getD .skip, false, false⟩
theorem ok133 : FdOk Pg 133 F133 := ⟨Tryz.f133, Tryz.func133, by kernel_rfl, by kernel_rfl, rfl, by kernel_rfl⟩
noncomputable def F134 : FD := ⟨24, Tryz.f134.results.toList, (Tryz.f134.body).getD .skip, false, false⟩
theorem ok134 : FdOk Pg 134 F134 := ⟨Tryz.f134, Tryz.func134, by kernel_rfl, by kernel_rfl, rfl, by kernel_rfl⟩
noncomputable def F135 : FD := ⟨58, Tryz.f135.results.toList, (Tryz.f135.body).getD .skip, true, false⟩
theorem ok135 : FdOk Pg 135 F135 := ⟨Tryz.f135, Tryz.func135, by kernel_rfl, by kernel_rfl, rfl, by kernel_rfl⟩
noncomputable def F136 : FD := ⟨9, Tryz.f136.results.toList, (Tryz.f136.body).getD .skip, false, false⟩
theorem ok136 : FdOk Pg 136 F136 := ⟨Tryz.f136, Tryz.func136, by kernel_rfl, by kernel_rfl, rfl, by kernel_rfl⟩
noncomputable def F137 : FD := ⟨52, Tryz.f137.results.toList, (Tryz.f137.body).getD .skip, false, false⟩
theorem ok137 : FdOk Pg 137 F137 := ⟨Tryz.f137, Tryz.func137, by kernel_rfl, by kernel_rfl, rfl, by kernel_rfl⟩
noncomputable def F138 : FD := ⟨52, Tryz.f138.results.toList, (Tryz.f138.body).getD .skip, false, false⟩
theorem ok138 : FdOk Pg 138 F138 := ⟨Tryz.f138, Tryz.func138, by kernel_rfl, by kernel_rfl, rfl, by kernel_rfl⟩
noncomputable def F139 : FD := ⟨8, Tryz.f139.results.toList, (Tryz.f139.body).getD .skip, false, false⟩
theorem ok139 : FdOk Pg 139 F139 := ⟨Tryz.f139, Tryz.func139, by kernel_rfl, by kernel_rfl, rfl, by kernel_rfl⟩
noncomputable def F140 : FD := ⟨20, Tryz.f140.results.toList, (Tryz.f140.body).getD .skip, false, false⟩
theorem ok140 : FdOk Pg 140 F140 := ⟨Tryz.f140, Tryz.func140, by kernel_rfl, by kernel_rfl, rfl, by kernel_rfl⟩
noncomputable def F141 : FD := ⟨30, Tryz.f141.results.toList, (Tryz.f141.body).getD .skip, true, false⟩
theorem ok141 : FdOk Pg 141 F141 := ⟨Tryz.f141, Tryz.func141, by kernel_rfl, by kernel_rfl, rfl, by kernel_rfl⟩
noncomputable def F142 : FD := ⟨85, Tryz.f142.results.toList, (Tryz.f142.body).getD .skip, false, false⟩
theorem ok142 : FdOk Pg 142 F142 := ⟨Tryz.f142, Tryz.func142, by kernel_rfl, by kernel_rfl, rfl, by kernel_rfl⟩
noncomputable def F143 : FD := ⟨22, Tryz.f143.results.toList, (Tryz.f143.body).getD .skip, false, false⟩
theorem ok143 : FdOk Pg 143 F143 := ⟨Tryz.f143, Tryz.func143, by kernel_rfl, by kernel_rfl, rfl, by kernel_rfl⟩
noncomputable def F144 : FD := ⟨115, Tryz.f144.results.toList, (Tryz.f144.body).getD .skip, true, false⟩
theorem ok144 : FdOk Pg 144 F144 := ⟨Tryz.f144, Tryz.func144, by kernel_rfl, by kernel_rfl, rfl, by kernel_rfl⟩
noncomputable def F145 : FD := ⟨75, Tryz.f145.results.toList, (Tryz.f145.body).getD .skip, false, false⟩
theorem ok145 : FdOk Pg 145 F145 := ⟨Tryz.f145, Tryz.func145, by kernel_rfl, by kernel_rfl, rfl, by kernel_rfl⟩
noncomputable def F146 : FD := ⟨52, Tryz.f146.results.toList, (Tryz.f146.body).getD .skip, false, false⟩
theorem ok146 : FdOk Pg 146 F146 := ⟨Tryz.f146, Tryz.func146, by kernel_rfl, by kernel_rfl, rfl, by kernel_rfl⟩
noncomputable def F147 : FD := ⟨35, Tryz.f147.results.toList, (Tryz.f147.body).getD .skip, false, false⟩
theorem ok147 : FdOk Pg 147 F147 := ⟨Tryz.f147, Tryz.func147, by kernel_rfl, by kernel_rfl, rfl, by kernel_rfl⟩
noncomputable def F148 : FD := ⟨16, Tryz.f148.results.toList, (Tryz.f148.body).getD .skip, false, false⟩
theorem ok148 : FdOk Pg 148 F148 := ⟨Tryz.f148, Tryz.func148, by kernel_rfl, by kernel_rfl, rfl, by kernel_rfl⟩
noncomputable def F149 : FD := ⟨39, Tryz.f149.results.toList, (Tryz.f149.body).getD .skip, false, false⟩
theorem ok149 : FdOk Pg 149 F149 := ⟨Tryz.f149, Tryz.func149, by kernel_rfl, by kernel_rfl, rfl, by kernel_rfl⟩
noncomputable def F150 : FD := ⟨70, Tryz.f150.results.toList, (Tryz.f150.body).getD .skip, false, false⟩
theorem ok150 : FdOk Pg 150 F150 := ⟨Tryz.f150, Tryz.func150, by kernel_rfl, by kernel_rfl, rfl, by kernel_rfl⟩
noncomputable def F151 : FD := ⟨41, Tryz.f151.results.toList, (Tryz.f151.body).getD .skip, false, false⟩
theorem ok151 : FdOk Pg 151 F151 := ⟨Tryz.f151, Tryz.func151, by kernel_rfl, by kernel_rfl, rfl, by kernel_rfl⟩
noncomputable def F152 : FD := ⟨24, Tryz.f152.results.toList, (Tryz.f152.body).getD .skip, false, false⟩
theorem ok152 : FdOk Pg 152 F152 := ⟨Tryz.f152, Tryz.func152, by kernel_rfl, by kernel_rfl, rfl, by kernel_rfl⟩
noncomputable def F153 : FD := ⟨64, Tryz.f153.results.toList, (Tryz.f153.body).getD .skip, false, false⟩
theorem ok153 : FdOk Pg 153 F153 := ⟨Tryz.f153, Tryz.func153, by kernel_rfl, by kernel_rfl, rfl, by kernel_rfl⟩
noncomputable def F154 : FD := ⟨90, Tryz.f154.results.toList, (Tryz.f154.body).getD .skip, false, false⟩
theorem ok154 : FdOk Pg 154 F154 := ⟨Tryz.f154, Tryz.func154, by kernel_rfl, by kernel_rfl, rfl, by kernel_rfl⟩
noncomputable def F155 : FD := ⟨53, Tryz.f155.results.toList, (Tryz.f155.body).getD .skip, false, false⟩
theorem ok155 : FdOk Pg 155 F155 := ⟨Tryz.f155, Tryz.func155, by kernel_rfl, by kernel_rfl, rfl, by kernel_rfl⟩
noncomputable def F156 : FD := ⟨32, Tryz.f156.results.toList, (Tryz.f156.body).getD .skip, false, false⟩
theorem ok156 : FdOk Pg 156 F156 := ⟨Tryz.f156, Tryz.func156, by kernel_rfl, by kernel_rfl, rfl, by kernel_rfl⟩
noncomputable def F157 : FD := ⟨123, Tryz.f157.results.toList, (Tryz.f157.body).getD .skip, false, true⟩
theorem ok157 : FdOk Pg 157 F157 := ⟨Tryz.f157, Tryz.func157, by kernel_rfl, by kernel_rfl, rfl, by kernel_rfl⟩
noncomputable def F158 : FD := ⟨61, Tryz.f158.results.toList, (Tryz.f158.body).getD .skip, false, true⟩
theorem ok158 : FdOk Pg 158 F158 := ⟨Tryz.f158, Tryz.func158, by kernel_rfl, by kernel_rfl, rfl, by kernel_rfl⟩
noncomputable def F159 : FD := ⟨43, Tryz.f159.results.toList, (Tryz.f159.body).getD .skip, false, false⟩
theorem ok159 : FdOk Pg 159 F159 := ⟨Tryz.f159, Tryz.func159, by kernel_rfl, by kernel_rfl, rfl, by kernel_rfl⟩
noncomputable def F160 : FD := ⟨50, Tryz.f160.results.toList, (Tryz.f160.body).getD .skip, false, false⟩
theorem ok160 : FdOk Pg 160 F160 := ⟨Tryz.f160, Tryz.func160, by kernel_rfl, by kernel_rfl, rfl, by kernel_rfl⟩
noncomputable def F161 : FD := ⟨23, Tryz.f161.results.toList, (Tryz.f161.body).getD .skip, false, false⟩
theorem ok161 : FdOk Pg 161 F161 := ⟨Tryz.f161, Tryz.func161, by kernel_rfl, by kernel_rfl, rfl, by kernel_rfl⟩
noncomputable def F162 : FD := ⟨28, Tryz.f162.results.toList, (Tryz.f162.body).getD .skip, false, false⟩
theorem ok162 : FdOk Pg 162 F162 := ⟨Tryz.f162, Tryz.func162, by kernel_rfl, by kernel_rfl, rfl, by kernel_rfl⟩
noncomputable def F163 : FD := ⟨17, Tryz.f163.results.toList, (Tryz.f163.body).getD .skip, true, false⟩
theorem ok163 : FdOk Pg 163 F163 := ⟨Tryz.f163, Tryz.func163, by kernel_rfl, by kernel_rfl, rfl, by kernel_rfl⟩
noncomputable def F164 : FD := ⟨28, Tryz.f164.results.toList, (Tryz.f164.body).getD .skip, false, false⟩
theorem ok164 : FdOk Pg 164 F164 := ⟨Tryz.f164, Tryz.func164, by kernel_rfl, by kernel_rfl, rfl, by kernel_rfl⟩
noncomputable def F165 : FD := ⟨66, Tryz.f165.results.toList, (Tryz.f165.body).getD .skip, false, false⟩
theorem ok165 : FdOk Pg 165 F165 := ⟨Tryz.f165, Tryz.func165, by kernel_rfl, by kernel_rfl, rfl, by kernel_rfl⟩
noncomputable def F166 : FD := ⟨57, Tryz.f166.results.toList, (Tryz.f166.body).getD .skip, false, false⟩
theorem ok166 : FdOk Pg 166 F166 := ⟨Tryz.f166, Tryz.func166, by kernel_rfl, by kernel_rfl, rfl, by kernel_rfl⟩
noncomputable def F167 : FD := ⟨53, Tryz.f167.results.toList, (Tryz.f167.body).getD .skip, false, false⟩
theorem ok167 : FdOk Pg 167 F167 := ⟨Tryz.f167, Tryz.func167, by kernel_rfl, by kernel_rfl, rfl, by kernel_rfl⟩
noncomputable def F168 : FD := ⟨22, Tryz.f168.results.toList, (Tryz.f168.body).getD .skip, false, false⟩
theorem ok168 : FdOk Pg 168 F168 := ⟨Tryz.f168, Tryz.func168, by kernel_rfl, by kernel_rfl, rfl, by kernel_rfl⟩
noncomputable def F169 : FD := ⟨47, Tryz.f169.results.toList, (Tryz.f169.body).getD .skip, false, false⟩
theorem ok169 : FdOk Pg 169 F169 := ⟨Tryz.f169, Tryz.func169, by kernel_rfl, by kernel_rfl, rfl, by kernel_rfl⟩
noncomputable def F170 : FD := ⟨29, Tryz.f170.results.toList, (Tryz.f170.body).getD .skip, false, false⟩
theorem ok170 : FdOk Pg 170 F170 := ⟨Tryz.f170, Tryz.func170, by kernel_rfl, by kernel_rfl, rfl, by kernel_rfl⟩
noncomputable def F171 : FD := ⟨40, Tryz.f171.results.toList, (Tryz.f171.body).getD .skip, false, false⟩
theorem ok171 : FdOk Pg 171 F171 := ⟨Tryz.f171, Tryz.func171, by kernel_rfl, by kernel_rfl, rfl, by kernel_rfl⟩
noncomputable def F172 : FD := ⟨4, Tryz.f172.results.toList, (Tryz.f172.body).getD .skip, false, false⟩
theorem ok172 : FdOk Pg 172 F172 := ⟨Tryz.f172, Tryz.func172, by kernel_rfl, by kernel_rfl, rfl, by kernel_rfl⟩
noncomputable def F173 : FD := ⟨23, Tryz.f173.results.toList, (Tryz.f173.body).getD .skip, false, false⟩
theorem ok173 : FdOk Pg 173 F173 := ⟨Tryz.f173, Tryz.func173, by kernel_rfl, by kernel_rfl, rfl, by kernel_rfl⟩
noncomputable def F174 : FD := ⟨58, Tryz.f174.results.toList, (Tryz.f174.body).getD .skip, false, false⟩
theorem ok174 : FdOk Pg 174 F174 := ⟨Tryz.f174, Tryz.func174, by kernel_rfl, by kernel_rfl, rfl, by kernel_rfl⟩
noncomputable def F175 : FD := ⟨10, Tryz.f175.results.toList, (Tryz.f175.body).getD .skip, false, false⟩
theorem ok175 : FdOk Pg 175 F175 := ⟨Tryz.f175, Tryz.func175, by kernel_rfl, by kernel_rfl, rfl, by kernel_rfl⟩
noncomputable def F176 : FD := ⟨15, Tryz.f176.results.toList, (Tryz.f176.body).getD .skip, false, false⟩
theorem ok176 : FdOk Pg 176 F176 := ⟨Tryz.f176, Tryz.func176, by kernel_rfl, by kernel_rfl, rfl, by kernel_rfl⟩
noncomputable def F177 : FD := ⟨94, Tryz.f177.results.toList, (Tryz.f177.body).getD .skip, false, false⟩
theorem ok177 : FdOk Pg 177 F177 := ⟨Tryz.f177, Tryz.func177, by kernel_rfl, by kernel_rfl, rfl, by kernel_rfl⟩
noncomputable def F178 : FD := ⟨15, Tryz.f178.results.toList, (Tryz.f178.body).getD .skip, false, false⟩
theorem ok178 : FdOk Pg 178 F178 := ⟨Tryz.f178, Tryz.func178, by kernel_rfl, by kernel_rfl, rfl, by kernel_rfl⟩
noncomputable def F179 : FD := ⟨24, Tryz.f179.results.toList, (Tryz.f179.body).getD .skip, false, false⟩
theorem ok179 : FdOk Pg 179 F179 := ⟨Tryz.f179, Tryz.func179, by kernel_rfl, by kernel_rfl, rfl, by kernel_rfl⟩
noncomputable def F180 : FD := ⟨9, Tryz.f180.results.toList, (Tryz.f180.body).getD .skip, false, false⟩
theorem ok180 : FdOk Pg 180 F180 := ⟨Tryz.f180, Tryz.func180, by kernel_rfl, by kernel_rfl, rfl, by kernel_rfl⟩
noncomputable def F181 : FD := ⟨20, Tryz.f181.results.toList, (Tryz.f181.body).getD .skip, false, false⟩
theorem ok181 : FdOk Pg 181 F181 := ⟨Tryz.f181, Tryz.func181, by kernel_rfl, by kernel_rfl, rfl, by kernel_rfl⟩
noncomputable def F182 : FD := ⟨59, Tryz.f182.results.toList, (Tryz.f182.body).getD .skip, false, false⟩
theorem ok182 : FdOk Pg 182 F182 := ⟨Tryz.f182, Tryz.func182, by kernel_rfl, by kernel_rfl, rfl, by kernel_rfl⟩
noncomputable def F183 : FD := ⟨30, Tryz.f183.results.toList, (Tryz.f183.body).getD .skip, false, false⟩
theorem ok183 : FdOk Pg 183 F183 := ⟨Tryz.f183, Tryz.func183, by kernel_rfl, by kernel_rfl, rfl, by kernel_rfl⟩
noncomputable def F184 : FD := ⟨23, Tryz.f184.results.toList, (Tryz.f184.body).getD .skip, false, false⟩
theorem ok184 : FdOk Pg 184 F184 := ⟨Tryz.f184, Tryz.func184, by kernel_rfl, by kernel_rfl, rfl, by kernel_rfl⟩
noncomputable def F185 : FD := ⟨99, Tryz.f185.results.toList, (Tryz.f185.body).getD .skip, false, false⟩
theorem ok185 : FdOk Pg 185 F185 := ⟨Tryz.f185, Tryz.func185, by kernel_rfl, by kernel_rfl, rfl, by kernel_rfl⟩
noncomputable def F186 : FD := ⟨25, Tryz.f186.results.toList, (Tryz.f186.body).getD .skip, false, false⟩
theorem ok186 : FdOk Pg 186 F186 := ⟨Tryz.f186, Tryz.func186, by kernel_rfl, by kernel_rfl, rfl, by kernel_rfl⟩
noncomputable def F187 : FD := ⟨59, Tryz.f187.results.toList, (Tryz.f187.body).getD .skip, false, false⟩
theorem ok187 : FdOk Pg 187 F187 := ⟨Tryz.f187, Tryz.func187, by kernel_rfl, by kernel_rfl, rfl, by kernel_rfl⟩
noncomputable def F188 : FD := ⟨34, Tryz.f188.results.toList, (Tryz.f188.body).getD .skip, false, false⟩
theorem ok188 : FdOk Pg 188 F188 := ⟨Tryz.f188, Tryz.func188, by kernel_rfl, by kernel_rfl, rfl, by kernel_rfl⟩
noncomputable def F189 : FD := ⟨17, Tryz.f189.results.toList, (Tryz.f189.body).getD .skip, false, false⟩
theorem ok189 : FdOk Pg 189 F189 := ⟨Tryz.f189, Tryz.func189, by kernel_rfl, by kernel_rfl, rfl, by kernel_rfl⟩
noncomputable def F190 : FD := ⟨23, Tryz.f190.results.toList, (Tryz.f190.body).getD .skip, false, false⟩
theorem ok190 : FdOk Pg 190 F190 := ⟨Tryz.f190, Tryz.func190, by kernel_rfl, by kernel_rfl, rfl, by kernel_rfl⟩
noncomputable def F191 : FD := ⟨15, Tryz.f191.results.toList, (Tryz.f191.body).getD .skip, false, false⟩
theorem ok191 : FdOk Pg 191 F191 := ⟨Tryz.f191, Tryz.func191, by kernel_rfl, by kernel_rfl, rfl, by kernel_rfl⟩
noncomputable def F192 : FD := ⟨2, Tryz.f192.results.toList, (Tryz.f192.body).getD .skip, false, false⟩
theorem ok192 : FdOk Pg 192 F192 := ⟨Tryz.f192, Tryz.func192, by kernel_rfl, by kernel_rfl, rfl, by kernel_rfl⟩
noncomputable def F193 : FD := ⟨44, Tryz.f193.results.toList, (Tryz.f193.body).getD .skip, false, false⟩
theorem ok193 : FdOk Pg 193 F193 := ⟨Tryz.f193, Tryz.func193, by kernel_rfl, by kernel_rfl, rfl, by kernel_rfl⟩
noncomputable def F194 : FD := ⟨54, Tryz.f194.results.toList, (Tryz.f194.body).getD .skip, false, false⟩
theorem ok194 : FdOk Pg 194 F194 := ⟨Tryz.f194, Tryz.func194, by kernel_rfl, by kernel_rfl, rfl, by kernel_rfl⟩
noncomputable def F195 : FD := ⟨31, Tryz.f195.results.toList, (Tryz.f195.body).getD .skip, false, false⟩
theorem ok195 : FdOk Pg 195 F195 := ⟨Tryz.f195, Tryz.func195, by kernel_rfl, by kernel_rfl, rfl, by kernel_rfl⟩
noncomputable def F196 : FD := ⟨38, Tryz.f196.results.toList, (Tryz.f196.body).getD .skip, false, false⟩
theorem ok196 : FdOk Pg 196 F196 := ⟨Tryz.f196, Tryz.func196, by kernel_rfl, by kernel_rfl, rfl, by kernel_rfl⟩
noncomputable def F197 : FD := ⟨74, Tryz.f197.results.toList, (Tryz.f197.body).getD .skip, false, false⟩
theorem ok197 : FdOk Pg 197 F197 := ⟨Tryz.f197, Tryz.func197, by kernel_rfl, by kernel_rfl, rfl, by kernel_rfl⟩
noncomputable def F198 : FD := ⟨75, Tryz.f198.results.toList, (Tryz.f198.body).getD .skip, false, false⟩
theorem ok198 : FdOk Pg 198 F198 := ⟨Tryz.f198, Tryz.func198, by kernel_rfl, by kernel_rfl, rfl, by kernel_rfl⟩
noncomputable def F199 : FD := ⟨20, Tryz.f199.results.toList, (Tryz.f199.body).getD .skip, false, false⟩
theorem ok199 : FdOk Pg 199 F199 := ⟨Tryz.f199, Tryz.func199, by kernel_rfl, by kernel_rfl, rfl, by kernel_rfl⟩
noncomputable def F200 : FD := ⟨31, Tryz.f200.results.toList, (Tryz.f200.body).getD .skip, true, false⟩
theorem ok200 : FdOk Pg 200 F200 := ⟨Tryz.f200, Tryz.func200, by kernel_rfl, by kernel_rfl, rfl, by kernel_rfl⟩
noncomputable def F201 : FD := ⟨27, Tryz.f201.results.toList, (Tryz.f201.body).getD .skip, true, false⟩
theorem ok201 : FdOk Pg 201 F201 := ⟨Tryz.f201, Tryz.func201, by kernel_rfl, by kernel_rfl, rfl, by kernel_rfl⟩
noncomputable def F202 : FD := ⟨31, Tryz.f202.results.toList, (Tryz.f202.body).getD .skip, false, false⟩
theorem ok202 : FdOk Pg 202 F202 := ⟨Tryz.f202, Tryz.func202, by kernel_rfl, by kernel_rfl, rfl, by kernel_rfl⟩
noncomputable def F203 : FD := ⟨17, Tryz.f203.results.toList, (Tryz.f203.body).getD .skip, false, false⟩
theorem ok203 : FdOk Pg 203 F203 := ⟨Tryz.f203, Tryz.func203, by kernel_rfl, by kernel_rfl, rfl, by kernel_rfl⟩
noncomputable def F204 : FD := ⟨25, Tryz.f204.results.toList, (Tryz.f204.body).getD .skip, false, false⟩
theorem ok204 : FdOk Pg 204 F204 := ⟨Tryz.f204, Tryz.func204, by kernel_rfl, by kernel_rfl, rfl, by kernel_rfl⟩
noncomputable def F205 : FD := ⟨13, Tryz.f205.results.toList, (Tryz.f205.body).getD .skip, false, false⟩
theorem ok205 : FdOk Pg 205 F205 := ⟨Tryz.f205, Tryz.func205, by kernel_rfl, by kernel_rfl, rfl, by kernel_rfl⟩
noncomputable def F206 : FD := ⟨16, Tryz.f206.results.toList, (Tryz.f206.body).getD .skip, false, false⟩
theorem ok206 : FdOk Pg 206 F206 := ⟨Tryz.f206, Tryz.func206, by kernel_rfl, by kernel_rfl, rfl, by kernel_rfl⟩
noncomputable def F207 : FD := ⟨71, Tryz.f207.results.toList, (Tryz.f207.body).getD .skip, false, false⟩
theorem ok207 : FdOk Pg 207 F207 := ⟨Tryz.f207, Tryz.func207, by kernel_rfl, by kernel_rfl, rfl, by kernel_rfl⟩
noncomputable def F208 : FD := ⟨49, Tryz.f208.results.toList, (Tryz.f208.body).getD .skip, true, false⟩
theorem ok208 : FdOk Pg 208 F208 := ⟨Tryz.f208, Tryz.func208, by kernel_rfl, by kernel_rfl, rfl, by kernel_rfl⟩
noncomputable def F209 : FD := ⟨29, Tryz.f209.results.toList, (Tryz.f209.body).getD .skip, true, false⟩
theorem ok209 : FdOk Pg 209 F209 := ⟨Tryz.f209, Tryz.func209, by kernel_rfl, by kernel_rfl, rfl, by kernel_rfl⟩
noncomputable def F210 : FD := ⟨19, Tryz.f210.results.toList, (Tryz.f210.body).getD .skip, false, false⟩
theorem ok210 : FdOk Pg 210 F210 := ⟨Tryz.f210, Tryz.func210, by kernel_rfl, by kernel_rfl, rfl, by kernel_rfl⟩
noncomputable def F211 : FD := ⟨28, Tryz.f211.results.toList, (Tryz.f211.body).getD .skip, false, false⟩
theorem ok211 : FdOk Pg 211 F211 := ⟨Tryz.f211, Tryz.func211, by kernel_rfl, by kernel_rfl, rfl, by kernel_rfl⟩
noncomputable def F212 : FD := ⟨40, Tryz.f212.results.toList, (Tryz.f212.body).getD .skip, true, false⟩
theorem ok212 : FdOk Pg 212 F212 := ⟨Tryz.f212, Tryz.func212, by kernel_rfl, by kernel_rfl, rfl, by kernel_rfl⟩
noncomputable def F213 : FD := ⟨12, Tryz.f213.results.toList, (Tryz.f213.body).getD .skip, true, false⟩
theorem ok213 : FdOk Pg 213 F213 := ⟨Tryz.f213, Tryz.func213, by kernel_rfl, by kernel_rfl, rfl, by kernel_rfl⟩
noncomputable def F214 : FD := ⟨50, Tryz.f214.results.toList, (Tryz.f214.body).getD .skip, true, false⟩
theorem ok214 : FdOk Pg 214 F214 := ⟨Tryz.f214, Tryz.func214, by kernel_rfl, by kernel_rfl, rfl, by kernel_rfl⟩
noncomputable def F215 : FD := ⟨25, Tryz.f215.results.toList, (Tryz.f215.body).getD .skip, false, false⟩
theorem ok215 : FdOk Pg 215 F215 := ⟨Tryz.f215, Tryz.func215, by kernel_rfl, by kernel_rfl, rfl, by kernel_rfl⟩
noncomputable def F216 : FD := ⟨57, Tryz.f216.results.toList, (Tryz.f216.body).getD .skip, true, false⟩
theorem ok216 : FdOk Pg 216 F216 := ⟨Tryz.f216, Tryz.func216, by kernel_rfl, by kernel_rfl, rfl, by kernel_rfl⟩
noncomputable def F217 : FD := ⟨77, Tryz.f217.results.toList, (Tryz.f217.body).getD .skip, false, false⟩
theorem ok217 : FdOk Pg 217 F217 := ⟨Tryz.f217, Tryz.func217, by kernel_rfl, by kernel_rfl, rfl, by kernel_rfl⟩
noncomputable def F218 : FD := ⟨14, Tryz.f218.results.toList, (Tryz.f218.body).getD .skip, true, false⟩
theorem ok218 : FdOk Pg 218 F218 := ⟨Tryz.f218, Tryz.func218, by kernel_rfl, by kernel_rfl, rfl, by kernel_rfl⟩
noncomputable def F219 : FD := ⟨10, Tryz.f219.results.toList, (Tryz.f219.body).getD .skip, true, false⟩
theorem ok219 : FdOk Pg 219 F219 := ⟨Tryz.f219, Tryz.func219, by kernel_rfl, by kernel_rfl, rfl, by kernel_rfl⟩
noncomputable def F220 : FD := ⟨12, Tryz.f220.results.toList, (Tryz.f220.body).getD .skip, true, false⟩
theorem ok220 : FdOk Pg 220 F220 := ⟨Tryz.f220, Tryz.func220, by kernel_rfl, by kernel_rfl, rfl, by kernel_rfl⟩
noncomputable def F221 : FD := ⟨22, Tryz.f221.results.toList, (Tryz.f221.body).getD .skip, true, false⟩
theorem ok221 : FdOk Pg 221 F221 := ⟨Tryz.f221, Tryz.func221, by kernel_rfl, by kernel_rfl, rfl, by kernel_rfl⟩
noncomputable def F222 : FD := ⟨16, Tryz.f222.results.toList, (Tryz.f222.body).getD .skip, false, false⟩
theorem ok222 : FdOk Pg 222 F222 := ⟨Tryz.f222, Tryz.func222, by kernel_rfl, by kernel_rfl, rfl, by kernel_rfl⟩
noncomputable def F223 : FD := ⟨146, Tryz.f223.results.toList, (Tryz.f223.body).getD .skip, false, false⟩
theorem ok223 : FdOk Pg 223 F223 := ⟨Tryz.f223, Tryz.func223, by kernel_rfl, by kernel_rfl, rfl, by kernel_rfl⟩
noncomputable def F224 : FD := ⟨21, Tryz.f224.results.toList, (Tryz.f224.body).getD .skip, false, false⟩
theorem ok224 : FdOk Pg 224 F224 := ⟨Tryz.f224, Tryz.func224, by kernel_rfl, by kernel_rfl, rfl, by kernel_rfl⟩
noncomputable def F225 : FD := ⟨23, Tryz.f225.results.toList, (Tryz.f225.body).getD .skip, false, false⟩
theorem ok225 : FdOk Pg 225 F225 := ⟨Tryz.f225, Tryz.func225, by kernel_rfl, by kernel_rfl, rfl, by kernel_rfl⟩
noncomputable def F226 : FD := ⟨12, Tryz.f226.results.toList, (Tryz.f226.body).getD .skip, false, false⟩
theorem ok226 : FdOk Pg 226 F226 := ⟨Tryz.f226, Tryz.func226, by kernel_rfl, by kernel_rfl, rfl, by kernel_rfl⟩
noncomputable def F227 : FD := ⟨20, Tryz.f227.results.toList, (Tryz.f227.body).getD .skip, false, false⟩
theorem ok227 : FdOk Pg 227 F227 := ⟨Tryz.f227, Tryz.func227, by kernel_rfl, by kernel_rfl, rfl, by kernel_rfl⟩
noncomputable def F228 : FD := ⟨16, Tryz.f228.results.toList, (Tryz.f228.body).getD .skip, false, false⟩
theorem ok228 : FdOk Pg 228 F228 := ⟨Tryz.f228, Tryz.func228, by kernel_rfl, by kernel_rfl, rfl, by kernel_rfl⟩
noncomputable def F229 : FD := ⟨50, Tryz.f229.results.toList, (Tryz.f229.body).getD .skip, false, false⟩
theorem ok229 : FdOk Pg 229 F229 := ⟨Tryz.f229, Tryz.func229, by kernel_rfl, by kernel_rfl, rfl, by kernel_rfl⟩
noncomputable def F230 : FD := ⟨5, Tryz.f230.results.toList, (Tryz.f230.body).getD .skip, true, false⟩
theorem ok230 : FdOk Pg 230 F230 := ⟨Tryz.f230, Tryz.func230, by kernel_rfl, by kernel_rfl, rfl, by kernel_rfl⟩
noncomputable def F231 : FD := ⟨66, Tryz.f231.results.toList, (Tryz.f231.body).getD .skip, true, false⟩
theorem ok231 : FdOk Pg 231 F231 := ⟨Tryz.f231, Tryz.func231, by kernel_rfl, by kernel_rfl, rfl, by kernel_rfl⟩
noncomputable def F232 : FD := ⟨4, Tryz.f232.results.toList, (Tryz.f232.body).getD .skip, false, false⟩
theorem ok232 : FdOk Pg 232 F232 := ⟨Tryz.f232, Tryz.func232, by kernel_rfl, by kernel_rfl, rfl, by kernel_rfl⟩
noncomputable def F233 : FD := ⟨16, Tryz.f233.results.toList, (Tryz.f233.body).getD .skip, false, false⟩
theorem ok233 : FdOk Pg 233 F233 := ⟨Tryz.f233, Tryz.func233, by kernel_rfl, by kernel_rfl, rfl, by kernel_rfl⟩
noncomputable def F234 : FD := ⟨30, Tryz.f234.results.toList, (Tryz.f234.body).getD .skip, false, false⟩
theorem ok234 : FdOk Pg 234 F234 := ⟨Tryz.f234, Tryz.func234, by kernel_rfl, by kernel_rfl, rfl, by kernel_rfl⟩
noncomputable def F235 : FD := ⟨33, Tryz.f235.results.toList, (Tryz.f235.body).getD .skip, false, false⟩
theorem ok235 : FdOk Pg 235 F235 := ⟨Tryz.f235, Tryz.func235, by kernel_rfl, by kernel_rfl, rfl, by kernel_rfl⟩
noncomputable def F236 : FD := ⟨12, Tryz.f236.results.toList, (Tryz.f236.body).getD .skip, false, false⟩
theorem ok236 : FdOk Pg 236 F236 := ⟨Tryz.f236, Tryz.func236, by kernel_rfl, by kernel_rfl, rfl, by kernel_rfl⟩
noncomputable def F237 : FD := ⟨21, Tryz.f237.results.toList, (Tryz.f237.body).getD .skip, false, false⟩
theorem ok237 : FdOk Pg 237 F237 := ⟨Tryz.f237, Tryz.func237, by kernel_rfl, by kernel_rfl, rfl, by kernel_rfl⟩
noncomputable def F241 : FD := ⟨8, Tryz.f241.results.toList, (Tryz.f241.body).getD .skip, false, false⟩
theorem ok241 : FdOk Pg 241 F241 := ⟨Tryz.f241, Tryz.func241, by kernel_rfl, by kernel_rfl, rfl, by kernel_rfl⟩
noncomputable def F242 : FD := ⟨130, Tryz.f242.results.toList, (Tryz.f242.body).getD .skip, false, false⟩
theorem ok242 : FdOk Pg 242 F242 := ⟨Tryz.f242, Tryz.func242, by kernel_rfl, by kernel_rfl, rfl, by kernel_rfl⟩
noncomputable def F243 : FD := ⟨40, Tryz.f243.results.toList, (Tryz.f243.body).getD .skip, true, false⟩
theorem ok243 : FdOk Pg 243 F243 := ⟨Tryz.f243, Tryz.func243, by kernel_rfl, by kernel_rfl, rfl, by kernel_rfl⟩
noncomputable def F244 : FD := ⟨24, Tryz.f244.results.toList, (Tryz.f244.body).getD .skip, false, false⟩
theorem ok244 : FdOk Pg 244 F244 := ⟨Tryz.f244, Tryz.func244, by kernel_rfl, by kernel_rfl, rfl, by kernel_rfl⟩
noncomputable def F245 : FD := ⟨61, Tryz.f245.results.toList, (Tryz.f245.body).getD .skip, false, false⟩
theorem ok245 : FdOk Pg 245 F245 := ⟨Tryz.f245, Tryz.func245, by kernel_rfl, by kernel_rfl, rfl, by kernel_rfl⟩
noncomputable def F246 : FD := ⟨20, Tryz.f246.results.toList, (Tryz.f246.body).getD .skip, false, false⟩
theorem ok246 : FdOk Pg 246 F246 := ⟨Tryz.f246, Tryz.func246, by kernel_rfl, by kernel_rfl, rfl, by kernel_rfl⟩
noncomputable def F247 : FD := ⟨27, Tryz.f247.results.toList, (Tryz.f247.body).getD .skip, false, false⟩
theorem ok247 : FdOk Pg 247 F247 := ⟨Tryz.f247, Tryz.func247, by kernel_rfl, by kernel_rfl, rfl, by kernel_rfl⟩
noncomputable def F248 : FD := ⟨20, Tryz.f248.results.toList, (Tryz.f248.body).getD .skip, false, false⟩
theorem ok248 : FdOk Pg 248 F248 := ⟨Tryz.f248, Tryz.func248, by kernel_rfl, by kernel_rfl, rfl, by kernel_rfl⟩
noncomputable def F249 : FD := ⟨10, Tryz.f249.results.toList, (Tryz.f249.body).getD .skip, false, false⟩
theorem ok249 : FdOk Pg 249 F249 := ⟨Tryz.f249, Tryz.func249, by kernel_rfl, by kernel_rfl, rfl, by kernel_rfl⟩
noncomputable def F250 : FD := ⟨16, Tryz.f250.results.toList, (Tryz.f250.body).getD .skip, false, false⟩
theorem ok250 : FdOk Pg 250 F250 := ⟨Tryz.f250, Tryz.func250, by kernel_rfl, by kernel_rfl, rfl, by kernel_rfl⟩
noncomputable def F251 : FD := ⟨42, Tryz.f251.results.toList, (Tryz.f251.body).getD .skip, false, false⟩
theorem ok251 : FdOk Pg 251 F251 := ⟨Tryz.f251, Tryz.func251, by kernel_rfl, by kernel_rfl, rfl, by kernel_rfl⟩
noncomputable def F252 : FD := ⟨143, Tryz.f252.results.toList, (Tryz.f252.body).getD .skip, false, false⟩
theorem ok252 : FdOk Pg 252 F252 := ⟨Tryz.f252, Tryz.func252, by kernel_rfl, by kernel_rfl, rfl, by kernel_rfl⟩
noncomputable def F253 : FD := ⟨8, Tryz.f253.results.toList, (Tryz.f253.body).getD .skip, false, false⟩
theorem ok253 : FdOk Pg 253 F253 := ⟨Tryz.f253, Tryz.func253, by kernel_rfl, by kernel_rfl, rfl, by kernel_rfl⟩
noncomputable def F254 : FD := ⟨25, Tryz.f254.results.toList, (Tryz.f254.body).getD .skip, false, false⟩
theorem ok254 : FdOk Pg 254 F254 := ⟨Tryz.f254, Tryz.func254, by kernel_rfl, by kernel_rfl, rfl, by kernel_rfl⟩
noncomputable def F256 : FD := ⟨8, Tryz.f256.results.toList, (Tryz.f256.body).getD .skip, true, false⟩
theorem ok256 : FdOk Pg 256 F256 := ⟨Tryz.f256, Tryz.func256, by kernel_rfl, by kernel_rfl, rfl, by kernel_rfl⟩
noncomputable def F257 : FD := ⟨20, Tryz.f257.results.toList, (Tryz.f257.body).getD .skip, false, false⟩
theorem ok257 : FdOk Pg 257 F257 := ⟨Tryz.f257, Tryz.func257, by kernel_rfl, by kernel_rfl, rfl, by kernel_rfl⟩
noncomputable def F258 : FD := ⟨29, Tryz.f258.results.toList, (Tryz.f258.body).getD .skip, false, false⟩
theorem ok258 : FdOk Pg 258 F258 := ⟨Tryz.f258, Tryz.func258, by kernel_rfl, by kernel_rfl, rfl, by kernel_rfl⟩
noncomputable def F259 : FD := ⟨54, Tryz.f259.results.toList, (Tryz.f259.body).getD .skip, false, false⟩
theorem ok259 : FdOk Pg 259 F259 := ⟨Tryz.f259, Tryz.func259, by kernel_rfl, by kernel_rfl, rfl, by kernel_rfl⟩
noncomputable def F260 : FD := ⟨31, Tryz.f260.results.toList, (Tryz.f260.body).getD .skip, false, false⟩
theorem ok260 : FdOk Pg 260 F260 := ⟨Tryz.f260, Tryz.func260, by kernel_rfl, by kernel_rfl, rfl, by kernel_rfl⟩
noncomputable def F261 : FD := ⟨68, Tryz.f261.results.toList, (Tryz.f261.body).getD .skip, false, false⟩
theorem ok261 : FdOk Pg 261 F261 := ⟨Tryz.f261, Tryz.func261, by kernel_rfl, by kernel_rfl, rfl, by kernel_rfl⟩
noncomputable def F262 : FD := ⟨9, Tryz.f262.results.toList, (Tryz.f262.body).getD .skip, false, false⟩
theorem ok262 : FdOk Pg 262 F262 := ⟨Tryz.f262, Tryz.func262, by kernel_rfl, by kernel_rfl, rfl, by kernel_rfl⟩
noncomputable def F263 : FD := ⟨16, Tryz.f263.results.toList, (Tryz.f263.body).getD .skip, false, false⟩
theorem ok263 : FdOk Pg 263 F263 := ⟨Tryz.f263, Tryz.func263, by kernel_rfl, by kernel_rfl, rfl, by kernel_rfl⟩
noncomputable def F264 : FD := ⟨19, Tryz.f264.results.toList, (Tryz.f264.body).getD .skip, true, false⟩
theorem ok264 : FdOk Pg 264 F264 := ⟨Tryz.f264, Tryz.func264, by kernel_rfl, by kernel_rfl, rfl, by kernel_rfl⟩
noncomputable def F265 : FD := ⟨28, Tryz.f265.results.toList, (Tryz.f265.body).getD .skip, true, false⟩
theorem ok265 : FdOk Pg 265 F265 := ⟨Tryz.f265, Tryz.func265, by kernel_rfl, by kernel_rfl, rfl, by kernel_rfl⟩
noncomputable def F266 : FD := ⟨69, Tryz.f266.results.toList, (Tryz.f266.body).getD .skip, false, false⟩
theorem ok266 : FdOk Pg 266 F266 := ⟨Tryz.f266, Tryz.func266, by kernel_rfl, by kernel_rfl, rfl, by kernel_rfl⟩
noncomputable def F276 : FD := ⟨19, Tryz.f276.results.toList, (Tryz.f276.body).getD .skip, false, false⟩
theorem ok276 : FdOk Pg 276 F276 := ⟨Tryz.f276, Tryz.func276, by kernel_rfl, by kernel_rfl, rfl, by kernel_rfl⟩
noncomputable def F277 : FD := ⟨25, Tryz.f277.results.toList, (Tryz.f277.body).getD .skip, false, false⟩
theorem ok277 : FdOk Pg 277 F277 := ⟨Tryz.f277, Tryz.func277, by kernel_rfl, by kernel_rfl, rfl, by kernel_rfl⟩
noncomputable def F278 : FD := ⟨35, Tryz.f278.results.toList, (Tryz.f278.body).getD .skip, false, false⟩
theorem ok278 : FdOk Pg 278 F278 := ⟨Tryz.f278, Tryz.func278, by kernel_rfl, by kernel_rfl, rfl, by kernel_rfl⟩
noncomputable def F279 : FD := ⟨45, Tryz.f279.results.toList, (Tryz.f279.body).getD .skip, false, false⟩
theorem ok279 : FdOk Pg 279 F279 := ⟨Tryz.f279, Tryz.func279, by kernel_rfl, by kernel_rfl, rfl, by kernel_rfl⟩
noncomputable def F280 : FD := ⟨54, Tryz.f280.results.toList, (Tryz.f280.body).getD .skip, false, false⟩
theorem ok280 : FdOk Pg 280 F280 := ⟨Tryz.f280, Tryz.func280, by kernel_rfl, by kernel_rfl, rfl, by kernel_rfl⟩
noncomputable def F281 : FD := ⟨57, Tryz.f281.results.toList, (Tryz.f281.body).getD .skip, false, false⟩
theorem ok281 : FdOk Pg 281 F281 := ⟨Tryz.f281, Tryz.func281, by kernel_rfl, by kernel_rfl, rfl, by kernel_rfl⟩
noncomputable def F282 : FD := ⟨23, Tryz.f282.results.toList, (Tryz.f282.body).getD .skip, false, false⟩
theorem ok282 : FdOk Pg 282 F282 := ⟨Tryz.f282, Tryz.func282, by kernel_rfl, by kernel_rfl, rfl, by kernel_rfl⟩
noncomputable def F283 : FD := ⟨91, Tryz.f283.results.toList, (Tryz.f283.body).getD .skip, false, false⟩
theorem ok283 : FdOk Pg 283 F283 := ⟨Tryz.f283, Tryz.func283, by kernel_rfl, by kernel_rfl, rfl, by kernel_rfl⟩
noncomputable def F284 : FD := ⟨58, Tryz.f284.results.toList, (Tryz.f284.body).getD .skip, false, false⟩
theorem ok284 : FdOk Pg 284 F284 := ⟨Tryz.f284, Tryz.func284, by kernel_rfl, by kernel_rfl, rfl, by kernel_rfl⟩
noncomputable def F285 : FD := ⟨107, Tryz.f285.results.toList, (Tryz.f285.body).getD .skip, false, false⟩
theorem ok285 : FdOk Pg 285 F285 := ⟨Tryz.f285, Tryz.func285, by kernel_rfl, by kernel_rfl, rfl, by kernel_rfl⟩
noncomputable def F286 : FD := ⟨15, Tryz.f286.results.toList, (Tryz.f286.body).getD .skip, false, false⟩
theorem ok286 : FdOk Pg 286 F286 := ⟨Tryz.f286, Tryz.func286, by kernel_rfl, by kernel_rfl, rfl, by kernel_rfl⟩
noncomputable def F287 : FD := ⟨20, Tryz.f287.results.toList, (Tryz.f287.body).getD .skip, false, false⟩
theorem ok287 : FdOk Pg 287 F287 := ⟨Tryz.f287, Tryz.func287, by kernel_rfl, by kernel_rfl, rfl, by kernel_rfl⟩
noncomputable def F288 : FD := ⟨13, Tryz.f288.results.toList, (Tryz.f288.body).getD .skip, false, false⟩
theorem ok288 : FdOk Pg 288 F288 := ⟨Tryz.f288, Tryz.func288, by kernel_rfl, by kernel_rfl, rfl, by kernel_rfl⟩
noncomputable def F289 : FD := ⟨8, Tryz.f289.results.toList, (Tryz.f289.body).getD .skip, false, false⟩
theorem ok289 : FdOk Pg 289 F289 := ⟨Tryz.f289, Tryz.func289, by kernel_rfl, by kernel_rfl, rfl, by kernel_rfl⟩
noncomputable def F291 : FD := ⟨6, Tryz.f291.results.toList, (Tryz.f291.body).getD .skip, false, false⟩
theorem ok291 : FdOk Pg 291 F291 := ⟨Tryz.f291, Tryz.func291, by kernel_rfl, by kernel_rfl, rfl, by kernel_rfl⟩
noncomputable def F292 : FD := ⟨81, Tryz.f292.results.toList, (Tryz.f292.body).getD .skip, false, false⟩
theorem ok292 : FdOk Pg 292 F292 := ⟨Tryz.f292, Tryz.func292, by kernel_rfl, by kernel_rfl, rfl, by kernel_rfl⟩
noncomputable def F293 : FD := ⟨30, Tryz.f293.results.toList, (Tryz.f293.body).getD .skip, false, false⟩
theorem ok293 : FdOk Pg 293 F293 := ⟨Tryz.f293, Tryz.func293, by kernel_rfl, by kernel_rfl, rfl, by kernel_rfl⟩
noncomputable def F294 : FD := ⟨10, Tryz.f294.results.toList, (Tryz.f294.body).getD .skip, true, false⟩
theorem ok294 : FdOk Pg 294 F294 := ⟨Tryz.f294, Tryz.func294, by kernel_rfl, by kernel_rfl, rfl, by kernel_rfl⟩
noncomputable def F295 : FD := ⟨55, Tryz.f295.results.toList, (Tryz.f295.body).getD .skip, false, false⟩
theorem ok295 : FdOk Pg 295 F295 := ⟨Tryz.f295, Tryz.func295, by kernel_rfl, by kernel_rfl, rfl, by kernel_rfl⟩
noncomputable def F296 : FD := ⟨10, Tryz.f296.results.toList, (Tryz.f296.body).getD .skip, false, false⟩
theorem ok296 : FdOk Pg 296 F296 := ⟨Tryz.f296, Tryz.func296, by kernel_rfl, by kernel_rfl, rfl, by kernel_rfl⟩
noncomputable def F297 : FD := ⟨33, Tryz.f297.results.toList, (Tryz.f297.body).getD .skip, false, false⟩
theorem ok297 : FdOk Pg 297 F297 := ⟨Tryz.f297, Tryz.func297, by kernel_rfl, by kernel_rfl, rfl, by kernel_rfl⟩
noncomputable def F298 : FD := ⟨15, Tryz.f298.results.toList, (Tryz.f298.body).getD .skip, false, false⟩
theorem ok298 : FdOk Pg 298 F298 := ⟨Tryz.f298, Tryz.func298, by kernel_rfl, by kernel_rfl, rfl, by kernel_rfl⟩
noncomputable def F299 : FD := ⟨36, Tryz.f299.results.toList, (Tryz.f299.body).getD .skip, false, false⟩
theorem ok299 : FdOk Pg 299 F299 := ⟨Tryz.f299, Tryz.func299, by kernel_rfl, by kernel_rfl, rfl, by kernel_rfl⟩
noncomputable def F300 : FD := ⟨15, Tryz.f300.results.toList, (Tryz.f300.body).getD .skip, false, false⟩
theorem ok300 : FdOk Pg 300 F300 := ⟨Tryz.f300, Tryz.func300, by kernel_rfl, by kernel_rfl, rfl, by kernel_rfl⟩
noncomputable def F302 : FD := ⟨39, Tryz.f302.results.toList, (Tryz.f302.body).getD .skip, false, false⟩
theorem ok302 : FdOk Pg 302 F302 := ⟨Tryz.f302, Tryz.func302, by kernel_rfl, by kernel_rfl, rfl, by kernel_rfl⟩
noncomputable def F304 : FD := ⟨24, Tryz.f304.results.toList, (Tryz.f304.body).getD .skip, false, false⟩
theorem ok304 : FdOk Pg 304 F304 := ⟨Tryz.f304, Tryz.func304, by kernel_rfl, by kernel_rfl, rfl, by kernel_rfl⟩
noncomputable def F320 : FD := ⟨9, Tryz.f320.results.toList, (Tryz.f320.body).getD .skip, false, false⟩
theorem ok320 : FdOk Pg 320 F320 := ⟨Tryz.f320, Tryz.func320, by kernel_rfl, by kernel_rfl, rfl, by kernel_rfl⟩
noncomputable def FT : T8 FD := (.node none (.node none (.node none .nil (.node (some F64) .nil .nil .nil .nil .nil .nil .nil .nil) (.node (some F128) .nil .nil .nil .nil .nil .nil .nil .nil) (.node (some F192) .nil .nil .nil .nil .nil .nil .nil .nil) (.node (some F256) .nil .nil .nil .nil .nil .nil .nil .nil) (.node (some F320) .nil .nil .nil .nil .nil .nil .nil .nil) .nil .nil) (.node (some F8) .nil (.node (some F72) .nil .nil .nil .nil .nil .nil .nil .nil) (.node (some F136) .nil .nil .nil .nil .nil .nil .nil .nil) (.node (some F200) .nil .nil .nil .nil .nil .nil .nil .nil) (.node (some F264) .nil .nil .nil .nil .nil .nil .nil .nil) .nil .nil .nil) (.node (some F16) .nil (.node (some F80) .nil .nil .nil .nil .nil .nil .nil .nil) (.node (some F144) .nil .nil .nil .nil .nil .nil .nil .nil) (.node (some F208) .nil .nil .nil .nil .nil .nil .nil .nil) .nil .nil .nil .nil) (.node (some F24) .nil (.node (some F88) .nil .nil .nil .nil .nil .nil .nil .nil) (.node (some F152) .nil .nil .nil .nil .nil .nil .nil .nil) (.node (some F216) .nil .nil .nil .nil .nil .nil .nil .nil) (.node (some F280) .nil .nil .nil .nil .nil .nil .nil .nil) .nil .nil .nil) (.node (some F32) .nil (.node (some F96) .nil .nil .nil .nil .nil .nil .nil .nil) (.node (some F160) .nil .nil .nil .nil .nil .nil .nil .nil) (.node (some F224) .nil .nil .nil .nil .nil .nil .nil .nil) (.node (some F288) .nil .nil .nil .nil .nil .nil .nil .nil) .nil .nil .nil) (.node (some F40) .nil (.node (some F104) .nil .nil .nil .nil .nil .nil .nil .nil) (.node (some F168) .nil .nil .nil .nil .nil .nil .nil .nil) (.node (some F232) .nil .nil .nil .nil .nil .nil .nil .nil) (.node (some F296) .nil .nil .nil .nil .nil .nil .nil .nil) .nil .nil .nil) (.node (some F48) .nil (.node (some F112) .nil .nil .nil .nil .nil .nil .nil .nil) (.node (some F176) .nil .nil .nil .nil .nil .nil .nil .nil) .nil (.node (some F304) .nil .nil .nil .nil .nil .nil .nil .nil) .nil .nil .nil) (.node (some F56) .nil (.node (some F120) .nil .nil .nil .nil .nil .nil .nil .nil) (.node (some F184) .nil .nil .nil .nil .nil .nil .nil .nil) (.node (some F248) .nil .nil .nil .nil .nil .nil .nil .nil) .nil .nil .nil .nil)) (.node none (.node none .nil (.node (some F65) .nil .nil .nil .nil .nil .nil .nil .nil) (.node (some F129) .nil .nil .nil .nil .nil .nil .nil .nil) (.node (some F193) .nil .nil .nil .nil .nil .nil .nil .nil) (.node (some F257) .nil .nil .nil .nil .nil .nil .nil .nil) .nil .nil .nil) (.node (some F9) .nil (.node (some F73) .nil .nil .nil .nil .nil .nil .nil .nil) (.node (some F137) .nil .nil .nil .nil .nil .nil .nil .nil) (.node (some F201) .nil .nil .nil .nil .nil .nil .nil .nil) (.node (some F265) .nil .nil .nil .nil .nil .nil .nil .nil) .nil .nil .nil) (.node (some F17) .nil (.node (some F81) .nil .nil .nil .nil .nil .nil .nil .nil) (.node (some F145) .nil .nil .nil .nil .nil .nil .nil .nil) (.node (some F209) .nil .nil .nil .nil .nil .nil .nil .nil) .nil .nil .nil .nil) (.node (some F25) .nil (.node (some F89) .nil .nil .nil .nil .nil .nil .nil .nil) (.node (some F153) .nil .nil .nil .nil .nil .nil .nil .nil) (.node (some F217) .nil .nil .nil .nil .nil .nil .nil .nil) (.node (some F281) .nil .nil .nil .nil .nil .nil .nil .nil) .nil .nil .nil) (.node (some F33) .nil (.node (some F97) .nil .nil .nil .nil .nil .nil .nil .nil) (.node (some F161) .nil .nil .nil .nil .nil .nil .nil .nil) (.node (some F225) .nil .nil .nil .nil .nil .nil .nil .nil) (.node (some F289) .nil .nil .nil .nil .nil .nil .nil .nil) .nil .nil .nil) (.node (some F41) .nil (.node (some F105) .nil .nil .nil .nil .nil .nil .nil .nil) (.node (some F169) .nil .nil .nil .nil .nil .nil .nil .nil) (.node (some F233) .nil .nil .nil .nil .nil .nil .nil .nil) (.node (some F297) .nil .nil .nil .nil .nil .nil .nil .nil) .nil .nil .nil) (.node (some F49) .nil (.node (some F113) .nil .nil .nil .nil .nil .nil .nil .nil) (.node (some F177) .nil .nil .nil .nil .nil .nil .nil .nil) (.node (some F241) .nil .nil .nil .nil .nil .nil .nil .nil) .nil .nil .nil .nil) (.node (some F57) .nil (.node (some F121) .nil .nil .nil .nil .nil .nil .nil .nil) (.node (some F185) .nil .nil .nil .nil .nil .nil .nil .nil) (.node (some F249) .nil .nil .nil .nil .nil .nil .nil .nil) .nil .nil .nil .nil)) (.node (some F2) (.node none .nil (.node (some F66) .nil .nil .nil .nil .nil .nil .nil .nil) (.node (some F130) .nil .nil .nil .nil .nil .nil .nil .nil) (.node (some F194) .nil .nil .nil .nil .nil .nil .nil .nil) (.node (some F258) .nil .nil .nil .nil .nil .nil .nil .nil) .nil .nil .nil) (.node (some F10) .nil (.node (some F74) .nil .nil .nil .nil .nil .nil .nil .nil) (.node (some F138) .nil .nil .nil .nil .nil .nil .nil .nil) (.node (some F202) .nil .nil .nil .nil .nil .nil .nil .nil) (.node (some F266) .nil .nil .nil .nil .nil .nil .nil .nil) .nil .nil .nil) (.node (some F18) .nil (.node (some F82) .nil .nil .nil .nil .nil .nil .nil .nil) (.node (some F146) .nil .nil .nil .nil .nil .nil .nil .nil) (.node (some F210) .nil .nil .nil .nil .nil .nil .nil .nil) .nil .nil .nil .nil) (.node (some F26) .nil (.node (some F90) .nil .nil .nil .nil .nil .nil .nil .nil) (.node (some F154) .nil .nil .nil .nil .nil .nil .nil .nil) (.node (some F218) .nil .nil .nil .nil .nil .nil .nil .nil) (.node (some F282) .nil .nil .nil .nil .nil .nil .nil .nil) .nil .nil .nil) (.node (some F34) .nil (.node (some F98) .nil .nil .nil .nil .nil .nil .nil .nil) (.node (some F162) .nil .nil .nil .nil .nil .nil .nil .nil) (.node (some F226) .nil .nil .nil .nil .nil .nil .nil .nil) .nil .nil .nil .nil) (.node (some F42) .nil (.node (some F106) .nil .nil .nil .nil .nil .nil .nil .nil) (.node (some F170) .nil .nil .nil .nil .nil .nil .nil .nil) (.node (some F234) .nil .nil .nil .nil .nil .nil .nil .nil) (.node (some F298) .nil .nil .nil .nil .nil .nil .nil .nil) .nil .nil .nil) (.node (some F50) .nil (.node (some F114) .nil .nil .nil .nil .nil .nil .nil .nil) (.node (some F178) .nil .nil .nil .nil .nil .nil .nil .nil) (.node (some F242) .nil .nil .nil .nil .nil .nil .nil .nil) .nil .nil .nil .nil) (.node (some F58) .nil (.node (some F122) .nil .nil .nil .nil .nil .nil .nil .nil) (.node (some F186) .nil .nil .nil .nil .nil .nil .nil .nil) (.node (some F250) .nil .nil .nil .nil .nil .nil .nil .nil) .nil .nil .nil .nil)) (.node (some F3) (.node none .nil (.node (some F67) .nil .nil .nil .nil .nil .nil .nil .nil) (.node (some F131) .nil .nil .nil .nil .nil .nil .nil .nil) (.node (some F195) .nil .nil .nil .nil .nil .nil .nil .nil) (.node (some F259) .nil .nil .nil .nil .nil .nil .nil .nil) .nil .nil .nil) (.node (some F11) .nil (.node (some F75) .nil .nil .nil .nil .nil .nil .nil .nil) (.node (some F139) .nil .nil .nil .nil .nil .nil .nil .nil) (.node (some F203) .nil .nil .nil .nil .nil .nil .nil .nil) .nil .nil .nil .nil) (.node (some F19) .nil (.node (some F83) .nil .nil .nil .nil .nil .nil .nil .nil) (.node (some F147) .nil .nil .nil .nil .nil .nil .nil .nil) (.node (some F211) .nil .nil .nil .nil .nil .nil .nil .nil) .nil .nil .nil .nil) (.node (some F27) .nil (.node (some F91) .nil .nil .nil .nil .nil .nil .nil .nil) (.node (some F155) .nil .nil .nil .nil .nil .nil .nil .nil) (.node (some F219) .nil .nil .nil .nil .nil .nil .nil .nil) (.node (some F283) .nil .nil .nil .nil .nil .nil .nil .nil) .nil .nil .nil) (.node (some F35) .nil (.node (some F99) .nil .nil .nil .nil .nil .nil .nil .nil) (.node (some F163) .nil .nil .nil .nil .nil .nil .nil .nil) (.node (some F227) .nil .nil .nil .nil .nil .nil .nil .nil) (.node (some F291) .nil .nil .nil .nil .nil .nil .nil .nil) .nil .nil .nil) (.node (some F43) .nil (.node (some F107) .nil .nil .nil .nil .nil .nil .nil .nil) (.node (some F171) .nil .nil .nil .nil .nil .nil .nil .nil) (.node (some F235) .nil .nil .nil .nil .nil .nil .nil .nil) (.node (some F299) .nil .nil .nil .nil .nil .nil .nil .nil) .nil .nil .nil) (.node (some F51) .nil (.node (some F115) .nil .nil .nil .nil .nil .nil .nil .nil) (.node (some F179) .nil .nil .nil .nil .nil .nil .nil .nil) (.node (some F243) .nil .nil .nil .nil .nil .nil .nil .nil) .nil .nil .nil .nil) (.node (some F59) .nil (.node (some F123) .nil .nil .nil .nil .nil .nil .nil .nil) (.node (some F187) .nil .nil .nil .nil .nil .nil .nil .nil) (.node (some F251) .nil .nil .nil .nil .nil .nil .nil .nil) .nil .nil .nil .nil)) (.node (some F4) (.node none .nil (.node (some F68) .nil .nil .nil .nil .nil .nil .nil .nil) (.node (some F132) .nil .nil .nil .nil .nil .nil .nil .nil) (.node (some F196) .nil .nil .nil .nil .nil .nil .nil .nil) (.node (some F260) .nil .nil .nil .nil .nil .nil .nil .nil) .nil .nil .nil) (.node (some F12) .nil (.node (some F76) .nil .nil .nil .nil .nil .nil .nil .nil) (.node (some F140) .nil .nil .nil .nil .nil .nil .nil .nil) (.node (some F204) .nil .nil .nil .nil .nil .nil .nil .nil) .nil .nil .nil .nil) (.node (some F20) .nil (.node (some F84) .nil .nil .nil .nil .nil .nil .nil .nil) (.node (some F148) .nil .nil .nil .nil .nil .nil .nil .nil) (.node (some F212) .nil .nil .nil .nil .nil .nil .nil .nil) (.node (some F276) .nil .nil .nil .nil .nil .nil .nil .nil) .nil .nil .nil) (.node (some F28) .nil (.node (some F92) .nil .nil .nil .nil .nil .nil .nil .nil) (.node (some F156) .nil .nil .nil .nil .nil .nil .nil .nil) (.node (some F220) .nil .nil .nil .nil .nil .nil .nil .nil) (.node (some F284) .nil .nil .nil .nil .nil .nil .nil .nil) .nil .nil .nil) (.node (some F36) .nil (.node (some F100) .nil .nil .nil .nil .nil .nil .nil .nil) (.node (some F164) .nil .nil .nil .nil .nil .nil .nil .nil) (.node (some F228) .nil .nil .nil .nil .nil .nil .nil .nil) (.node (some F292) .nil .nil .nil .nil .nil .nil .nil .nil) .nil .nil .nil) (.node (some F44) .nil (.node (some F108) .nil .nil .nil .nil .nil .nil .nil .nil) (.node (some F172) .nil .nil .nil .nil .nil .nil .nil .nil) (.node (some F236) .nil .nil .nil .nil .nil .nil .nil .nil) (.node (some F300) .nil .nil .nil .nil .nil .nil .nil .nil) .nil .nil .nil) (.node (some F52) .nil (.node (some F116) .nil .nil .nil .nil .nil .nil .nil .nil) (.node (some F180) .nil .nil .nil .nil .nil .nil .nil .nil) (.node (some F244) .nil .nil .nil .nil .nil .nil .nil .nil) .nil .nil .nil .nil) (.node (some F60) .nil (.node (some F124) .nil .nil .nil .nil .nil .nil .nil .nil) (.node (some F188) .nil .nil .nil .nil .nil .nil .nil .nil) (.node (some F252) .nil .nil .nil .nil .nil .nil .nil .nil) .nil .nil .nil .nil)) (.node (some F5) (.node none .nil (.node (some F69) .nil .nil .nil .nil .nil .nil .nil .nil) (.node (some F133) .nil .nil .nil .nil .nil .nil .nil .nil) (.node (some F197) .nil .nil .nil .nil .nil .nil .nil .nil) (.node (some F261) .nil .nil .nil .nil .nil .nil .nil .nil) .nil .nil .nil) (.node (some F13) .nil (.node (some F77) .nil .nil .nil .nil .nil .nil .nil .nil) (.node (some F141) .nil .nil .nil .nil .nil .nil .nil .nil) (.node (some F205) .nil .nil .nil .nil .nil .nil .nil .nil) .nil .nil .nil .nil) (.node (some F21) .nil (.node (some F85) .nil .nil .nil .nil .nil .nil .nil .nil) (.node (some F149) .nil .nil .nil .nil .nil .nil .nil .nil) (.node (some F213) .nil .nil .nil .nil .nil .nil .nil .nil) (.node (some F277) .nil .nil .nil .nil .nil .nil .nil .nil) .nil .nil .nil) (.node (some F29) .nil (.node (some F93) .nil .nil .nil .nil .nil .nil .nil .nil) (.node (some F157) .nil .nil .nil .nil .nil .nil .nil .nil) (.node (some F221) .nil .nil .nil .nil .nil .nil .nil .nil) (.node (some F285) .nil .nil .nil .nil .nil .nil .nil .nil) .nil .nil .nil) (.node (some F37) .nil (.node (some F101) .nil .nil .nil .nil .nil .nil .nil .nil) (.node (some F165) .nil .nil .nil .nil .nil .nil .nil .nil) (.node (some F229) .nil .nil .nil .nil .nil .nil .nil .nil) (.node (some F293) .nil .nil .nil .nil .nil .nil .nil .nil) .nil .nil .nil) (.node (some F45) .nil (.node (some F109) .nil .nil .nil .nil .nil .nil .nil .nil) (.node (some F173) .nil .nil .nil .nil .nil .nil .nil .nil) (.node (some F237) .nil .nil .nil .nil .nil .nil .nil .nil) .nil .nil .nil .nil) (.node (some F53) .nil (.node (some F117) .nil .nil .nil .nil .nil .nil .nil .nil) (.node (some F181) .nil .nil .nil .nil .nil .nil .nil .nil) (.node (some F245) .nil .nil .nil .nil .nil .nil .nil .nil) .nil .nil .nil .nil) (.node (some F61) .nil (.node (some F125) .nil .nil .nil .nil .nil .nil .nil .nil) (.node (some F189) .nil .nil .nil .nil .nil .nil .nil .nil) (.node (some F253) .nil .nil .nil .nil .nil .nil .nil .nil) .nil .nil .nil .nil)) (.node (some F6) (.node none .nil (.node (some F70) .nil .nil .nil .nil .nil .nil .nil .nil) (.node (some F134) .nil .nil .nil .nil .nil .nil .nil .nil) (.node (some F198) .nil .nil .nil .nil .nil .nil .nil .nil) (.node (some F262) .nil .nil .nil .nil .nil .nil .nil .nil) .nil .nil .nil) (.node (some F14) .nil (.node (some F78) .nil .nil .nil .nil .nil .nil .nil .nil) (.node (some F142) .nil .nil .nil .nil .nil .nil .nil .nil) (.node (some F206) .nil .nil .nil .nil .nil .nil .nil .nil) .nil .nil .nil .nil) (.node (some F22) .nil (.node (some F86) .nil .nil .nil .nil .nil .nil .nil .nil) (.node (some F150) .nil .nil .nil .nil .nil .nil .nil .nil) (.node (some F214) .nil .nil .nil .nil .nil .nil .nil .nil) (.node (some F278) .nil .nil .nil .nil .nil .nil .nil .nil) .nil .nil .nil) (.node (some F30) .nil (.node (some F94) .nil .nil .nil .nil .nil .nil .nil .nil) (.node (some F158) .nil .nil .nil .nil .nil .nil .nil .nil) (.node (some F222) .nil .nil .nil .nil .nil .nil .nil .nil) (.node (some F286) .nil .nil .nil .nil .nil .nil .nil .nil) .nil .nil .nil) (.node (some F38) .nil (.node (some F102) .nil .nil .nil .nil .nil .nil .nil .nil) (.node (some F166) .nil .nil .nil .nil .nil .nil .nil .nil) (.node (some F230) .nil .nil .nil .nil .nil .nil .nil .nil) (.node (some F294) .nil .nil .nil .nil .nil .nil .nil .nil) .nil .nil .nil) (.node (some F46) .nil (.node (some F110) .nil .nil .nil .nil .nil .nil .nil .nil) (.node (some F174) .nil .nil .nil .nil .nil .nil .nil .nil) .nil (.node (some F302) .nil .nil .nil .nil .nil .nil .nil .nil) .nil .nil .nil) (.node (some F54) .nil (.node (some F118) .nil .nil .nil .nil .nil .nil .nil .nil) (.node (some F182) .nil .nil .nil .nil .nil .nil .nil .nil) (.node (some F246) .nil .nil .nil .nil .nil .nil .nil .nil) .nil .nil .nil .nil) (.node (some F62) .nil (.node (some F126) .nil .nil .nil .nil .nil .nil .nil .nil) (.node (some F190) .nil .nil .nil .nil .nil .nil .nil .nil) (.node (some F254) .nil .nil .nil .nil .nil .nil .nil .nil) .nil .nil .nil .nil)) (.node (some F7) (.node none .nil (.node (some F71) .nil .nil .nil .nil .nil .nil .nil .nil) (.node (some F135) .nil .nil .nil .nil .nil .nil .nil .nil) (.node (some F199) .nil .nil .nil .nil .nil .nil .nil .nil) (.node (some F263) .nil .nil .nil .nil .nil .nil .nil .nil) .nil .nil .nil) (.node (some F15) .nil (.node (some F79) .nil .nil .nil .nil .nil .nil .nil .nil) (.node (some F143) .nil .nil .nil .nil .nil .nil .nil .nil) (.node (some F207) .nil .nil .nil .nil .nil .nil .nil .nil) .nil .nil .nil .nil) (.node (some F23) .nil (.node (some F87) .nil .nil .nil .nil .nil .nil .nil .nil) (.node (some F151) .nil .nil .nil .nil .nil .nil .nil .nil) (.node (some F215) .nil .nil .nil .nil .nil .nil .nil .nil) (.node (some F279) .nil .nil .nil .nil .nil .nil .nil .nil) .nil .nil .nil) (.node (some F31) .nil (.node (some F95) .nil .nil .nil .nil .nil .nil .nil .nil) (.node (some F159) .nil .nil .nil .nil .nil .nil .nil .nil) (.node (some F223) .nil .nil .nil .nil .nil .nil .nil .nil) (.node (some F287) .nil .nil .nil .nil .nil .nil .nil .nil) .nil .nil .nil) (.node (some F39) .nil (.node (some F103) .nil .nil .nil .nil .nil .nil .nil .nil) (.node (some F167) .nil .nil .nil .nil .nil .nil .nil .nil) (.node (some F231) .nil .nil .nil .nil .nil .nil .nil .nil) (.node (some F295) .nil .nil .nil .nil .nil .nil .nil .nil) .nil .nil .nil) (.node (some F47) .nil (.node (some F111) .nil .nil .nil .nil .nil .nil .nil .nil) (.node (some F175) .nil .nil .nil .nil .nil .nil .nil .nil) .nil .nil .nil .nil .nil) (.node (some F55) .nil (.node (some F119) .nil .nil .nil .nil .nil .nil .nil .nil) (.node (some F183) .nil .nil .nil .nil .nil .nil .nil .nil) (.node (some F247) .nil .nil .nil .nil .nil .nil .nil .nil) .nil .nil .nil .nil) (.node (some F63) .nil (.node (some F127) .nil .nil .nil .nil .nil .nil .nil .nil) (.node (some F191) .nil .nil .nil .nil .nil .nil .nil .nil) .nil .nil .nil .nil .nil)))
noncomputable def FL : List (Nat × FD) := [(2, F2), (3, F3), (4, F4), (5, F5), (6, F6), (7, F7), (8, F8), (9, F9), (10, F10), (11, F11), (12, F12), (13, F13), (14, F14), (15, F15), (16, F16), (17, F17), (18, F18), (19, F19), (20, F20), (21, F21), (22, F22), (23, F23), (24, F24), (25, F25), (26, F26), (27, F27), (28, F28), (29, F29), (30, F30), (31, F31), (32, F32), (33, F33), (34, F34), (35, F35), (36, F36), (37, F37), (38, F38), (39, F39), (40, F40), (41, F41), (42, F42), (43, F43), (44, F44), (45, F45), (46, F46), (47, F47), (48, F48), (49, F49), (50, F50), (51, F51), (52, F52), (53, F53), (54, F54), (55, F55), (56, F56), (57, F57), (58, F58), (59, F59), (60, F60), (61, F61), (62, F62), (63, F63), (64, F64), (65, F65), (66, F66), (67, F67), (68, F68), (69, F69), (70, F70), (71, F71), (72, F72), (73, F73), (74, F74), (75, F75), (76, F76), (77, F77), (78, F78), (79, F79), (80, F80), (81, F81), (82, F82), (83, F83), (84, F84), (85, F85), (86, F86), (87, F87), (88, F88), (89, F89), (90, F90), (91, F91), (92, F92), (93, F93), (94, F94), (95, F95), (96, F96), (97, F97), (98, F98), (99, F99), (100, F100), (101, F101), (102, F102), (103, F103), (104, F104), (105, F105), (106, F106), (107, F107), (108, F108), (109, F109), (110, F110), (111, F111), (112, F112), (113, F113), (114, F114), (115, F115), (116, F116), (117, F117), (118, F118), (119, F119), (120, F120), (121, F121), (122, F122), (123, F123), (124, F124), (125, F125), (126, F126), (127, F127), (128, F128), (129, F129), (130, F130), (131, F131), (132, F132), (133, F133), (134, F134), (135, F135), (136, F136), (137, F137), (138, F138), (139, F139), (140, F140), (141, F141), (142, F142), (143, F143), (144, F144), (145, F145), (146, F146), (147, F147), (148, F148), (149, F149), (150, F150), (151, F151), (152, F152), (153, F153), (154, F154), (155, F155), (156, F156), (157, F157), (158, F158), (159, F159), (160, F160), (161, F161), (162, F162), (163, F163), (164, F164), (165, F165), (166, F166), (167, F167), (168, F168), (169, F169), (170, F170), (171, F171), (172, F172), (173, F173), (174, F174), (175, F175), (176, F176), (177, F177), (178, F178), (179, F179), (180, F180), (181, F181), (182, F182), (183, F183), (184, F184), (185, F185), (186, F186), (187, F187), (188, F188), (189, F189), (190, F190), (191, F191), (192, F192), (193, F193), (194, F194), (195, F195), (196, F196), (197, F197), (198, F198), (199, F199), (200, F200), (201, F201), (202, F202), (203, F203), (204, F204), (205, F205), (206, F206), (207, F207), (208, F208), (209, F209), (210, F210), (211, F211), (212, F212), (213, F213), (214, F214), (215, F215), (216, F216), (217, F217), (218, F218), (219, F219), (220, F220), (221, F221), (222, F222), (223, F223), (224, F224), (225, F225), (226, F226), (227, F227), (228, F228), (229, F229), (230, F230), (231, F231), (232, F232), (233, F233), (234, F234), (235, F235), (236, F236), (237, F237), (241, F241), (242, F242), (243, F243), (244, F244), (245, F245), (246, F246), (247, F247), (248, F248), (249, F249), (250, F250), (251, F251), (252, F252), (253, F253), (254, F254), (256, F256), (257, F257), (258, F258), (259, F259), (260, F260), (261, F261), (262, F262), (263, F263), (264, F264), (265, F265), (266, F266), (276, F276), (277, F277), (278, F278), (279, F279), (280, F280), (281, F281), (282, F282), (283, F283), (284, F284), (285, F285), (286, F286), (287, F287), (288, F288), (289, F289), (291, F291), (292, F292), (293, F293), (294, F294), (295, F295), (296, F296), (297, F297), (298, F298), (299, F299), (300, F300), (302, F302), (304, F304), (320, F320)]
theorem allOk : AllOk Pg FL := ⟨ok2, ok3, ok4, ok5, ok6, ok7, ok8, ok9, ok10, ok11, ok12, ok13, ok14, ok15, ok16, ok17, ok18, ok19, ok20, ok21, ok22, ok23, ok24, ok25, ok26, ok27, ok28, ok29, ok30, ok31, ok32, ok33, ok34, ok35, ok36, ok37, ok38, ok39, ok40, ok41, ok42, ok43, ok44, ok45, ok46, ok47, ok48, ok49, ok50, ok51, ok52, ok53, ok54, ok55, ok56, ok57, ok58, ok59, ok60, ok61, ok62, ok63, ok64, ok65, ok66, ok67, ok68, ok69, ok70, ok71, ok72, ok73, ok74, ok75, ok76, ok77, ok78, ok79, ok80, ok81, ok82, ok83, ok84, ok85, ok86, ok87, ok88, ok89, ok90, ok91, ok92, ok93, ok94, ok95, ok96, ok97, ok98, ok99, ok100, ok101, ok102, ok103, ok104, ok105, ok106, ok107, ok108, ok109, ok110, ok111, ok112, ok113, ok114, ok115, ok116, ok117, ok118, ok119, ok120, ok121, ok122, ok123, ok124, ok125, ok126, ok127, ok128, ok129, ok130, ok131, ok132, ok133, ok134, ok135, ok136, ok137, ok138, ok139, ok140, ok141, ok142, ok143, ok144, ok145, ok146, ok147, ok148, ok149, ok150, ok151, ok152, ok153, ok154, ok155, ok156, ok157, ok158, ok159, ok160, ok161, ok162, ok163, ok164, ok165, ok166, ok167, ok168, ok169, ok170, ok171, ok172, ok173, ok174, ok175, ok176, ok177, ok178, ok179, ok180, ok181, ok182, ok183, ok184, ok185, ok186, ok187, ok188, ok189, ok190, ok191, ok192, ok193, ok194, ok195, ok196, ok197, ok198, ok199, ok200, ok201, ok202, ok203, ok204, ok205, ok206, ok207, ok208, ok209, ok210, ok211, ok212, ok213, ok214, ok215, ok216, ok217, ok218, ok219, ok220, ok221, ok222, ok223, ok224, ok225, ok226, ok227, ok228, ok229, ok230, ok231, ok232, ok233, ok234, ok235, ok236, ok237, ok241, ok242, ok243, ok244, ok245, ok246, ok247, ok248, ok249, ok250, ok251, ok252, ok253, ok254, ok256, ok257, ok258, ok259, ok260, ok261, ok262, ok263, ok264, ok265, ok266, ok276, ok277, ok278, ok279, ok280, ok281, ok282, ok283, ok284, ok285, ok286, ok287, ok288, ok289, ok291, ok292, ok293, ok294, ok295, ok296, ok297, ok298, ok299, ok300, ok302, ok304, ok320, trivial⟩
theorem tabOk : TabOk Pg FT := tabOk_of (show FT = T8.ofList FL from by kernel_rfl) allOk
def PT : T8 Unit := (.node none (.node none (.node none .nil (.node (some ()) .nil .nil .nil .nil .nil .nil .nil .nil) (.node (some ()) .nil .nil .nil .nil .nil .nil .nil .nil) .nil (.node (some ()) .nil .nil .nil .nil .nil .nil .nil .nil) (.node (some ()) .nil .nil .nil .nil .nil .nil .nil .nil) .nil .nil) (.node none .nil .nil .nil (.node (some ()) .nil .nil .nil .nil .nil .nil .nil .nil) (.node (some ()) .nil .nil .nil .nil .nil .nil .nil .nil) .nil .nil .nil) (.node (some ()) .nil .nil (.node (some ()) .nil .nil .nil .nil .nil .nil .nil .nil) (.node (some ()) .nil .nil .nil .nil .nil .nil .nil .nil) .nil .nil .nil .nil) (.node none .nil .nil .nil (.node (some ()) .nil .nil .nil .nil .nil .nil .nil .nil) .nil .nil .nil .nil) .nil .nil .nil .nil) (.node none (.node none .nil .nil .nil .nil (.node (some ()) .nil .nil .nil .nil .nil .nil .nil .nil) .nil .nil .nil) (.node none .nil .nil .nil (.node (some ()) .nil .nil .nil .nil .nil .nil .nil .nil) (.node (some ()) .nil .nil .nil .nil .nil .nil .nil .nil) .nil .nil .nil) (.node none .nil (.node (some ()) .nil .nil .nil .nil .nil .nil .nil .nil) .nil (.node (some ()) .nil .nil .nil .nil .nil .nil .nil .nil) .nil .nil .nil .nil) .nil (.node none .nil (.node (some ()) .nil .nil .nil .nil .nil .nil .nil .nil) .nil .nil .nil .nil .nil .nil) .nil .nil .nil) (.node none .nil .nil .nil (.node none .nil .nil .nil (.node (some ()) .nil .nil .nil .nil .nil .nil .nil .nil) .nil .nil .nil .nil) .nil .nil .nil (.node (some ()) .nil .nil .nil .nil .nil .nil .nil .nil)) (.node none (.node none .nil (.node (some ()) .nil .nil .nil .nil .nil .nil .nil .nil) .nil .nil .nil .nil .nil .nil) .nil .nil (.node none .nil .nil .nil (.node (some ()) .nil .nil .nil .nil .nil .nil .nil .nil) .nil .nil .nil .nil) (.node none .nil .nil (.node (some ()) .nil .nil .nil .nil .nil .nil .nil .nil) .nil .nil .nil .nil .nil) .nil (.node none .nil .nil .nil (.node (some ()) .nil .nil .nil .nil .nil .nil .nil .nil) .nil .nil .nil .nil) .nil) (.node none .nil (.node none .nil .nil .nil (.node (some ()) .nil .nil .nil .nil .nil .nil .nil .nil) .nil .nil .nil .nil) (.node none .nil .nil .nil (.node (some ()) .nil .nil .nil .nil .nil .nil .nil .nil) .nil .nil .nil .nil) (.node none .nil .nil .nil (.node (some ()) .nil .nil .nil .nil .nil .nil .nil .nil) .nil .nil .nil .nil) (.node none .nil .nil (.node (some ()) .nil .nil .nil .nil .nil .nil .nil .nil) .nil .nil .nil .nil .nil) .nil .nil .nil) (.node none .nil (.node none .nil (.node (some ()) .nil .nil .nil .nil .nil .nil .nil .nil) (.node (some ()) .nil .nil .nil .nil .nil .nil .nil .nil) .nil .nil .nil .nil .nil) (.node none .nil .nil .nil (.node (some ()) .nil .nil .nil .nil .nil .nil .nil .nil) .nil .nil .nil .nil) (.node none .nil .nil .nil (.node (some ()) .nil .nil .nil .nil .nil .nil .nil .nil) .nil .nil .nil .nil) .nil (.node none .nil .nil .nil (.node (some ()) .nil .nil .nil .nil .nil .nil .nil .nil) .nil .nil .nil .nil) (.node (some ()) .nil .nil .nil .nil .nil .nil .nil .nil) .nil) (.node none (.node none .nil (.node (some ()) .nil .nil .nil .nil .nil .nil .nil .nil) .nil .nil .nil .nil .nil .nil) .nil (.node none .nil .nil .nil (.node (some ()) .nil .nil .nil .nil .nil .nil .nil .nil) .nil .nil .nil .nil) (.node none .nil .nil .nil (.node (some ()) .nil .nil .nil .nil .nil .nil .nil .nil) .nil .nil .nil .nil) (.node none .nil .nil .nil (.node (some ()) .nil .nil .nil .nil .nil .nil .nil .nil) (.node (some ()) .nil .nil .nil .nil .nil .nil .nil .nil) .nil .nil .nil) (.node none .nil (.node (some ()) .nil .nil .nil .nil .nil .nil .nil .nil) .nil .nil .nil .nil .nil .nil) (.node (some ()) .nil .nil .nil .nil .nil .nil .nil .nil) .nil) (.node none (.node none .nil .nil (.node (some ()) .nil .nil .nil .nil .nil .nil .nil .nil) .nil .nil .nil .nil .nil) (.node none .nil (.node (some ()) .nil .nil .nil .nil .nil .nil .nil .nil) (.node (some ()) .nil .nil .nil .nil .nil .nil .nil .nil) .nil .nil .nil .nil .nil) (.node (some ()) .nil .nil .nil (.node (some ()) .nil .nil .nil .nil .nil .nil .nil .nil) .nil .nil .nil .nil) .nil (.node none .nil .nil .nil (.node (some ()) .nil .nil .nil .nil .nil .nil .nil .nil) .nil .nil .nil .nil) .nil .nil .nil))
noncomputable def pu : FuncId → Bool := fun f => (T8.get (path f) PT).isSome
def crcStep (r : Nat) : Nat := Nat.xor (Nat.shiftRight r 1) (Nat.mul 3988292384 (Nat.land r 1))
def crc8 : Nat → Nat → Nat
  | 0, r => r
  | n + 1, r => crc8 n (crcStep r)
noncomputable def crcGo : List UInt8 → Nat → Nat
  | [], r => r
  | b :: s, r => fNat (crc8 8 (Nat.xor r b.toNat)) fun r => crcGo s r
noncomputable def crcMore (sum : Nat) (s : List UInt8) : Nat := Nat.xor (crcGo s (Nat.xor sum 4294967295)) 4294967295
noncomputable def hd : HdF := fun f a => match Nat.beq f 265 with
  | true => (match a with
    | [.int .u32 (.ofNat n), .str s] => bif Nat.blt n 4294967296 && Nat.blt s.length 1000000 then some (.int .u32 (.ofNat (crcMore n s))) else none
    | _ => none)
  | false => none
end Go.Proofs.YtcglbpjpbjaecaaGreat.Ru
namespace Go.Proofs.YtcglbpjpbjaecaaGreat.Sh
open Go Go.Ab Go.RowKit
open Go.Proofs.YtcglbpjpbjaecaaGreat.Ru (Pg okP)
set_option maxRecDepth 100000
noncomputable def B5 : Code := (Tryz.f5.body).getD .skip
def R5 : List ResultVar := [.tmp 4]
abbrev N5 : Nat := 71
def K5 : KT := (.seq .leaf (.seq .leaf (.seq .leaf (.seq .leaf (.join (.reg [[0, 5, 6, 7, 8, 9, 25, 29], [5, 6, 7, 8, 9, 31, 35], [5, 7, 8, 9, 37, 40], [5, 8, 9, 42, 44], [5, 8, 9, 46, 48], [5, 8, 9, 50, 53], [8, 9, 55, 58], [9, 60, 62], [64, 66], [68, 69]]) .leaf [4]) [0, 3, 5, 6, 7, 8, 9]) [0, 3, 5, 6, 7]) [0, 3, 5]) [0, 3])
def J5_11111 (Q : AEnd → AH → Prop) (x4 : V) (h : AH) : Prop := vcAt Pg N5 B5 K5 [1, 1, 1, 1, 1] [] (vcRet Pg R5 Q) [(4, x4)] h
def G5_111101020 (Q : AEnd → AH → Prop) (x68 x69 : V) (h : AH) : Prop := segAt Pg N5 B5 K5 [1, 1, 1, 1, 0] 20 10 [] (vcRet Pg R5 Q) [(68, x68), (69, x69)] h
def G5_111101018 (Q : AEnd → AH → Prop) (x64 x66 : V) (h : AH) : Prop := segAt Pg N5 B5 K5 [1, 1, 1, 1, 0] 18 9 [] (vcRet Pg R5 Q) [(64, x64), (66, x66)] h
def G5_111101016 (Q : AEnd → AH → Prop) (x9 x60 x62 : V) (h : AH) : Prop := segAt Pg N5 B5 K5 [1, 1, 1, 1, 0] 16 8 [] (vcRet Pg R5 Q) [(9, x9), (60, x60), (62, x62)] h
def G5_111101014 (Q : AEnd → AH → Prop) (x8 x9 x55 x58 : V) (h : AH) : Prop := segAt Pg N5 B5 K5 [1, 1, 1, 1, 0] 14 7 [] (vcRet Pg R5 Q) [(8, x8), (9, x9), (55, x55), (58, x58)] h
def G5_111101012 (Q : AEnd → AH → Prop) (x5 x8 x9 x50 x53 : V) (h : AH) : Prop := segAt Pg N5 B5 K5 [1, 1, 1, 1, 0] 12 6 [] (vcRet Pg R5 Q) [(5, x5), (8, x8), (9, x9), (50, x50), (53, x53)] h
def G5_111101010 (Q : AEnd → AH → Prop) (x5 x8 x9 x46 x48 : V) (h : AH) : Prop := segAt Pg N5 B5 K5 [1, 1, 1, 1, 0] 10 5 [] (vcRet Pg R5 Q) [(5, x5), (8, x8), (9, x9), (46, x46), (48, x48)] h
def G5_111101008 (Q : AEnd → AH → Prop) (x5 x8 x9 x42 x44 : V) (h : AH) : Prop := segAt Pg N5 B5 K5 [1, 1, 1, 1, 0] 8 4 [] (vcRet Pg R5 Q) [(5, x5), (8, x8), (9, x9), (42, x42), (44, x44)] h
def G5_111101006 (Q : AEnd → AH → Prop) (x5 x7 x8 x9 x37 x40 : V) (h : AH) : Prop := segAt Pg N5 B5 K5 [1, 1, 1, 1, 0] 6 3 [] (vcRet Pg R5 Q) [(5, x5), (7, x7), (8, x8), (9, x9), (37, x37), (40, x40)] h
def G5_111101004 (Q : AEnd → AH → Prop) (x5 x6 x7 x8 x9 x31 x35 : V) (h : AH) : Prop := segAt Pg N5 B5 K5 [1, 1, 1, 1, 0] 4 2 [] (vcRet Pg R5 Q) [(5, x5), (6, x6), (7, x7), (8, x8), (9, x9), (31, x31), (35, x35)] h
def G5_111101002 (Q : AEnd → AH → Prop) (x0 x5 x6 x7 x8 x9 x25 x29 : V) (h : AH) : Prop := segAt Pg N5 B5 K5 [1, 1, 1, 1, 0] 2 1 [] (vcRet Pg R5 Q) [(0, x0), (5, x5), (6, x6), (7, x7), (8, x8), (9, x9), (25, x25), (29, x29)] h
theorem J5_11111_eq (Q : AEnd → AH → Prop) (x4 : V) (h : AH) : J5_11111 Q x4 h = (
  Q (.ret x4) h) := by kernel_rfl
theorem G5_111101020_eq (Q : AEnd → AH → Prop) (x68 x69 : V) (h : AH) : G5_111101020 Q x68 x69 h = (
  bindV (aPick x68 x69 (V.bool false) h) fun v43 h44 =>
  Meet (J5_11111 Q v43 h44)) := by kernel_rfl
theorem G5_111101018_eq (Q : AEnd → AH → Prop) (x64 x66 : V) (h : AH) : G5_111101018 Q x64 x66 h = (
  bindV (aPick x64 x66 (V.bool false) h) fun v41 h42 =>
  vcG v41 true (
  ACalls Pg 34 [] h42 (aEnd (fun v45 h46 =>
  Meet (G5_111101020 Q v41 v45 h46)) fun v h => Q (.panic v) h)) (Meet (G5_111101020 Q v41 hole h42))) := by kernel_rfl
theorem G5_111101016_eq (Q : AEnd → AH → Prop) (x9 x60 x62 : V) (h : AH) : G5_111101016 Q x9 x60 x62 h = (
  bindV (aPick x60 x62 (V.bool false) h) fun v39 h40 =>
  vcG v39 true (
  bindV (still (aBin Pg .eql 29 x9 (V.int .i64 4) true) h40) fun v47 h48 =>
  Meet (G5_111101018 Q v39 v47 h48)) (Meet (G5_111101018 Q v39 hole h40))) := by kernel_rfl
theorem G5_111101014_eq (Q : AEnd → AH → Prop) (x8 x9 x55 x58 : V) (h : AH) : G5_111101014 Q x8 x9 x55 x58 h = (
  bindV (aPick x55 x58 (V.bool false) h) fun v37 h38 =>
  vcG v37 true (
  bindV (still (aBin Pg .eql 58 x8 (V.ptr none) true) h38) fun v49 h50 =>
  Meet (G5_111101016 Q x9 v37 v49 h50)) (Meet (G5_111101016 Q x9 v37 hole h38))) := by kernel_rfl
theorem G5_111101012_eq (Q : AEnd → AH → Prop) (x5 x8 x9 x50 x53 : V) (h : AH) : G5_111101012 Q x5 x8 x9 x50 x53 h = (
  bindV (aPick x50 x53 (V.bool false) h) fun v35 h36 =>
  vcG v35 true (
  ACalls Pg 33 [x5] h36 (aEnd (fun v51 h52 =>
  bindV (still (aBin Pg .eql 68 v51 (V.ptr none) true) h52) fun v53 h54 =>
  Meet (G5_111101014 Q x8 x9 v35 v53 h54)) fun v h => Q (.panic v) h)) (Meet (G5_111101014 Q x8 x9 v35 hole h36))) := by kernel_rfl
theorem G5_111101010_eq (Q : AEnd → AH → Prop) (x5 x8 x9 x46 x48 : V) (h : AH) : G5_111101010 Q x5 x8 x9 x46 x48 h = (
  bindV (aPick x46 x48 (V.bool false) h) fun v33 h34 =>
  vcG v33 true (
  ACalls Pg 32 [x5] h34 (aEnd (fun v55 h56 =>
  bindV (still (aBin Pg .eql 42 v55 (V.ptr none) true) h56) fun v57 h58 =>
  Meet (G5_111101012 Q x5 x8 x9 v33 v57 h58)) fun v h => Q (.panic v) h)) (Meet (G5_111101012 Q x5 x8 x9 v33 hole h34))) := by kernel_rfl
theorem G5_111101008_eq (Q : AEnd → AH → Prop) (x5 x8 x9 x42 x44 : V) (h : AH) : G5_111101008 Q x5 x8 x9 x42 x44 h = (
  bindV (aPick x42 x44 (V.bool false) h) fun v31 h32 =>
  vcG v31 true (
  ACalls Pg 31 [x5] h32 (aEnd (fun v59 h60 =>
  Meet (G5_111101010 Q x5 x8 x9 v31 v59 h60)) fun v h => Q (.panic v) h)) (Meet (G5_111101010 Q x5 x8 x9 v31 hole h32))) := by kernel_rfl
theorem G5_111101006_eq (Q : AEnd → AH → Prop) (x5 x7 x8 x9 x37 x40 : V) (h : AH) : G5_111101006 Q x5 x7 x8 x9 x37 x40 h = (
  bindV (aPick x37 x40 (V.bool false) h) fun v29 h30 =>
  vcG v29 true (
  bindV (still (aUn .not x7) h30) fun v61 h62 =>
  Meet (G5_111101008 Q x5 x8 x9 v29 v61 h62)) (Meet (G5_111101008 Q x5 x8 x9 v29 hole h30))) := by kernel_rfl
theorem G5_111101004_eq (Q : AEnd → AH → Prop) (x5 x6 x7 x8 x9 x31 x35 : V) (h : AH) : G5_111101004 Q x5 x6 x7 x8 x9 x31 x35 h = (
  bindV (aPick x31 x35 (V.bool false) h) fun v27 h28 =>
  vcG v27 true (
  bindV (aLoadV Pg h28 60 x6) fun v63 h64 =>
  bindV (still (aBuild Pg 60 []) h64) fun v65 h66 =>
  bindV (still (aBin Pg .eql 60 v63 v65 false) h66) fun v67 h68 =>
  Meet (G5_111101006 Q x5 x7 x8 x9 v27 v67 h68)) (Meet (G5_111101006 Q x5 x7 x8 x9 v27 hole h28))) := by kernel_rfl
theorem G5_111101002_eq (Q : AEnd → AH → Prop) (x0 x5 x6 x7 x8 x9 x25 x29 : V) (h : AH) : G5_111101002 Q x0 x5 x6 x7 x8 x9 x25 x29 h = (
  bindV (aPick x25 x29 (V.bool false) h) fun v25 h26 =>
  vcG v25 true (
  ACalls Pg 30 [x5, x0] h26 (aEnd (fun v69 h70 =>
  bindV (still (aUn .not v69) h70) fun v71 h72 =>
  Meet (G5_111101004 Q x5 x6 x7 x8 x9 v25 v71 h72)) fun v h => Q (.panic v) h)) (Meet (G5_111101004 Q x5 x6 x7 x8 x9 v25 hole h26))) := by kernel_rfl
theorem S5 (Q : AEnd → AH → Prop) (a0 a1 : V) (h : AH) : vc Pg N5 B5 K5 (vcRet Pg R5 Q) (initEnv 0 [a0, a1]) h = (
  bindV (aNew Pg h 57 a1) fun v1 h2 =>
  ACalls Pg 26 [(V.ptr none), a0] h2 (aEnd (fun v3 h4 =>
  bindV (still (aExtract v3 0) h4) fun v5 h6 =>
  bindV (still (aExtract v3 1) h6) fun v7 h8 =>
  bindV (aAlloc Pg h8 60) fun v9 h10 =>
  bindV (aStoreV Pg h10 60 v9 v5) fun _ h12 =>
  ACalls Pg 27 [(V.ptr none), (V.int .i64 4)] h12 (aEnd (fun v13 h14 =>
  bindV (still (aExtract v13 0) h14) fun v15 h16 =>
  bindV (still (aExtract v13 1) h16) fun v17 h18 =>
  bindV (aLoadV Pg h18 57 v1) fun v19 h20 =>
  ACalls Pg 28 [(V.ptr none), a0, v19] h20 (aEnd (fun v21 h22 =>
  bindV (still (aBin Pg .eql 29 v21 (V.int .i64 12) true) h22) fun v23 h24 =>
  vcG v23 true (
  ACalls Pg 29 [(V.ptr none), a0] h24 (aEnd (fun v73 h74 =>
  bindV (still (aUn .not v73) h74) fun v75 h76 =>
  Meet (G5_111101002 Q a0 (V.ptr none) v9 v7 v15 v17 v23 v75 h76)) fun v h => Q (.panic v) h)) (Meet (G5_111101002 Q a0 (V.ptr none) v9 v7 v15 v17 v23 hole h24))) fun v h => Q (.panic v) h)) fun v h => Q (.panic v) h)) fun v h => Q (.panic v) h)) := by kernel_rfl
theorem C5 (Q : AEnd → AH → Prop) (a0 a1 : V) (h : AH) (c :
  bindV (aNew Pg h 57 a1) fun v1 h2 =>
  ACalls Pg 26 [(V.ptr none), a0] h2 (aEnd (fun v3 h4 =>
  bindV (still (aExtract v3 0) h4) fun v5 h6 =>
  bindV (still (aExtract v3 1) h6) fun v7 h8 =>
  bindV (aAlloc Pg h8 60) fun v9 h10 =>
  bindV (aStoreV Pg h10 60 v9 v5) fun _ h12 =>
  ACalls Pg 27 [(V.ptr none), (V.int .i64 4)] h12 (aEnd (fun v13 h14 =>
  bindV (still (aExtract v13 0) h14) fun v15 h16 =>
  bindV (still (aExtract v13 1) h16) fun v17 h18 =>
  bindV (aLoadV Pg h18 57 v1) fun v19 h20 =>
  ACalls Pg 28 [(V.ptr none), a0, v19] h20 (aEnd (fun v21 h22 =>
  bindV (still (aBin Pg .eql 29 v21 (V.int .i64 12) true) h22) fun v23 h24 =>
  vcG v23 true (
  ACalls Pg 29 [(V.ptr none), a0] h24 (aEnd (fun v73 h74 =>
  bindV (still (aUn .not v73) h74) fun v75 h76 =>
  Meet (G5_111101002 Q a0 (V.ptr none) v9 v7 v15 v17 v23 v75 h76)) fun v h => Q (.panic v) h)) (Meet (G5_111101002 Q a0 (V.ptr none) v9 v7 v15 v17 v23 hole h24))) fun v h => Q (.panic v) h)) fun v h => Q (.panic v) h)) fun v h => Q (.panic v) h)) : ACalls Pg 5 [a0, a1] h Q :=
  acalls_of_vc okP Tryz.func5 (show Tryz.f5.body = some B5 from by kernel_rfl) K5 (by rw [← S5 Q a0 a1 h] at c; exact c)
noncomputable def B26 : Code := (Tryz.f26.body).getD .skip
def R26 : List ResultVar := [.cell 4 60, .tmp 5]
abbrev N26 : Nat := 57
def K26 : KT := (.seq .leaf (.join (.seq .leaf (.two (.seq .leaf .leaf [4, 5]) .leaf) [0, 1, 4, 11]) (.seq .leaf (.join (.seq .leaf (.two (.seq .leaf .leaf [4, 5]) .leaf) [0, 4, 6, 22]) (.seq .leaf (.seq .leaf .leaf [4, 5]) [4, 6, 7]) [0, 4, 6]) [0, 4, 6]) [0, 1, 4]) [0, 1, 4])
def J26_11 (Q : AEnd → AH → Prop) (x0 x1 x4 : V) (h : AH) : Prop := vcAt Pg N26 B26 K26 [1, 1] [] (vcRet Pg R26 Q) [(0, x0), (1, x1), (4, x4)] h
theorem S26 (Q : AEnd → AH → Prop) (a0 a1 : V) (h : AH) : vc Pg N26 B26 K26 (vcRet Pg R26 Q) (initEnv 0 [a0, a1]) h = (
  bindV (aAlloc Pg h 60) fun v1 h2 =>
  ACalls Pg 29 [a0, a1] h2 (aEnd (fun v3 h4 =>
  bindV (still (aUn .not v3) h4) fun v5 h6 =>
  vcIf v5 (
  bindV (still (aBuild Pg 60 []) h6) fun v7 h8 =>
  bindV (aStoreV Pg h8 60 v1 v7) fun _ h10 =>
  bindR (aRes Pg [(4, v1), (5, (V.bool false))] h10 R26) fun v => Q (.ret v) h10) (
  Meet (J26_11 Q a0 a1 v1 h6))) fun v h => Q (.panic v) h)) := by kernel_rfl
theorem C26 (Q : AEnd → AH → Prop) (a0 a1 : V) (h : AH) (c :
  bindV (aAlloc Pg h 60) fun v1 h2 =>
  ACalls Pg 29 [a0, a1] h2 (aEnd (fun v3 h4 =>
  bindV (still (aUn .not v3) h4) fun v5 h6 =>
  vcIf v5 (
  bindV (still (aBuild Pg 60 []) h6) fun v7 h8 =>
  bindV (aStoreV Pg h8 60 v1 v7) fun _ h10 =>
  bindR (aRes Pg [(4, v1), (5, (V.bool false))] h10 R26) fun v => Q (.ret v) h10) (
  Meet (J26_11 Q a0 a1 v1 h6))) fun v h => Q (.panic v) h)) : ACalls Pg 26 [a0, a1] h Q :=
  acalls_of_vc okP Tryz.func26 (show Tryz.f26.body = some B26 from by kernel_rfl) K26 (by rw [← S26 Q a0 a1 h] at c; exact c)
noncomputable def B28 : Code := (Tryz.f28.body).getD .skip
def R28 : List ResultVar := [.tmp 6]
abbrev N28 : Nat := 123
def K28 : KT := (.seq .leaf (.join (.one (.seq .leaf (.two (.seq .leaf .leaf [6]) (.join (.reg [[0, 1, 5, 16, 18], [0, 1, 5, 20, 23]]) (.two (.seq .leaf .leaf [6]) (.seq .leaf (.two (.seq .leaf .leaf [6]) .leaf) [0, 1, 5, 25])) [0, 1, 5, 13])) [0, 1, 5, 10])) (.join (.join (.reg [[0, 1, 5, 36, 39]]) (.two (.join (.reg [[0, 1, 5, 52, 56], [0, 1, 5, 52, 56, 60], [0, 1, 5, 52, 56, 60, 63], [0, 1, 5, 52, 56, 65], [0, 1, 5, 52, 56, 65, 72], [0, 1, 5, 52, 56, 73], [0, 1, 5, 52, 74]]) (.two (.seq .leaf .leaf [6]) .leaf) [0, 1, 5, 75]) .leaf) [0, 1, 5, 40]) (.seq .leaf (.join (.join (.reg [[0, 1, 5, 7, 83, 86]]) (.two (.seq (.eff [6]) (.join (.seq .leaf (.two (.seq .leaf .leaf [6]) .leaf) [0, 1, 5, 7, 8, 99]) (.join (.seq .leaf (.two (.seq .leaf .leaf [6]) .leaf) [0, 1, 5, 7, 8, 106]) (.seq .leaf (.eff [6]) [0, 1, 5, 7]) [0, 1, 5, 7, 8]) [0, 1, 5, 7, 8]) [0, 1, 5, 7, 8, 9]) .leaf) [0, 1, 5, 7, 87]) (.seq .leaf (.seq .leaf .leaf [6]) []) [0, 1, 7]) [0, 1, 5, 7]) [0, 1, 5]) [0, 1, 5]) [0, 1, 5])
def G28_1001101002 (Q : AEnd → AH → Prop) (x0 x1 x5 x16 x18 : V) (h : AH) : Prop := segAt Pg N28 B28 K28 [1, 0, 0, 1, 1, 0] 2 1 [] (vcRet Pg R28 Q) [(0, x0), (1, x1), (5, x5), (16, x16), (18, x18)] h
theorem S28 (Q : AEnd → AH → Prop) (a0 a1 a2 : V) (h : AH) : vc Pg N28 B28 K28 (vcRet Pg R28 Q) (initEnv 0 [a0, a1, a2]) h = (
  bindV (aNew Pg h 57 a2) fun v1 h2 =>
  ACalls Pg 31 [a0] h2 (aEnd (fun v3 h4 =>
  vcIf v3 (
  Q (.ret (V.int .i64 12)) h4) (
  bindV (still (aBin Pg .lss 3 a1 (V.int .i64 0) true) h4) fun v5 h6 =>
  vcG v5 false (
  bindV (still (aBin Pg .geq 3 a1 (V.int .i64 10) true) h6) fun v129 h130 =>
  Meet (G28_1001101002 Q a0 a1 v1 v5 v129 h130)) (Meet (G28_1001101002 Q a0 a1 v1 v5 hole h6)))) fun v h => Q (.panic v) h)) := by kernel_rfl
theorem C28 (Q : AEnd → AH → Prop) (a0 a1 a2 : V) (h : AH) (c :
  bindV (aNew Pg h 57 a2) fun v1 h2 =>
  ACalls Pg 31 [a0] h2 (aEnd (fun v3 h4 =>
  vcIf v3 (
  Q (.ret (V.int .i64 12)) h4) (
  bindV (still (aBin Pg .lss 3 a1 (V.int .i64 0) true) h4) fun v5 h6 =>
  vcG v5 false (
  bindV (still (aBin Pg .geq 3 a1 (V.int .i64 10) true) h6) fun v129 h130 =>
  Meet (G28_1001101002 Q a0 a1 v1 v5 v129 h130)) (Meet (G28_1001101002 Q a0 a1 v1 v5 hole h6)))) fun v h => Q (.panic v) h)) : ACalls Pg 28 [a0, a1, a2] h Q :=
  acalls_of_vc okP Tryz.func28 (show Tryz.f28.body = some B28 from by kernel_rfl) K28 (by rw [← S28 Q a0 a1 a2 h] at c; exact c)
noncomputable def B29 : Code := (Tryz.f29.body).getD .skip
def R29 : List ResultVar := [.tmp 4]
abbrev N29 : Nat := 24
def K29 : KT := (.seq .leaf (.join (.reg [[0, 1, 7, 9], [0, 1, 11, 13], [15, 22]]) .leaf [4]) [0, 1])
def J29_11 (Q : AEnd → AH → Prop) (x4 : V) (h : AH) : Prop := vcAt Pg N29 B29 K29 [1, 1] [] (vcRet Pg R29 Q) [(4, x4)] h
def G29_101006 (Q : AEnd → AH → Prop) (x15 x22 : V) (h : AH) : Prop := segAt Pg N29 B29 K29 [1, 0] 6 3 [] (vcRet Pg R29 Q) [(15, x15), (22, x22)] h
def G29_101004 (Q : AEnd → AH → Prop) (x0 x1 x11 x13 : V) (h : AH) : Prop := segAt Pg N29 B29 K29 [1, 0] 4 2 [] (vcRet Pg R29 Q) [(0, x0), (1, x1), (11, x11), (13, x13)] h
def G29_101002 (Q : AEnd → AH → Prop) (x0 x1 x7 x9 : V) (h : AH) : Prop := segAt Pg N29 B29 K29 [1, 0] 2 1 [] (vcRet Pg R29 Q) [(0, x0), (1, x1), (7, x7), (9, x9)] h
theorem J29_11_eq (Q : AEnd → AH → Prop) (x4 : V) (h : AH) : J29_11 Q x4 h = (
  Q (.ret x4) h) := by kernel_rfl
theorem G29_101006_eq (Q : AEnd → AH → Prop) (x15 x22 : V) (h : AH) : G29_101006 Q x15 x22 h = (
  bindV (aPick x15 x22 (V.bool false) h) fun v7 h8 =>
  Meet (J29_11 Q v7 h8)) := by kernel_rfl
theorem G29_101004_eq (Q : AEnd → AH → Prop) (x0 x1 x11 x13 : V) (h : AH) : G29_101004 Q x0 x1 x11 x13 h = (
  bindV (aPick x11 x13 (V.bool false) h) fun v5 h6 =>
  vcG v5 true (
  bindV (aNil x0 h6) fun v9 h10 =>
  bindV (still (aFieldAddr Pg 189 v9 5) h10) fun v11 h12 =>
  bindV (still (aIndexAddr Pg 187 v11 x1) h12) fun v13 h14 =>
  bindV (aLoadV Pg h14 183 v13) fun v15 h16 =>
  bindV (still (aBin Pg .neq 183 v15 (V.ptr none) true) h16) fun v17 h18 =>
  Meet (G29_101006 Q v5 v17 h18)) (Meet (G29_101006 Q v5 hole h6))) := by kernel_rfl
theorem G29_101002_eq (Q : AEnd → AH → Prop) (x0 x1 x7 x9 : V) (h : AH) : G29_101002 Q x0 x1 x7 x9 h = (
  bindV (aPick x7 x9 (V.bool false) h) fun v3 h4 =>
  vcG v3 true (
  bindV (still (aBin Pg .lss 3 x1 (V.int .i64 10) true) h4) fun v19 h20 =>
  Meet (G29_101004 Q x0 x1 v3 v19 h20)) (Meet (G29_101004 Q x0 x1 v3 hole h4))) := by kernel_rfl
theorem S29 (Q : AEnd → AH → Prop) (a0 a1 : V) (h : AH) : vc Pg N29 B29 K29 (vcRet Pg R29 Q) (initEnv 0 [a0, a1]) h = (
  bindV (still (aBin Pg .neq 58 a0 (V.ptr none) true) h) fun v1 h2 =>
  vcG v1 true (
  bindV (still (aBin Pg .geq 3 a1 (V.int .i64 0) true) h2) fun v21 h22 =>
  Meet (G29_101002 Q a0 a1 v1 v21 h22)) (Meet (G29_101002 Q a0 a1 v1 hole h2))) := by kernel_rfl
theorem C29 (Q : AEnd → AH → Prop) (a0 a1 : V) (h : AH) (c :
  bindV (still (aBin Pg .neq 58 a0 (V.ptr none) true) h) fun v1 h2 =>
  vcG v1 true (
  bindV (still (aBin Pg .geq 3 a1 (V.int .i64 0) true) h2) fun v21 h22 =>
  Meet (G29_101002 Q a0 a1 v1 v21 h22)) (Meet (G29_101002 Q a0 a1 v1 hole h2))) : ACalls Pg 29 [a0, a1] h Q :=
  acalls_of_vc okP Tryz.func29 (show Tryz.f29.body = some B29 from by kernel_rfl) K29 (by rw [← S29 Q a0 a1 h] at c; exact c)
noncomputable def B30 : Code := (Tryz.f30.body).getD .skip
def R30 : List ResultVar := [.tmp 4]
abbrev N30 : Nat := 36
def K30 : KT := (.seq .leaf (.join (.seq .leaf (.two (.seq .leaf .leaf [4]) .leaf) [0, 1, 11]) (.seq .leaf (.join (.seq .leaf (.one (.loop (.seq .leaf (.join (.two .leaf .leaf) (.join (.one (.seq .leaf (.seq .leaf (.two (.join (.reg [[29, 33]]) .leaf [4]) .leaf) [0, 1, 6, 17, 18, 19, 26]) [0, 1, 6, 7, 17, 18, 19])) .leaf [0, 1, 17, 18, 19]) [0, 1, 17, 18, 19]) [0, 1, 17, 18, 19, 20]) [0, 1, 17, 18, 19])) [0, 1, 17, 18, 19]) (.seq .leaf .leaf [4]) []) [0, 1, 5]) [0, 1]) [0, 1])
def J30_11 (Q : AEnd → AH → Prop) (x0 x1 : V) (h : AH) : Prop := vcAt Pg N30 B30 K30 [1, 1] [] (vcRet Pg R30 Q) [(0, x0), (1, x1)] h
theorem S30 (Q : AEnd → AH → Prop) (a0 a1 : V) (h : AH) : vc Pg N30 B30 K30 (vcRet Pg R30 Q) (initEnv 0 [a0, a1]) h = (
  ACalls Pg 29 [a0, a1] h (aEnd (fun v1 h2 =>
  bindV (still (aUn .not v1) h2) fun v3 h4 =>
  vcIf v3 (
  Q (.ret (V.bool false)) h4) (
  Meet (J30_11 Q a0 a1 h4))) fun v h => Q (.panic v) h)) := by kernel_rfl
theorem C30 (Q : AEnd → AH → Prop) (a0 a1 : V) (h : AH) (c :
  ACalls Pg 29 [a0, a1] h (aEnd (fun v1 h2 =>
  bindV (still (aUn .not v1) h2) fun v3 h4 =>
  vcIf v3 (
  Q (.ret (V.bool false)) h4) (
  Meet (J30_11 Q a0 a1 h4))) fun v h => Q (.panic v) h)) : ACalls Pg 30 [a0, a1] h Q :=
  acalls_of_vc okP Tryz.func30 (show Tryz.f30.body = some B30 from by kernel_rfl) K30 (by rw [← S30 Q a0 a1 h] at c; exact c)
noncomputable def B31 : Code := (Tryz.f31.body).getD .skip
def R31 : List ResultVar := [.tmp 2]
abbrev N31 : Nat := 11
def K31 : KT := (.seq .leaf (.join (.reg [[5, 9]]) .leaf [2]) [0])
def J31_11 (Q : AEnd → AH → Prop) (x2 : V) (h : AH) : Prop := vcAt Pg N31 B31 K31 [1, 1] [] (vcRet Pg R31 Q) [(2, x2)] h
def G31_101002 (Q : AEnd → AH → Prop) (x5 x9 : V) (h : AH) : Prop := segAt Pg N31 B31 K31 [1, 0] 2 1 [] (vcRet Pg R31 Q) [(5, x5), (9, x9)] h
theorem J31_11_eq (Q : AEnd → AH → Prop) (x2 : V) (h : AH) : J31_11 Q x2 h = (
  Q (.ret x2) h) := by kernel_rfl
theorem G31_101002_eq (Q : AEnd → AH → Prop) (x5 x9 : V) (h : AH) : G31_101002 Q x5 x9 h = (
  bindV (aPick x5 (V.bool true) x9 h) fun v3 h4 =>
  Meet (J31_11 Q v3 h4)) := by kernel_rfl
theorem S31 (Q : AEnd → AH → Prop) (a0 : V) (h : AH) : vc Pg N31 B31 K31 (vcRet Pg R31 Q) (initEnv 0 [a0]) h = (
  bindV (still (aBin Pg .eql 58 a0 (V.ptr none) true) h) fun v1 h2 =>
  vcG v1 false (
  bindV (aNil a0 h2) fun v5 h6 =>
  bindV (still (aFieldAddr Pg 189 v5 6) h6) fun v7 h8 =>
  bindV (aLoadV Pg h8 4 v7) fun v9 h10 =>
  Meet (G31_101002 Q v1 v9 h10)) (Meet (G31_101002 Q v1 hole h2))) := by kernel_rfl
theorem C31 (Q : AEnd → AH → Prop) (a0 : V) (h : AH) (c :
  bindV (still (aBin Pg .eql 58 a0 (V.ptr none) true) h) fun v1 h2 =>
  vcG v1 false (
  bindV (aNil a0 h2) fun v5 h6 =>
  bindV (still (aFieldAddr Pg 189 v5 6) h6) fun v7 h8 =>
  bindV (aLoadV Pg h8 4 v7) fun v9 h10 =>
  Meet (G31_101002 Q v1 v9 h10)) (Meet (G31_101002 Q v1 hole h2))) : ACalls Pg 31 [a0] h Q :=
  acalls_of_vc okP Tryz.func31 (show Tryz.f31.body = some B31 from by kernel_rfl) K31 (by rw [← S31 Q a0 h] at c; exact c)
noncomputable def B32 : Code := (Tryz.f32.body).getD .skip
def R32 : List ResultVar := [.tmp 2]
abbrev N32 : Nat := 9
def K32 : KT := (.seq .leaf (.join (.seq .leaf (.two (.seq .leaf .leaf [2]) .leaf) [0, 4]) (.seq .leaf .leaf [2]) [0]) [0])
def J32_11 (Q : AEnd → AH → Prop) (x0 : V) (h : AH) : Prop := vcAt Pg N32 B32 K32 [1, 1] [] (vcRet Pg R32 Q) [(0, x0)] h
theorem S32 (Q : AEnd → AH → Prop) (a0 : V) (h : AH) : vc Pg N32 B32 K32 (vcRet Pg R32 Q) (initEnv 0 [a0]) h = (
  bindV (still (aBin Pg .eql 58 a0 (V.ptr none) true) h) fun v1 h2 =>
  vcIf v1 (
  Q (.ret (V.ptr none)) h2) (
  Meet (J32_11 Q a0 h2))) := by kernel_rfl
theorem C32 (Q : AEnd → AH → Prop) (a0 : V) (h : AH) (c :
  bindV (still (aBin Pg .eql 58 a0 (V.ptr none) true) h) fun v1 h2 =>
  vcIf v1 (
  Q (.ret (V.ptr none)) h2) (
  Meet (J32_11 Q a0 h2))) : ACalls Pg 32 [a0] h Q :=
  acalls_of_vc okP Tryz.func32 (show Tryz.f32.body = some B32 from by kernel_rfl) K32 (by rw [← S32 Q a0 h] at c; exact c)
noncomputable def B33 : Code := (Tryz.f33.body).getD .skip
def R33 : List ResultVar := [.tmp 2]
abbrev N33 : Nat := 9
def K33 : KT := (.seq .leaf (.join (.seq .leaf (.two (.seq .leaf .leaf [2]) .leaf) [0, 4]) (.seq .leaf .leaf [2]) [0]) [0])
def J33_11 (Q : AEnd → AH → Prop) (x0 : V) (h : AH) : Prop := vcAt Pg N33 B33 K33 [1, 1] [] (vcRet Pg R33 Q) [(0, x0)] h
theorem S33 (Q : AEnd → AH → Prop) (a0 : V) (h : AH) : vc Pg N33 B33 K33 (vcRet Pg R33 Q) (initEnv 0 [a0]) h = (
  bindV (still (aBin Pg .eql 58 a0 (V.ptr none) true) h) fun v1 h2 =>
  vcIf v1 (
  Q (.ret (V.ptr none)) h2) (
  Meet (J33_11 Q a0 h2))) := by kernel_rfl
theorem C33 (Q : AEnd → AH → Prop) (a0 : V) (h : AH) (c :
  bindV (still (aBin Pg .eql 58 a0 (V.ptr none) true) h) fun v1 h2 =>
  vcIf v1 (
  Q (.ret (V.ptr none)) h2) (
  Meet (J33_11 Q a0 h2))) : ACalls Pg 33 [a0] h Q :=
  acalls_of_vc okP Tryz.func33 (show Tryz.f33.body = some B33 from by kernel_rfl) K33 (by rw [← S33 Q a0 h] at c; exact c)
end Go.Proofs.YtcglbpjpbjaecaaGreat.Sh
namespace Go.Proofs.YtcglbpjpbjaecaaGreat.It
open Go Go.Ab Go.RowKit
open Go.Proofs.YtcglbpjpbjaecaaGreat.Ru (Pg okP hd FT pu tabOk)
set_option maxRecDepth 100000
section
variable {P : Program} {B : Base} {ι : Names} {h : AH} {W : World}
theorem fits_put {l : Nat} {x x' : Obj} (F : Fits P B ι h W) (hl : W.heap[l]? = some x) (hx : (∀ a b c, x ≠ .cells a b c) ∧ (∀ a b, x ≠ .map a b) ∧ (∀ a b, x ≠ .stringIter a b) ∧ ∀ a b c d, x ≠ .mapIter a b c d) (hB : ¬ B.F l) : Fits P B ι h (W.putObj l x') := by
  have ne : ∀ b, b ≠ l → (W.putObj l x').heap[b]? = W.heap[b]? := fun b hb => World.putObj_heap_other hb
  have sz : (W.putObj l x').heap.size = W.heap.size := by simp [World.putObj]
  exact {
    obj := fun n o hm => by
      obtain ⟨L, h1, h2⟩ := F.obj n o hm
      refine ⟨L, h1, objR_keep (Names.le_refl _) (ne _ ?_) h2⟩
      intro e
      cases o with
      | cells own ty v => obtain ⟨_, _, a, b, c, elem, fr, g1, _⟩ := h2; rw [e, hl] at g1; cases g1; exact hx.1 _ _ _ rfl
      | mp kt et es => obtain ⟨xs, c, g1, _⟩ := h2; rw [e, hl] at g1; cases g1; exact hx.2.1 _ _ rfl
      | mps kt et es st c => obtain ⟨xs, g1, _⟩ := h2; rw [e, hl] at g1; cases g1; exact hx.2.1 _ _ rfl
      | sit s p => obtain ⟨_, g1⟩ := h2; rw [e, hl] at g1; cases g1; exact hx.2.2.1 _ _ rfl
      | mit m a b c => obtain ⟨_, mb, _, g1⟩ := h2; rw [e, hl] at g1; cases g1; exact hx.2.2.2 _ _ _ _ rfl
    fresh := F.fresh
    apart := F.apart
    free := F.free
    frame := fun b hb => ⟨(ne b (fun e => hB (e ▸ hb))).trans (F.frame b hb).1, by rw [sz]; exact (F.frame b hb).2⟩
    os := F.os
    tape := F.tape
    output := F.output
    size := by rw [sz]; exact F.size }
theorem piece (K0 : Ok P) {N : Nat} {c : Code} {k : KT} {D : List AD} {E E' : XE} {H H' : HT} (cc : ∀ e, Same e E → ∀ (Qv : AExit → Env → AH → Prop), (∀ e', Same e' E' → Qv .normal e' H'.ah) → vc P N c k Qv e H.ah)
    {e : Env} {a : Act} {Q : Exit → Act → World → Prop} (F : Fits P B ι H.ah W) (r : relE P ι N D e a) (hs : Same e E)
    (next : ∀ ι' W' e' a', Names.le ι ι' → Fits P B ι' H'.ah W' → relE P ι' N D e' a' → Same e' E' → Q .normal a' W') : c.wp P Q a W := by
  refine wp_mono (vc_ok K0 c k (fun x e h => x = .normal ∧ Same e E' ∧ h = H'.ah) ι H.ah W e a F r (cc e hs _ fun e' h => ⟨rfl, h, rfl⟩)) ?_
  rintro x a' w ⟨ι', h', e', ax, p1, p2, p3, p4, rfl, p6, rfl⟩
  cases x with
  | normal => exact next ι' w e' a' p1 p2 p3 p6
  | _ => exact p4.elim
end
theorem lift_nil {P : Program} {f : FuncId} {args : List V} {v : V} (ha : flatBs args = true) (hv : oldV (fun _ => false) v = true) (c : ACalls P f args AH0 fun e _ => e = .ret v) (h : AH) : ACalls P f args h (pureE v h) := by
  intro B ι W vs F r
  refine (c _ _ W vs (fits0 W) (flat_relL args vs ha r)).mono ?_
  rintro e w' ⟨ι', h', ae, h1, h2, h3, rfl⟩
  have hold : ∀ b, b < W.heap.size → w'.heap[b]? = W.heap[b]? := fun b hb => (h2.frame b hb).1
  refine ⟨ι, h, .ret v, Names.le_refl _, ?_, ?_, rfl, rfl⟩
  · exact (F.grow (fun _ => False) hold (fun _ h => h.elim) h2.os h2.tape h2.output h2.size).rebase (BaseLe.grow F _ hold h2.os h2.tape h2.output h2.size)
  · cases e with
    | returned x => exact rel_le (ι := fun _ => none) (fun n L h => by cases h) (old_rel (ι := fun _ => none) (fun n hn => by cases hn) h1 hv h3)
    | panicked c => exact h3.elim
    | outgrown => exact h3.elim
noncomputable def B155 : Code := (Tryz.f155.body).getD .skip
noncomputable def asg : Code := match subC B155 [1, 1, 1, 1, 0, 1, 0] with | .rangeFunc _ _ a _ => a | _ => .skip
noncomputable def bdy : Code := match subC B155 [1, 1, 1, 1, 0, 1, 0] with | .rangeFunc _ _ _ b => b | _ => .skip
noncomputable def C0 : Code := subC B155 [0]
noncomputable def C1 : Code := subC B155 [1, 0]
noncomputable def C2 : Code := subC B155 [1, 1, 0]
noncomputable def C3 : Code := subC B155 [1, 1, 1, 0]
noncomputable def C4 : Code := subC B155 [1, 1, 1, 1, 0, 0]
noncomputable def C5 : Code := subC B155 [1, 1, 1, 1, 1]
theorem shape : B155 = .seq C0 (.seq C1 (.seq C2 (.seq C3 (.seq (.seq C4 (.block 0 (.rangeFunc (.tmp 31) #[32, 33] asg bdy))) C5)))) := by kernel_rfl
noncomputable def exI : CallF := (exTabM Pg FT hd noMemo pu 60).ex
noncomputable def nx {R : Type} (k : XE → HT → Option R) : AExit → XE → HT → Option R := fun x E H => match x with
  | .normal => k E H
  | _ => none
theorem nx_some {R : Type} {k : XE → HT → Option R} {x : AExit} {E : XE} {H : HT} {r : R} (h : nx k x E H = some r) : x = .normal ∧ k E H = some r := by
  unfold nx at h
  cases x <;> first | exact ⟨rfl, h⟩ | cases h
def args : List V := [.int .u64 1, .str [], .int .u64 1]
noncomputable def E0 : XE := xInit args 0 .nil fun E => E
noncomputable def fin5 : AExit → XE → HT → Option Unit := fun x E H => match x with
  | .ret => bif sameV (XE.get E 6) (.slc none 0) && sameV (XE.get E 7) (.int .u64 1) then some () else none
  | _ => none
noncomputable def pre : Option (XE × HT) :=
  exC Pg 53 exI pu C0 (nx fun E H => exC Pg 53 exI pu C1 (nx fun E H => exC Pg 53 exI pu C2 (nx fun E H => exC Pg 53 exI pu C3 (nx fun E H => exC Pg 53 exI pu C4 (nx fun E H => some (E, H)) E H) E H) E H) E H) E0 HT0
noncomputable def E4 : XE := (pre.getD (.nil, HT0)).1
noncomputable def H4 : HT := (pre.getD (.nil, HT0)).2
theorem pre_eq : pre = some (E4, H4) := by kernel_rfl
def sP : V := .ptr (some ⟨3, .one 9, []⟩)
theorem slot31 : XE.get E4 31 = .fn (.func 266) [] [sP] := by kernel_rfl
noncomputable def post (l : Nat) : Option Unit := exI Unit 266 [.fn (.yield l) [] [], sP] H4 fun ae H => match ae with
    | .ret _ => exC Pg 53 exI pu C5 fin5 E4 H
    | .panic _ => none
theorem post_eq (l : Nat) : post l = some () := by kernel_rfl
theorem itemsC0 (hh : HdOk Pg hd) : ACalls Pg 155 args AH0 fun e _ => e = .ret (.tup [.slc none 0, .int .u64 1]) := by
  intro B ι W vs F ra
  have hx : CallOk Pg exI := (exTabM_ok okP tabOk hh noMemo_ok 60).1
  obtain ⟨E0', q1, q2⟩ := xInit_same args
  have hE0 : E0 = E0' := q1 XE fun E => E
  have hs0 : Same (initEnv 0 args) E0 := hE0 ▸ q2
  have hp := pre_eq
  unfold pre at hp
  obtain ⟨x, E1, H1, o1, hp, c0⟩ := exC_ok (pu := pu) hx C0 _ _ _ HT0_own hp
  obtain ⟨rfl, hp⟩ := nx_some hp
  have w1 := o1.own HT0_own
  obtain ⟨x, E2, H2, o2, hp, c1⟩ := exC_ok (pu := pu) hx C1 _ _ _ w1 hp
  obtain ⟨rfl, hp⟩ := nx_some hp
  have w2 := o2.own w1
  obtain ⟨x, E3, H3, o3, hp, c2⟩ := exC_ok (pu := pu) hx C2 _ _ _ w2 hp
  obtain ⟨rfl, hp⟩ := nx_some hp
  have w3 := o3.own w2
  obtain ⟨x, E3b, H3b, o3b, hp, c3⟩ := exC_ok (pu := pu) hx C3 _ _ _ w3 hp
  obtain ⟨rfl, hp⟩ := nx_some hp
  have w3b := o3b.own w3
  obtain ⟨x, E5, H5, o5, hp, c4⟩ := exC_ok (pu := pu) hx C4 _ _ _ w3b hp
  obtain ⟨rfl, hp⟩ := nx_some hp
  have w5 := o5.own w3b
  have hp : some (E5, H5) = some (E4, H4) := hp
  simp only [Option.some.injEq, Prod.mk.injEq] at hp
  obtain ⟨e5, h5⟩ := hp
  rw [e5, h5] at c4
  rw [h5] at w5
  rw [← HT0_ah] at F
  refine callsIn_wide (n := 0) |>.1 (callsIn_of_wp_marks Tryz.func155 (show Tryz.f155.body = some B155 from by kernel_rfl) trivial ?_)
  rw [wpIn_wide, shape]
  have hE : relE Pg ι 53 [] (initEnv 0 args) { tmps := vs.toArray ++ Array.replicate (Tryz.f155.ntmps - vs.toArray.size) undef, defers := [] } := initE (by kernel_rfl) ra
  refine wp_seq (piece okP c0 F hE hs0 fun ι1 W1 e1 a1 l1 F1 r1 s1 => ?_)
  refine wp_seq (piece okP c1 F1 r1 s1 fun ι2 W2 e2 a2 l2 F2 r2 s2 => ?_)
  refine wp_seq (piece okP c2 F2 r2 s2 fun ι3 W3 e3 a3 l3 F3 r3 s3 => ?_)
  refine wp_seq (piece okP c3 F3 r3 s3 fun ι4 W4 e4 a4 l4 F4 r4 s4 => ?_)
  refine wp_seq (wp_seq (piece okP c4 F4 r4 s4 fun ι5 W5 e5 a5 l5 F5 r5 s5 => ?_))
  have ll : Names.le ι ι5 := Names.le_trans l1 (Names.le_trans l2 (Names.le_trans l3 (Names.le_trans l4 l5)))
  refine wp_block ?_
  rw [← wpIn_wide (n := 0)]
  refine wpIn_rangeFunc fun fn hfn => ?_
  -- the two blocks
  obtain ⟨rec, hrec⟩ : ∃ rec : Loop, rec = { state := .ready, pending := none, fn, tmps := a5.tmps, params := #[32, 33], assign := asg, body := bdy, defers := W5.heap.size } := ⟨_, rfl⟩
  obtain ⟨Wl, hWl⟩ : ∃ Wl, (W5.alloc (.deferred (some []))).alloc (.loop rec) = Wl := ⟨_, rfl⟩
  have hL : Wl.heap[W5.heap.size + 1]? = some (.loop rec) := by
    rw [← hWl]; have := World.alloc_heap_new (W5.alloc (.deferred (some []))) (.loop rec); rwa [World.size_alloc] at this
  have hD : Wl.heap[W5.heap.size]? = some (.deferred (some [])) := by
    rw [← hWl]; exact (Below.heap_alloc _ _ _ (by simp)).trans (World.alloc_heap_new W5 _)
  have hb : ∀ b, b < W5.heap.size → Wl.heap[b]? = W5.heap[b]? := fun b hb => by
    rw [← hWl]; exact (Below.heap_alloc _ _ _ (by simp; omega)).trans (Below.heap_alloc _ _ _ hb)
  have hsz : Wl.heap.size = W5.heap.size + 2 := by rw [← hWl]; simp
  have ho : Wl.os = W5.os := by rw [← hWl]; rfl
  have ht : Wl.tape = W5.tape := by rw [← hWl]; rfl
  have hpp : Wl.output = W5.output := by rw [← hWl]; rfl
  have F6 := F5.grow (W' := Wl) (fun c => c = W5.heap.size ∨ c = W5.heap.size + 1) hb (fun b h => by omega) ho ht hpp (by omega)
  have nD : ¬ B.F W5.heap.size := fun h => Nat.lt_irrefl _ (F5.frame _ h).2
  have nL : ¬ B.F (W5.heap.size + 1) := fun h => by have := (F5.frame _ h).2; omega
  -- the iterator
  have hi := post_eq (W5.heap.size + 1)
  unfold post at hi
  obtain ⟨ae, H6, o6, hi, hent, hc⟩ := hx _ _ _ _ _ _ w5 hi
  cases ae with
  | panic _ => cases hi
  | ret u =>
  have hi : exC Pg 53 exI pu C5 fin5 E4 H6 = some () := hi
  obtain ⟨x, E7, H7, o7, hi, c7⟩ := exC_ok (pu := pu) hx C5 _ _ _ (o6.own w5) hi
  have hfin : x = .ret ∧ XE.get E7 6 = .slc none 0 ∧ XE.get E7 7 = .int .u64 1 := by
    unfold fin5 at hi
    cases x <;> first | (cases hi; done) | skip
    obtain ⟨hb, _⟩ := bif_some hi
    rw [Bool.and_eq_true] at hb
    exact ⟨rfl, sameV_eq _ _ hb.1, sameV_eq _ _ hb.2⟩
  obtain ⟨rfl, g6, g7⟩ := hfin
  have hρ := rel_opnd r5 (.tmp 31)
  rw [show opnd e5 (.tmp 31) = .fn (.func 266) [] [sP] from (s5 31).trans slot31] at hρ
  obtain ⟨fa, fb, hf1, hf2, hf3⟩ := rel_fn hρ
  simp only [relL] at hf2
  subst hf2
  refine ⟨W5.heap.size + 1, [{ target := .collected W5.heap.size, args := #[] }], Wl, { target := .fn (.func 266) fb.toArray, args := #[.func (.yield (W5.heap.size + 1)) #[] #[]] }, Wl, 266,
    #[.func (.yield (W5.heap.size + 1)) #[] #[]] ++ fb.toArray, Wl, ?_, ?_, fun _ _ => trivial, ?_, fun h => by simp [Fence.wide] at h, ?_⟩
  · rw [← hWl, hrec]; exact run_enterLoop_outer _ _ _ _ _
  · simp only [resolve, hf1]
    simp [go_sem]
  · exact run_callFunc hent _ Wl
  have ry : rel Pg ι5 (.fn (.yield (W5.heap.size + 1)) [] []) (.func (.yield (W5.heap.size + 1)) #[] #[]) := .inr ⟨rfl, [], [], rfl, rfl, rfl⟩
  have hcall := hc _ ι5 Wl (.func (.yield (W5.heap.size + 1)) #[] #[] :: fb) F6 (relL_cons ry hf3)
  have harr : (Value.func (.yield (W5.heap.size + 1)) #[] #[] :: fb).toArray = #[.func (.yield (W5.heap.size + 1)) #[] #[]] ++ fb.toArray := by simp
  rw [harr] at hcall
  refine callsIn_wide.2 (hcall.mono ?_)
  rintro e W6 ⟨ι6, h6, ae', l6, F7, re, rfl, rfl⟩
  cases e with
  | panicked _ => exact re.elim
  | outgrown => exact re.elim
  | returned v =>
  have hL6 : W6.heap[W5.heap.size + 1]? = some (.loop rec) := (F7.frame _ (.inr (.inr rfl))).1.trans hL
  refine ⟨none, W6.putObj (W5.heap.size + 1) (.loop { rec with state := .exhausted }), ?_, ?_⟩
  · have := run_endLoop (P := Pg) hL6 (by rw [hrec]; simp)
    rw [this, hrec]
  -- the rest
  obtain ⟨W7, hW7⟩ : ∃ W7, W6.putObj (W5.heap.size + 1) (.loop { rec with state := .exhausted }) = W7 := ⟨_, rfl⟩
  rw [hW7]
  have F8 : Fits Pg ⟨fun c => B.F c ∨ c = W5.heap.size, Wl⟩ ι6 H6.ah W7 := by
    rw [← hW7]
    refine fits_put (Fits.rebase (B' := ⟨fun c => B.F c ∨ (c = W5.heap.size ∨ c = W5.heap.size + 1), Wl⟩) ⟨fun c hc => ⟨hc.elim .inl fun h => .inr (.inl h), rfl⟩, rfl, rfl, rfl, Nat.le_refl _⟩ F7) hL6 ⟨fun _ _ _ h => (by cases h), fun _ _ h => (by cases h), fun _ _ h => (by cases h), fun _ _ _ _ h => (by cases h)⟩ ?_
    rintro (h | h)
    · exact nL h
    · omega
  have r5' := relE_le l6 r5
  have hdef : a5.defers = [] := r5'.2.1
  have r8 : relE Pg ι6 53 [(Pg.funcs.size, [.agg [.und, .int .u64 (W5.heap.size : Int)]])] e5 { a5 with defers := [{ target := .collected W5.heap.size, args := #[] }] ++ a5.defers } :=
    ⟨r5'.1, ⟨_, _, rfl, .inr ⟨Nat.le_refl _, W5.heap.size, rfl, rfl⟩, hdef⟩, r5'.2.2⟩
  show C5.wp Pg _ _ _
  refine wp_mono (vc_ok okP C5 _ (fun x e h => x = .ret ∧ Same e E7 ∧ h = H7.ah) ι6 H6.ah W7 e5 _ F8 r8 (c7 e5 s5 _ fun e' h => ⟨rfl, h, rfl⟩)) ?_
  rintro x a w ⟨ι', h', e', ax, p1, p2, p3, p4, rfl, p6, rfl⟩
  cases x with
  | ret =>
    obtain ⟨d, rest, hd, hx8, hr8⟩ := p3.2.1
    have hdm : d = { target := .collected W5.heap.size, args := #[] } := by
      rcases hx8 with ⟨cap, _, hbad⟩ | ⟨_, r, hr, hd⟩
      · exfalso
        obtain ⟨y, ys, h1, _, _⟩ := relL_cons_iff.1 hbad
        rcases h1 with h1 | ⟨_, h1⟩
        · cases h1
        · simp only [relC, relCs] at h1
          obtain ⟨_, _, h1, _⟩ := h1
          exact h1
      · simp only [List.cons.injEq, V.agg.injEq, V.int.injEq, true_and, and_true] at hr
        have : W5.heap.size = r := by omega
        rw [this]; exact hd
    have hrest : rest = [] := hr8
    have hDw : w.heap[W5.heap.size]? = some (.deferred (some [])) := (p2.frame _ (.inr rfl)).1.trans hD
    have F9 : Fits Pg ⟨fun c => B.F c ∨ False, Wl⟩ ι' H7.ah (w.putObj W5.heap.size (.deferred none)) := by
      refine fits_put (Fits.rebase (B' := ⟨fun c => B.F c ∨ c = W5.heap.size, Wl⟩) ⟨fun c hc => ⟨hc.elim .inl fun h => h.elim, rfl⟩, rfl, rfl, rfl, Nat.le_refl _⟩ p2) hDw ⟨fun _ _ _ h => (by cases h), fun _ _ h => (by cases h), fun _ _ h => (by cases h), fun _ _ _ _ h => (by cases h)⟩ ?_
      rintro (h | h)
      · exact nD h
      · exact h
    have hres : aRes Pg e' H7.ah Tryz.f155.results.toList = some [.slc none 0, .int .u64 1] := by
      show aRes Pg e' H7.ah [.tmp 6, .tmp 7] = _
      simp only [aRes, p6 6, p6 7, g6, g7]
    obtain ⟨v, hv1, hv2⟩ := run_results okP F9 p3 hres
    show LeavesInM Fence.wide 0 Pg Tryz.f155 a.tmps _ a.defers .returning w
    rw [hd, hdm, hrest]
    refine ⟨by simp, .inl ⟨W5.heap.size, _, rfl, run_takeDeferred hDw, ?_⟩⟩
    exact ⟨v, hv1, ι', H7.ah, .ret (one [.slc none 0, .int .u64 1]), Names.le_trans ll (Names.le_trans l6 p1), F9.rebase (BaseLe.grow F5 (fun _ => False) hb ho ht hpp (by omega)), hv2, rfl⟩
  | _ => exact p4.elim
theorem itemsP (hh : HdOk Pg hd) (h : AH) : ACalls Pg 155 args h (pureE (.tup [.slc none 0, .int .u64 1]) h) := lift_nil rfl rfl (itemsC0 hh) h
end Go.Proofs.YtcglbpjpbjaecaaGreat.It
namespace Go.Proofs.YtcglbpjpbjaecaaGreat.So
open Go Go.Ab Go.RowKit Go.Proofs
open Go.Proofs.YtcglbpjpbjaecaaGreat.Ru (Pg okP)
set_option maxRecDepth 100000
def slRen : Go.Shelf.Ren := ⟨fun | 6 => 161 | 10 => 238 | 11 => 239 | 12 => 240 | 13 => 241 | 14 => 242 | 24 => 276 | 25 => 277 | 26 => 278 | 27 => 279 | 28 => 280 | 29 => 281 | 30 => 282 | 31 => 283 | 32 => 284 | 33 => 285 | 34 => 295 | 35 => 296 | 36 => 297 | 37 => 298 | 38 => 299 | 39 => 304 | n => n, fun | 20 => 20 | 26 => 298 | 35 => 386 | 0 => 0 | 37 => 388 | 3 => 3 | 41 => 330 | 44 => 393 | 49 => 31 | 51 => 49 | 4 => 4 | 54 => 429 | 53 => 428 | 58 => 124 | 5 => 5 | 9 => 9 | 60 => 436 | 64 => 439 | 66 => 444 | 67 => 445 | 17 => 17 | 32 => 383 | 33 => 384 | 82 => 458 | 12 => 12 | 75 => 452 | 76 => 453 | 77 => 454 | 78 => 346 | 79 => 455 | 80 => 456 | n => n, fun n => n⟩
theorem slLay : LaysGg.n6 Tryz.prog slRen := {
  mixed := by kernel_rfl,
  f6 := Tryz.func161.trans (congrArg some (by kernel_rfl)),
  f10 := Tryz.func238.trans (congrArg some (by kernel_rfl)),
  f11 := Tryz.func239.trans (congrArg some (by kernel_rfl)),
  f12 := Tryz.func240.trans (congrArg some (by kernel_rfl)),
  f13 := Tryz.func241.trans (congrArg some (by kernel_rfl)),
  f14 := Tryz.func242.trans (congrArg some (by kernel_rfl)),
  f24 := Tryz.func276.trans (congrArg some (by kernel_rfl)),
  f25 := Tryz.func277.trans (congrArg some (by kernel_rfl)),
  f26 := Tryz.func278.trans (congrArg some (by kernel_rfl)),
  f27 := Tryz.func279.trans (congrArg some (by kernel_rfl)),
  f28 := Tryz.func280.trans (congrArg some (by kernel_rfl)),
  f29 := Tryz.func281.trans (congrArg some (by kernel_rfl)),
  f30 := Tryz.func282.trans (congrArg some (by kernel_rfl)),
  f31 := Tryz.func283.trans (congrArg some (by kernel_rfl)),
  f32 := Tryz.func284.trans (congrArg some (by kernel_rfl)),
  f33 := Tryz.func285.trans (congrArg some (by kernel_rfl)),
  f34 := Tryz.func295.trans (congrArg some (by kernel_rfl)),
  f35 := Tryz.func296.trans (congrArg some (by kernel_rfl)),
  f36 := Tryz.func297.trans (congrArg some (by kernel_rfl)),
  f37 := Tryz.func298.trans (congrArg some (by kernel_rfl)),
  f38 := Tryz.func299.trans (congrArg some (by kernel_rfl)),
  f39 := Tryz.func304.trans (congrArg some (by kernel_rfl)),
  t0 := Tryz.underlying0,
  a0 := Tryz.isAgg0,
  z0 := Tryz.sizeOf0,
  v0 := Tryz.zeroValue0,
  i0 := by kernel_rfl,
  t3 := Tryz.underlying3,
  a3 := Tryz.isAgg3,
  z3 := Tryz.sizeOf3,
  v3 := Tryz.zeroValue3,
  i3 := by kernel_rfl,
  t4 := Tryz.underlying4,
  a4 := Tryz.isAgg4,
  z4 := Tryz.sizeOf4,
  v4 := Tryz.zeroValue4,
  i4 := by kernel_rfl,
  t5 := Tryz.underlying5,
  a5 := Tryz.isAgg5,
  z5 := Tryz.sizeOf5,
  v5 := Tryz.zeroValue5,
  i5 := by kernel_rfl,
  t9 := Tryz.underlying9,
  a9 := Tryz.isAgg9,
  z9 := Tryz.sizeOf9,
  v9 := Tryz.zeroValue9,
  i9 := by kernel_rfl,
  t12 := Tryz.underlying12,
  a12 := Tryz.isAgg12,
  z12 := Tryz.sizeOf12,
  v12 := Tryz.zeroValue12,
  i12 := by kernel_rfl,
  t17 := Tryz.underlying17,
  a17 := Tryz.isAgg17,
  z17 := Tryz.sizeOf17,
  v17 := Tryz.zeroValue17,
  i17 := by kernel_rfl,
  t20 := Tryz.underlying20,
  a20 := Tryz.isAgg20,
  z20 := Tryz.sizeOf20,
  v20 := Tryz.zeroValue20,
  i20 := by kernel_rfl,
  t26 := Tryz.underlying298,
  a26 := Tryz.isAgg298,
  z26 := Tryz.sizeOf298,
  v26 := Tryz.zeroValue298,
  i26 := by kernel_rfl,
  t32 := Tryz.underlying383,
  a32 := Tryz.isAgg383,
  z32 := Tryz.sizeOf383,
  v32 := Tryz.zeroValue383,
  i32 := by kernel_rfl,
  t33 := Tryz.underlying384,
  a33 := Tryz.isAgg384,
  z33 := Tryz.sizeOf384,
  v33 := Tryz.zeroValue384,
  i33 := by kernel_rfl,
  t35 := Tryz.underlying386,
  a35 := Tryz.isAgg386,
  z35 := Tryz.sizeOf386,
  v35 := Tryz.zeroValue386,
  i35 := by kernel_rfl,
  t37 := Tryz.underlying388,
  a37 := Tryz.isAgg388,
  z37 := Tryz.sizeOf388,
  v37 := Tryz.zeroValue388,
  i37 := by kernel_rfl,
  t41 := Tryz.underlying330,
  a41 := Tryz.isAgg330,
  z41 := Tryz.sizeOf330,
  v41 := Tryz.zeroValue330,
  i41 := by kernel_rfl,
  t44 := Tryz.underlying393,
  a44 := Tryz.isAgg393,
  z44 := Tryz.sizeOf393,
  v44 := Tryz.zeroValue393,
  i44 := by kernel_rfl,
  t49 := Tryz.underlying31,
  a49 := Tryz.isAgg31,
  z49 := Tryz.sizeOf31,
  v49 := Tryz.zeroValue31,
  i49 := by kernel_rfl,
  t51 := Tryz.underlying49,
  a51 := Tryz.isAgg49,
  z51 := Tryz.sizeOf49,
  v51 := Tryz.zeroValue49,
  i51 := by kernel_rfl,
  t53 := Tryz.underlying428,
  a53 := Tryz.isAgg428,
  z53 := Tryz.sizeOf428,
  v53 := Tryz.zeroValue428,
  i53 := by kernel_rfl,
  t54 := Tryz.underlying429,
  a54 := Tryz.isAgg429,
  z54 := Tryz.sizeOf429,
  v54 := Tryz.zeroValue429,
  i54 := by kernel_rfl,
  t58 := Tryz.underlying124,
  a58 := Tryz.isAgg124,
  z58 := Tryz.sizeOf124,
  v58 := Tryz.zeroValue124,
  i58 := by kernel_rfl,
  t60 := Tryz.underlying436,
  a60 := Tryz.isAgg436,
  z60 := Tryz.sizeOf436,
  v60 := Tryz.zeroValue436,
  i60 := by kernel_rfl,
  t64 := Tryz.underlying439,
  a64 := Tryz.isAgg439,
  z64 := Tryz.sizeOf439,
  v64 := Tryz.zeroValue439,
  i64 := by kernel_rfl,
  t66 := Tryz.underlying444,
  a66 := Tryz.isAgg444,
  z66 := Tryz.sizeOf444,
  v66 := Tryz.zeroValue444,
  i66 := by kernel_rfl,
  t67 := Tryz.underlying445,
  a67 := Tryz.isAgg445,
  z67 := Tryz.sizeOf445,
  v67 := Tryz.zeroValue445,
  i67 := by kernel_rfl,
  t75 := Tryz.underlying452,
  a75 := Tryz.isAgg452,
  z75 := Tryz.sizeOf452,
  v75 := Tryz.zeroValue452,
  i75 := by kernel_rfl,
  t76 := Tryz.underlying453,
  a76 := Tryz.isAgg453,
  z76 := Tryz.sizeOf453,
  v76 := Tryz.zeroValue453,
  i76 := by kernel_rfl,
  t77 := Tryz.underlying454,
  a77 := Tryz.isAgg454,
  z77 := Tryz.sizeOf454,
  v77 := Tryz.zeroValue454,
  i77 := by kernel_rfl,
  t78 := Tryz.underlying346,
  a78 := Tryz.isAgg346,
  z78 := Tryz.sizeOf346,
  v78 := Tryz.zeroValue346,
  i78 := by kernel_rfl,
  t79 := Tryz.underlying455,
  a79 := Tryz.isAgg455,
  z79 := Tryz.sizeOf455,
  v79 := Tryz.zeroValue455,
  i79 := by kernel_rfl,
  t80 := Tryz.underlying456,
  a80 := Tryz.isAgg456,
  z80 := Tryz.sizeOf456,
  v80 := Tryz.zeroValue456,
  i80 := by kernel_rfl,
  t82 := Tryz.underlying458,
  a82 := Tryz.isAgg458,
  z82 := Tryz.sizeOf458,
  v82 := Tryz.zeroValue458,
  i82 := by kernel_rfl }
noncomputable def siT : TypeInfo := (Pg.info? 167).get (by kernel_rfl)
noncomputable def siE : TypeInfo := (Pg.info? 170).get (by kernel_rfl)
theorem kind170 (w : World) : Sem.run Pg (Extern.Rtype.kind 170) w = .ok 25 w := by kernel_rfl
theorem swp (n : Nat) (h : n ≤ 1) : Pg.funcs.findIdx? (·.name == "internal/reflectlite" ++ ".Swapper$" ++ toString (Lib.swapperK n siE 25)) = some (267 + n) := by
  rcases Nat.eq_zero_or_pos n with h0 | h0
  · subst h0; kernel_rfl
  · obtain rfl : n = 1 := by omega
    kernel_rfl
theorem tiny (p : Option Addr) (n c : Nat) (h : n ≤ 1) (lf : Fn) (la lb : Array Value) (w : World) :
    Calls Pg 161 #[.iface 167 (.slice p n c), .func lf la lb] w fun e w' => e = .returned (.tuple #[]) ∧ ∃ os, w' = Go.Sort.grow w os :=
  Any.sort_Slice_tiny slLay 167 170 siT siE (by kernel_rfl) (by kernel_rfl) (by kernel_rfl) (by kernel_rfl) 25 kind170 p n c h (267 + n) (swp n h) lf la lb w
theorem sortP (a : Option (PA × Nat)) (n : Nat) (hn : n ≤ 1) (f : Fn) (x y : List V) (h : AH) : ACalls Pg 161 [.ifc 167 (.slc a n), .fn f x y] h (pureE (.tup []) h) := by
  intro B ι W vs F r
  obtain ⟨v0, vs0, h0, r0, rfl⟩ := relL_cons_iff.1 r
  obtain ⟨v1, vs1, h1, r1, rfl⟩ := relL_cons_iff.1 r0
  simp only [relL] at r1
  subst r1
  obtain ⟨z, rfl, hz, _⟩ := rel_ifc h0
  obtain ⟨fa, fb, rfl, _, _⟩ := rel_fn h1
  obtain ⟨p, c, rfl⟩ : ∃ p c, z = .slice p n c := by
    cases a with
    | none => obtain ⟨rfl, rfl⟩ := rel_slc_nil hz; exact ⟨none, 0, rfl⟩
    | some a => obtain ⟨q, cap, rfl, _⟩ := rel_slc (a := a.1) (s := a.2) hz; exact ⟨some q, cap, rfl⟩
  refine (tiny p n c hn f fa.toArray fb.toArray W).mono ?_
  rintro e w' ⟨rfl, os, rfl⟩
  have hold : ∀ b, b < W.heap.size → (Go.Sort.grow W os).heap[b]? = W.heap[b]? := fun b hb => Go.Sort.heap_grow_old W os hb
  have hs : W.heap.size ≤ (Go.Sort.grow W os).heap.size := by simp
  refine ⟨ι, h, .ret (.tup []), Names.le_refl _, ?_, .inr ⟨rfl, [], by simp [relL], by simp [Value.cells]⟩, rfl, rfl⟩
  exact (F.grow (fun _ => False) hold (fun _ h => h.elim) rfl rfl rfl hs).rebase (BaseLe.grow F _ hold rfl rfl rfl hs)
noncomputable def siT2 : TypeInfo := (Pg.info? 193).get (by kernel_rfl)
noncomputable def siE2 : TypeInfo := (Pg.info? 22).get (by kernel_rfl)
theorem kind22 (w : World) : Sem.run Pg (Extern.Rtype.kind 22) w = .ok 9 w := by kernel_rfl
theorem swp2 (n : Nat) (h : n ≤ 1) : Pg.funcs.findIdx? (·.name == "internal/reflectlite" ++ ".Swapper$" ++ toString (Lib.swapperK n siE2 9)) = some (267 + n) := by
  rcases Nat.eq_zero_or_pos n with h0 | h0
  · subst h0; kernel_rfl
  · obtain rfl : n = 1 := by omega
    kernel_rfl
theorem tiny2 (p : Option Addr) (n c : Nat) (h : n ≤ 1) (lf : Fn) (la lb : Array Value) (w : World) :
    Calls Pg 161 #[.iface 193 (.slice p n c), .func lf la lb] w fun e w' => e = .returned (.tuple #[]) ∧ ∃ os, w' = Go.Sort.grow w os :=
  Any.sort_Slice_tiny slLay 193 22 siT2 siE2 (by kernel_rfl) (by kernel_rfl) (by kernel_rfl) (by kernel_rfl) 9 kind22 p n c h (267 + n) (swp2 n h) lf la lb w
theorem sortP2 (a : Option (PA × Nat)) (n : Nat) (hn : n ≤ 1) (f : Fn) (x y : List V) (h : AH) : ACalls Pg 161 [.ifc 193 (.slc a n), .fn f x y] h (pureE (.tup []) h) := by
  intro B ι W vs F r
  obtain ⟨v0, vs0, h0, r0, rfl⟩ := relL_cons_iff.1 r
  obtain ⟨v1, vs1, h1, r1, rfl⟩ := relL_cons_iff.1 r0
  simp only [relL] at r1
  subst r1
  obtain ⟨z, rfl, hz, _⟩ := rel_ifc h0
  obtain ⟨fa, fb, rfl, _, _⟩ := rel_fn h1
  obtain ⟨p, c, rfl⟩ : ∃ p c, z = .slice p n c := by
    cases a with
    | none => obtain ⟨rfl, rfl⟩ := rel_slc_nil hz; exact ⟨none, 0, rfl⟩
    | some a => obtain ⟨q, cap, rfl, _⟩ := rel_slc (a := a.1) (s := a.2) hz; exact ⟨some q, cap, rfl⟩
  refine (tiny2 p n c hn f fa.toArray fb.toArray W).mono ?_
  rintro e w' ⟨rfl, os, rfl⟩
  have hold : ∀ b, b < W.heap.size → (Go.Sort.grow W os).heap[b]? = W.heap[b]? := fun b hb => Go.Sort.heap_grow_old W os hb
  have hs : W.heap.size ≤ (Go.Sort.grow W os).heap.size := by simp
  refine ⟨ι, h, .ret (.tup []), Names.le_refl _, ?_, .inr ⟨rfl, [], by simp [relL], by simp [Value.cells]⟩, rfl, rfl⟩
  exact (F.grow (fun _ => False) hold (fun _ h => h.elim) rfl rfl rfl hs).rebase (BaseLe.grow F _ hold rfl rfl rfl hs)
end Go.Proofs.YtcglbpjpbjaecaaGreat.So
namespace Go.Proofs.YtcglbpjpbjaecaaGreat.Sh
open Go Go.Ab Go.RowKit
open Go.Proofs.YtcglbpjpbjaecaaGreat.Ru (Pg okP)
set_option maxRecDepth 100000
noncomputable def B265 : Code := (Tryz.f265.body).getD .skip
def R265 : List ResultVar := [.tmp 4]
abbrev N265 : Nat := 28
def K265 : KT := (.seq .leaf (.seq .leaf (.join (.seq .leaf (.one (.loop (.join (.seq .leaf (.two .leaf .leaf) [1, 5, 6, 12]) (.join (.one (.seq .leaf (.seq .leaf (.one (.loop (.seq .leaf (.join (.two .leaf .leaf) (.join (.one .leaf) .leaf [1, 5, 6, 21]) [1, 5, 6, 21]) [1, 5, 6, 21, 22]) [1, 5, 6, 21])) [1, 5, 6, 21]) [1, 5, 6])) .leaf [1, 5, 6]) [1, 5, 6]) [1, 5, 6])) [1, 5, 6]) (.seq .leaf .leaf [4]) [5]) [1, 5]) [0, 1])
def J265_1101001001100111 (Q : AEnd → AH → Prop) (n n1 : Nat) (x1 x5 x6 x21 : V) (h : AH) : Prop := vcAt Pg N265 B265 K265 [1, 1, 0, 1, 0, 0, 1, 0, 0, 1, 1, 0, 0, 1, 1, 1] [n, n1] (vcRet Pg R265 Q) [(1, x1), (5, x5), (6, x6), (21, x21)] h
def J265_110100100110011 (Q : AEnd → AH → Prop) (n n1 : Nat) (x1 x5 x6 x21 : V) (h : AH) : Prop := vcAt Pg N265 B265 K265 [1, 1, 0, 1, 0, 0, 1, 0, 0, 1, 1, 0, 0, 1, 1] [n, n1] (vcRet Pg R265 Q) [(1, x1), (5, x5), (6, x6), (21, x21)] h
def J265_11010011 (Q : AEnd → AH → Prop) (n : Nat) (x1 x5 x6 : V) (h : AH) : Prop := vcAt Pg N265 B265 K265 [1, 1, 0, 1, 0, 0, 1, 1] [n] (vcRet Pg R265 Q) [(1, x1), (5, x5), (6, x6)] h
def L265_110100100110 (Q : AEnd → AH → Prop) (n : Nat) (n1 : Nat) (x1 x5 x6 x21 : V) (h : AH) : Prop := loopAt Pg N265 B265 K265 [1, 1, 0, 1, 0, 0, 1, 0, 0, 1, 1, 0] [n] n1 (vcRet Pg R265 Q) [(1, x1), (5, x5), (6, x6), (21, x21)] h
def J265_1101001 (Q : AEnd → AH → Prop) (n : Nat) (x1 x5 x6 : V) (h : AH) : Prop := vcAt Pg N265 B265 K265 [1, 1, 0, 1, 0, 0, 1] [n] (vcRet Pg R265 Q) [(1, x1), (5, x5), (6, x6)] h
def J265_111 (Q : AEnd → AH → Prop) (x5 : V) (h : AH) : Prop := vcAt Pg N265 B265 K265 [1, 1, 1] [] (vcRet Pg R265 Q) [(5, x5)] h
def L265_11010 (Q : AEnd → AH → Prop) (n : Nat) (x1 x5 x6 : V) (h : AH) : Prop := loopAt Pg N265 B265 K265 [1, 1, 0, 1, 0] [] n (vcRet Pg R265 Q) [(1, x1), (5, x5), (6, x6)] h
theorem J265_1101001001100111_eq (Q : AEnd → AH → Prop) (n n1 : Nat) (x1 x5 x6 x21 : V) (h : AH) : J265_1101001001100111 Q n n1 x1 x5 x6 x21 h = (
  bindV (still (aBin Pg .add 3 x21 (V.int .i64 1) true) h) fun v17 h18 =>
  Meet (L265_110100100110 Q n n1 x1 x5 x6 v17 h18)) := by kernel_rfl
theorem J265_110100100110011_eq (Q : AEnd → AH → Prop) (n n1 : Nat) (x1 x5 x6 x21 : V) (h : AH) : J265_110100100110011 Q n n1 x1 x5 x6 x21 h = (
  ACalls Pg 294 [x5] h (aEnd (fun v15 h16 =>
  Meet (J265_1101001001100111 Q n n1 x1 v15 x6 x21 h16)) fun v h => Q (.panic v) h)) := by kernel_rfl
theorem J265_11010011_eq (Q : AEnd → AH → Prop) (n : Nat) (x1 x5 x6 : V) (h : AH) : J265_11010011 Q n x1 x5 x6 h = (
  bindV (still (aBin Pg .add 3 x6 (V.int .i64 1) true) h) fun v19 h20 =>
  Meet (L265_11010 Q n x1 x5 v19 h20)) := by kernel_rfl
theorem L265_110100100110_eq (Q : AEnd → AH → Prop) (n : Nat) (n1 : Nat) (x1 x5 x6 x21 : V) (h : AH) : L265_110100100110 Q n (n1 + 1) x1 x5 x6 x21 h = (
  bindV (still (aBin Pg .lss 3 x21 (V.int .i64 8) true) h) fun v13 h14 =>
  vcIf v13 (
  Meet (J265_110100100110011 Q n n1 x1 x5 x6 x21 h14)) (
  Meet (J265_11010011 Q n x1 x5 x6 h14))) := by kernel_rfl
theorem J265_1101001_eq (Q : AEnd → AH → Prop) (n : Nat) (x1 x5 x6 : V) (h : AH) : J265_1101001 Q n x1 x5 x6 h = (
  bindV (still (aIndex Pg 9 x1 x6) h) fun v7 h8 =>
  bindV (still (aConv Pg h8 5 31 v7) h8) fun v9 h10 =>
  bindV (still (aBin Pg .xor 31 x5 v9 false) h10) fun v11 h12 =>
  ∃ n1, Meet (L265_110100100110 Q n n1 x1 v11 x6 (V.int .i64 0) h12)) := by kernel_rfl
theorem J265_111_eq (Q : AEnd → AH → Prop) (x5 : V) (h : AH) : J265_111 Q x5 h = (
  bindV (still (aUn .xor x5) h) fun v21 h22 =>
  Q (.ret v21) h22) := by kernel_rfl
theorem L265_11010_eq (Q : AEnd → AH → Prop) (n : Nat) (x1 x5 x6 : V) (h : AH) : L265_11010 Q (n + 1) x1 x5 x6 h = (
  bindV (aBuiltin Pg h .len [9] [x1]) fun v3 h4 =>
  bindV (still (aBin Pg .lss 3 x6 v3 false) h4) fun v5 h6 =>
  vcIf v5 (
  Meet (J265_1101001 Q n x1 x5 x6 h6)) (
  Meet (J265_111 Q x5 h6))) := by kernel_rfl
theorem S265 (Q : AEnd → AH → Prop) (a0 a1 : V) (h : AH) : vc Pg N265 B265 K265 (vcRet Pg R265 Q) (initEnv 0 [a0, a1]) h = (
  bindV (still (aUn .xor a0) h) fun v1 h2 =>
  ∃ n, Meet (L265_11010 Q n a1 v1 (V.int .i64 0) h2)) := by kernel_rfl
theorem C265 (Q : AEnd → AH → Prop) (a0 a1 : V) (h : AH) (c :
  bindV (still (aUn .xor a0) h) fun v1 h2 =>
  ∃ n, Meet (L265_11010 Q n a1 v1 (V.int .i64 0) h2)) : ACalls Pg 265 [a0, a1] h Q :=
  acalls_of_vc okP Tryz.func265 (show Tryz.f265.body = some B265 from by kernel_rfl) K265 (by rw [← S265 Q a0 a1 h] at c; exact c)
noncomputable def B294 : Code := (Tryz.f294.body).getD .skip
def R294 : List ResultVar := [.tmp 2]
abbrev N294 : Nat := 10
def K294 : KT := (.seq .leaf (.seq .leaf .leaf [2]) [0])
theorem S294 (Q : AEnd → AH → Prop) (a0 : V) (h : AH) : vc Pg N294 B294 K294 (vcRet Pg R294 Q) (initEnv 0 [a0]) h = (
  bindV (still (aBin Pg .shr 31 a0 (V.int .u64 1) true) h) fun v1 h2 =>
  bindV (still (aBin Pg .and 31 a0 (V.int .u32 1) true) h2) fun v3 h4 =>
  bindV (still (aUn .neg v3) h4) fun v5 h6 =>
  bindV (still (aBin Pg .and 31 (V.int .u32 3988292384) v5 true) h6) fun v7 h8 =>
  bindV (still (aBin Pg .xor 31 v1 v7 false) h8) fun v9 h10 =>
  Q (.ret v9) h10) := by kernel_rfl
theorem C294 (Q : AEnd → AH → Prop) (a0 : V) (h : AH) (c :
  bindV (still (aBin Pg .shr 31 a0 (V.int .u64 1) true) h) fun v1 h2 =>
  bindV (still (aBin Pg .and 31 a0 (V.int .u32 1) true) h2) fun v3 h4 =>
  bindV (still (aUn .neg v3) h4) fun v5 h6 =>
  bindV (still (aBin Pg .and 31 (V.int .u32 3988292384) v5 true) h6) fun v7 h8 =>
  bindV (still (aBin Pg .xor 31 v1 v7 false) h8) fun v9 h10 =>
  Q (.ret v9) h10) : ACalls Pg 294 [a0] h Q :=
  acalls_of_vc okP Tryz.func294 (show Tryz.f294.body = some B294 from by kernel_rfl) K294 (by rw [← S294 Q a0 h] at c; exact c)
end Go.Proofs.YtcglbpjpbjaecaaGreat.Sh
namespace Go.Proofs.YtcglbpjpbjaecaaGreat.Sh
open Go Go.Ab Go.RowKit
open Go.Proofs.YtcglbpjpbjaecaaGreat.Ru (Pg okP crcStep crc8 crcGo)
set_option maxRecDepth 10000
theorem bv32 (v : Nat) (h : v < 4294967296) : (BitVec.ofInt 32 (v : Int)).toNat = v := by
  rw [BitVec.toNat_ofInt]
  have : ((v : Int) % ((2 ^ 32 : Nat) : Int)).toNat = v % 2 ^ 32 := by omega
  rw [this]; exact Nat.mod_eq_of_lt (by simpa using h)
theorem xor32 (a b : Nat) (ha : a < 4294967296) (hb : b < 4294967296) : bitI .xor .u32 (a : Int) (b : Int) = ((Nat.xor a b : Nat) : Int) ∧ Nat.xor a b < 4294967296 := by
  have h3 : (a ^^^ b) < 2 ^ 32 := Nat.xor_lt_two_pow (by simpa using ha) (by simpa using hb)
  have h4 : (a ^^^ b) < 4294967296 := by simpa using h3
  refine ⟨?_, h4⟩
  simp only [bitI]
  have : ((BitVec.ofInt IntKind.u32.bits (a : Int) ^^^ BitVec.ofInt IntKind.u32.bits (b : Int)).toNat) = a ^^^ b := by
    show (BitVec.ofInt 32 (a : Int) ^^^ BitVec.ofInt 32 (b : Int)).toNat = a ^^^ b
    rw [BitVec.toNat_xor, bv32 a ha, bv32 b hb]
  rw [this, wrap_u32]
  show _ = ((a ^^^ b : Nat) : Int)
  exact Int.emod_eq_of_lt (by omega) (by omega)
theorem and1 (a : Nat) (ha : a < 4294967296) : bitI .and .u32 (a : Int) 1 = ((a % 2 : Nat) : Int) := by
  simp only [bitI]
  have : ((BitVec.ofInt IntKind.u32.bits (a : Int) &&& BitVec.ofInt IntKind.u32.bits 1).toNat) = a % 2 := by
    show (BitVec.ofInt 32 (a : Int) &&& BitVec.ofInt 32 ((1 : Nat) : Int)).toNat = a % 2
    rw [BitVec.toNat_and, bv32 a ha, bv32 1 (by decide), Nat.and_one_is_mod]
  rw [this, wrap_u32]
  exact Int.emod_eq_of_lt (by omega) (by omega)
theorem step_eq (x : Nat) : crcStep x = Nat.xor (x / 2) (3988292384 * (x % 2)) := by
  unfold crcStep
  have h1 : Nat.shiftRight x 1 = x / 2 := rfl
  have h2 : Nat.land x 1 = x % 2 := Nat.and_one_is_mod x
  rw [h1, h2]
  rfl
theorem step_lt (x : Nat) (hx : x < 4294967296) : crcStep x < 4294967296 := by
  rw [step_eq]
  have h : 3988292384 * (x % 2) < 4294967296 := by omega
  exact (xor32 (x / 2) _ (by omega) h).2
theorem stepP (x : Nat) (hx : x < 4294967296) (h : AH) : ACalls Pg 294 [.int .u32 (x : Int)] h (pureE (.int .u32 ((crcStep x : Nat) : Int)) h) := by
  refine C294 _ _ _ ?_
  refine bindS_mk (b_shr (by decide)) ?_
  have e1 : shrI .u32 (x : Int) 1 = ((x / 2 : Nat) : Int) := by
    show (x : Int) / 2 ^ 1 = _
    omega
  rw [e1]
  refine bindS_mk b_and ?_
  rw [and1 x hx]
  refine bindS_mk (show aUn .neg (.int .u32 ((x % 2 : Nat) : Int)) = some (.int .u32 (IntKind.u32.wrap (0 - ((x % 2 : Nat) : Int)))) from rfl) ?_
  refine bindS_mk b_and ?_
  have e2 : bitI .and .u32 3988292384 (IntKind.u32.wrap (0 - ((x % 2 : Nat) : Int))) = ((3988292384 * (x % 2) : Nat) : Int) := by
    rcases Nat.mod_two_eq_zero_or_one x with h | h
    · rw [h]; decide +kernel
    · rw [h]; decide +kernel
  rw [e2]
  refine bindS_mk b_xor ?_
  rw [(xor32 (x / 2) (3988292384 * (x % 2)) (by omega) (by omega)).1, step_eq]
  exact ⟨rfl, rfl⟩
theorem crc8_lt : ∀ (n x : Nat), x < 4294967296 → crc8 n x < 4294967296
  | 0, x, h => h
  | n + 1, x, h => crc8_lt n _ (step_lt x h)
theorem inner (q : AEnd → Prop) (s : V) (i : V) (n1 : Nat) (h : AH) (next : Nat → Nat → Prop)
    (c : ∀ x, x < 4294967296 → next x 0 → J265_11010011 (fun e _ => q e) n1 s (.int .u32 (x : Int)) i h)
    (hn : ∀ x m, next x (m + 1) → next (crcStep x) m) : ∀ (m n x : Nat), m ≤ 8 → m < n → x < 4294967296 → next x m → L265_110100100110 (fun e _ => q e) n1 n s (.int .u32 (x : Int)) i (.int .i64 ((8 - m : Nat) : Int)) h
  | m, 0, x, _, hmn, _, _ => absurd hmn (by omega)
  | 0, n + 1, x, _, _, hx, hk => by
    rw [L265_110100100110_eq]
    refine bindS_mk (b_lss_f (by omega)) ?_
    refine i_f ?_
    exact Meet.of (c x hx hk)
  | m + 1, n + 1, x, hm, hmn, hx, hk => by
    rw [L265_110100100110_eq]
    refine bindS_mk (b_lss_t (by omega)) ?_
    refine i_t ?_
    refine Meet.of (cast_p (J265_110100100110011_eq _ _ _ _ _ _ _ _) ?_)
    refine call_mk (stepP x hx h) ?_
    refine Meet.of (cast_p (J265_1101001001100111_eq _ _ _ _ _ _ _ _) ?_)
    refine bindS_mk (c_inc (by omega)) ?_
    have e : 8 - (m + 1) + 1 = 8 - m := by omega
    rw [e]
    exact Meet.of (inner q s i n1 h next c hn m n (crcStep x) (by omega) (by omega) (step_lt x hx) (hn x m hk))
end Go.Proofs.YtcglbpjpbjaecaaGreat.Sh
