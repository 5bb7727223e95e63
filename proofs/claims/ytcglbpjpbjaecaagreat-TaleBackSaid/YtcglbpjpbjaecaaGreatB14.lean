import Derived.Test.YtcglbpjpbjaecaaGreatB12
import Derived.Test.YtcglbpjpbjaecaaGreatProg
import Derived.Test.YtcglbpjpbjaecaaGreatB07
import Derived.Shelf.Strings.OnBuilder
set_option linter.unusedVariables false
set_option linter.unusedSimpArgs false
namespace Go.Proofs.YtcglbpjpbjaecaaGreat.Ru
open Go Go.Ab Go.RowKit
noncomputable abbrev Pg:Program:=Tryz.prog
set_option maxRecDepth 100000
theorem okAll:((List.range Pg.types.size).all fun t=>layAt Pg t && zeroAt Pg t)=true:=by kernel_rfl
theorem okP:Ok Pg:=ok_of Pg fun t ht=>List.all_eq_true.1 okAll t (List.mem_range.2 ht)
noncomputable def F2:FD:=⟨1,Tryz.f2.results.toList,(Tryz.f2.body).getD .skip,false,false⟩
theorem ok2:FdOk Pg 2 F2:=⟨Tryz.f2,Tryz.func2,by kernel_rfl,by kernel_rfl,rfl,by kernel_rfl⟩
noncomputable def F3:FD:=⟨65,Tryz.f3.results.toList,(Tryz.f3.body).getD .skip,false,false⟩
theorem ok3:FdOk Pg 3 F3:=⟨Tryz.f3,Tryz.func3,by kernel_rfl,by kernel_rfl,rfl,by kernel_rfl⟩
noncomputable def F4:FD:=⟨63,Tryz.f4.results.toList,(Tryz.f4.body).getD .skip,false,false⟩
theorem ok4:FdOk Pg 4 F4:=⟨Tryz.f4,Tryz.func4,by kernel_rfl,by kernel_rfl,rfl,by kernel_rfl⟩
noncomputable def F5:FD:=⟨71,Tryz.f5.results.toList,(Tryz.f5.body).getD .skip,false,false⟩
theorem ok5:FdOk Pg 5 F5:=⟨Tryz.f5,Tryz.func5,by kernel_rfl,by kernel_rfl,rfl,by kernel_rfl⟩
noncomputable def F6:FD:=⟨45,Tryz.f6.results.toList,(Tryz.f6.body).getD .skip,false,false⟩
theorem ok6:FdOk Pg 6 F6:=⟨Tryz.f6,Tryz.func6,by kernel_rfl,by kernel_rfl,rfl,by kernel_rfl⟩
noncomputable def F7:FD:=⟨41,Tryz.f7.results.toList,(Tryz.f7.body).getD .skip,false,false⟩
theorem ok7:FdOk Pg 7 F7:=⟨Tryz.f7,Tryz.func7,by kernel_rfl,by kernel_rfl,rfl,by kernel_rfl⟩
noncomputable def F8:FD:=⟨122,Tryz.f8.results.toList,(Tryz.f8.body).getD .skip,false,false⟩
theorem ok8:FdOk Pg 8 F8:=⟨Tryz.f8,Tryz.func8,by kernel_rfl,by kernel_rfl,rfl,by kernel_rfl⟩
noncomputable def F9:FD:=⟨11,Tryz.f9.results.toList,(Tryz.f9.body).getD .skip,false,false⟩
theorem ok9:FdOk Pg 9 F9:=⟨Tryz.f9,Tryz.func9,by kernel_rfl,by kernel_rfl,rfl,by kernel_rfl⟩
noncomputable def F10:FD:=⟨38,Tryz.f10.results.toList,(Tryz.f10.body).getD .skip,false,false⟩
theorem ok10:FdOk Pg 10 F10:=⟨Tryz.f10,Tryz.func10,by kernel_rfl,by kernel_rfl,rfl,by kernel_rfl⟩
noncomputable def F11:FD:=⟨76,Tryz.f11.results.toList,(Tryz.f11.body).getD .skip,false,false⟩
theorem ok11:FdOk Pg 11 F11:=⟨Tryz.f11,Tryz.func11,by kernel_rfl,by kernel_rfl,rfl,by kernel_rfl⟩
noncomputable def F12:FD:=⟨101,Tryz.f12.results.toList,(Tryz.f12.body).getD .skip,false,false⟩
theorem ok12:FdOk Pg 12 F12:=⟨Tryz.f12,Tryz.func12,by kernel_rfl,by kernel_rfl,rfl,by kernel_rfl⟩
noncomputable def F13:FD:=⟨47,Tryz.f13.results.toList,(Tryz.f13.body).getD .skip,false,false⟩
theorem ok13:FdOk Pg 13 F13:=⟨Tryz.f13,Tryz.func13,by kernel_rfl,by kernel_rfl,rfl,by kernel_rfl⟩
noncomputable def F14:FD:=⟨99,Tryz.f14.results.toList,(Tryz.f14.body).getD .skip,false,false⟩
theorem ok14:FdOk Pg 14 F14:=⟨Tryz.f14,Tryz.func14,by kernel_rfl,by kernel_rfl,rfl,by kernel_rfl⟩
noncomputable def F15:FD:=⟨17,Tryz.f15.results.toList,(Tryz.f15.body).getD .skip,false,false⟩
theorem ok15:FdOk Pg 15 F15:=⟨Tryz.f15,Tryz.func15,by kernel_rfl,by kernel_rfl,rfl,by kernel_rfl⟩
noncomputable def F16:FD:=⟨9,Tryz.f16.results.toList,(Tryz.f16.body).getD .skip,false,false⟩
theorem ok16:FdOk Pg 16 F16:=⟨Tryz.f16,Tryz.func16,by kernel_rfl,by kernel_rfl,rfl,by kernel_rfl⟩
noncomputable def F17:FD:=⟨23,Tryz.f17.results.toList,(Tryz.f17.body).getD .skip,false,false⟩
theorem ok17:FdOk Pg 17 F17:=⟨Tryz.f17,Tryz.func17,by kernel_rfl,by kernel_rfl,rfl,by kernel_rfl⟩
noncomputable def F18:FD:=⟨27,Tryz.f18.results.toList,(Tryz.f18.body).getD .skip,false,false⟩
theorem ok18:FdOk Pg 18 F18:=⟨Tryz.f18,Tryz.func18,by kernel_rfl,by kernel_rfl,rfl,by kernel_rfl⟩
noncomputable def F19:FD:=⟨14,Tryz.f19.results.toList,(Tryz.f19.body).getD .skip,false,false⟩
theorem ok19:FdOk Pg 19 F19:=⟨Tryz.f19,Tryz.func19,by kernel_rfl,by kernel_rfl,rfl,by kernel_rfl⟩
noncomputable def F20:FD:=⟨62,Tryz.f20.results.toList,(Tryz.f20.body).getD .skip,false,false⟩
theorem ok20:FdOk Pg 20 F20:=⟨Tryz.f20,Tryz.func20,by kernel_rfl,by kernel_rfl,rfl,by kernel_rfl⟩
noncomputable def F21:FD:=⟨123,Tryz.f21.results.toList,(Tryz.f21.body).getD .skip,false,false⟩
theorem ok21:FdOk Pg 21 F21:=⟨Tryz.f21,Tryz.func21,by kernel_rfl,by kernel_rfl,rfl,by kernel_rfl⟩
noncomputable def F22:FD:=⟨96,Tryz.f22.results.toList,(Tryz.f22.body).getD .skip,false,false⟩
theorem ok22:FdOk Pg 22 F22:=⟨Tryz.f22,Tryz.func22,by kernel_rfl,by kernel_rfl,rfl,by kernel_rfl⟩
noncomputable def F23:FD:=⟨9,Tryz.f23.results.toList,(Tryz.f23.body).getD .skip,false,false⟩
theorem ok23:FdOk Pg 23 F23:=⟨Tryz.f23,Tryz.func23,by kernel_rfl,by kernel_rfl,rfl,by kernel_rfl⟩
noncomputable def F24:FD:=⟨10,Tryz.f24.results.toList,(Tryz.f24.body).getD .skip,false,false⟩
theorem ok24:FdOk Pg 24 F24:=⟨Tryz.f24,Tryz.func24,by kernel_rfl,by kernel_rfl,rfl,by kernel_rfl⟩
noncomputable def F25:FD:=⟨64,Tryz.f25.results.toList,(Tryz.f25.body).getD .skip,false,false⟩
theorem ok25:FdOk Pg 25 F25:=⟨Tryz.f25,Tryz.func25,by kernel_rfl,by kernel_rfl,rfl,by kernel_rfl⟩
noncomputable def F26:FD:=⟨57,Tryz.f26.results.toList,(Tryz.f26.body).getD .skip,false,false⟩
theorem ok26:FdOk Pg 26 F26:=⟨Tryz.f26,Tryz.func26,by kernel_rfl,by kernel_rfl,rfl,by kernel_rfl⟩
noncomputable def F27:FD:=⟨32,Tryz.f27.results.toList,(Tryz.f27.body).getD .skip,false,false⟩
theorem ok27:FdOk Pg 27 F27:=⟨Tryz.f27,Tryz.func27,by kernel_rfl,by kernel_rfl,rfl,by kernel_rfl⟩
noncomputable def F28:FD:=⟨123,Tryz.f28.results.toList,(Tryz.f28.body).getD .skip,false,false⟩
theorem ok28:FdOk Pg 28 F28:=⟨Tryz.f28,Tryz.func28,by kernel_rfl,by kernel_rfl,rfl,by kernel_rfl⟩
noncomputable def F29:FD:=⟨24,Tryz.f29.results.toList,(Tryz.f29.body).getD .skip,false,false⟩
theorem ok29:FdOk Pg 29 F29:=⟨Tryz.f29,Tryz.func29,by kernel_rfl,by kernel_rfl,rfl,by kernel_rfl⟩
noncomputable def F30:FD:=⟨36,Tryz.f30.results.toList,(Tryz.f30.body).getD .skip,false,false⟩
theorem ok30:FdOk Pg 30 F30:=⟨Tryz.f30,Tryz.func30,by kernel_rfl,by kernel_rfl,rfl,by kernel_rfl⟩
noncomputable def F31:FD:=⟨11,Tryz.f31.results.toList,(Tryz.f31.body).getD .skip,false,false⟩
theorem ok31:FdOk Pg 31 F31:=⟨Tryz.f31,Tryz.func31,by kernel_rfl,by kernel_rfl,rfl,by kernel_rfl⟩
noncomputable def F32:FD:=⟨9,Tryz.f32.results.toList,(Tryz.f32.body).getD .skip,false,false⟩
theorem ok32:FdOk Pg 32 F32:=⟨Tryz.f32,Tryz.func32,by kernel_rfl,by kernel_rfl,rfl,by kernel_rfl⟩
noncomputable def F33:FD:=⟨9,Tryz.f33.results.toList,(Tryz.f33.body).getD .skip,false,false⟩
theorem ok33:FdOk Pg 33 F33:=⟨Tryz.f33,Tryz.func33,by kernel_rfl,by kernel_rfl,rfl,by kernel_rfl⟩
noncomputable def F34:FD:=⟨52,Tryz.f34.results.toList,(Tryz.f34.body).getD .skip,false,false⟩
theorem ok34:FdOk Pg 34 F34:=⟨Tryz.f34,Tryz.func34,by kernel_rfl,by kernel_rfl,rfl,by kernel_rfl⟩
noncomputable def F35:FD:=⟨95,Tryz.f35.results.toList,(Tryz.f35.body).getD .skip,false,false⟩
theorem ok35:FdOk Pg 35 F35:=⟨Tryz.f35,Tryz.func35,by kernel_rfl,by kernel_rfl,rfl,by kernel_rfl⟩
noncomputable def F36:FD:=⟨53,Tryz.f36.results.toList,(Tryz.f36.body).getD .skip,false,false⟩
theorem ok36:FdOk Pg 36 F36:=⟨Tryz.f36,Tryz.func36,by kernel_rfl,by kernel_rfl,rfl,by kernel_rfl⟩
noncomputable def F37:FD:=⟨10,Tryz.f37.results.toList,(Tryz.f37.body).getD .skip,false,false⟩
theorem ok37:FdOk Pg 37 F37:=⟨Tryz.f37,Tryz.func37,by kernel_rfl,by kernel_rfl,rfl,by kernel_rfl⟩
noncomputable def F38:FD:=⟨9,Tryz.f38.results.toList,(Tryz.f38.body).getD .skip,false,false⟩
theorem ok38:FdOk Pg 38 F38:=⟨Tryz.f38,Tryz.func38,by kernel_rfl,by kernel_rfl,rfl,by kernel_rfl⟩
noncomputable def F39:FD:=⟨9,Tryz.f39.results.toList,(Tryz.f39.body).getD .skip,false,false⟩
theorem ok39:FdOk Pg 39 F39:=⟨Tryz.f39,Tryz.func39,by kernel_rfl,by kernel_rfl,rfl,by kernel_rfl⟩
noncomputable def F40:FD:=⟨9,Tryz.f40.results.toList,(Tryz.f40.body).getD .skip,false,false⟩
theorem ok40:FdOk Pg 40 F40:=⟨Tryz.f40,Tryz.func40,by kernel_rfl,by kernel_rfl,rfl,by kernel_rfl⟩
noncomputable def F41:FD:=⟨53,Tryz.f41.results.toList,(Tryz.f41.body).getD .skip,false,false⟩
theorem ok41:FdOk Pg 41 F41:=⟨Tryz.f41,Tryz.func41,by kernel_rfl,by kernel_rfl,rfl,by kernel_rfl⟩
noncomputable def F42:FD:=⟨20,Tryz.f42.results.toList,(Tryz.f42.body).getD .skip,false,false⟩
theorem ok42:FdOk Pg 42 F42:=⟨Tryz.f42,Tryz.func42,by kernel_rfl,by kernel_rfl,rfl,by kernel_rfl⟩
noncomputable def F43:FD:=⟨46,Tryz.f43.results.toList,(Tryz.f43.body).getD .skip,false,false⟩
theorem ok43:FdOk Pg 43 F43:=⟨Tryz.f43,Tryz.func43,by kernel_rfl,by kernel_rfl,rfl,by kernel_rfl⟩
noncomputable def F44:FD:=⟨57,Tryz.f44.results.toList,(Tryz.f44.body).getD .skip,false,false⟩
theorem ok44:FdOk Pg 44 F44:=⟨Tryz.f44,Tryz.func44,by kernel_rfl,by kernel_rfl,rfl,by kernel_rfl⟩
noncomputable def F45:FD:=⟨81,Tryz.f45.results.toList,(Tryz.f45.body).getD .skip,false,false⟩
theorem ok45:FdOk Pg 45 F45:=⟨Tryz.f45,Tryz.func45,by kernel_rfl,by kernel_rfl,rfl,by kernel_rfl⟩
noncomputable def F46:FD:=⟨35,Tryz.f46.results.toList,(Tryz.f46.body).getD .skip,false,false⟩
theorem ok46:FdOk Pg 46 F46:=⟨Tryz.f46,Tryz.func46,by kernel_rfl,by kernel_rfl,rfl,by kernel_rfl⟩
noncomputable def F47:FD:=⟨79,Tryz.f47.results.toList,(Tryz.f47.body).getD .skip,false,false⟩
theorem ok47:FdOk Pg 47 F47:=⟨Tryz.f47,Tryz.func47,by kernel_rfl,by kernel_rfl,rfl,by kernel_rfl⟩
noncomputable def F48:FD:=⟨88,Tryz.f48.results.toList,(Tryz.f48.body).getD .skip,false,false⟩
theorem ok48:FdOk Pg 48 F48:=⟨Tryz.f48,Tryz.func48,by kernel_rfl,by kernel_rfl,rfl,by kernel_rfl⟩
noncomputable def F49:FD:=⟨32,Tryz.f49.results.toList,(Tryz.f49.body).getD .skip,false,false⟩
theorem ok49:FdOk Pg 49 F49:=⟨Tryz.f49,Tryz.func49,by kernel_rfl,by kernel_rfl,rfl,by kernel_rfl⟩
noncomputable def F50:FD:=⟨35,Tryz.f50.results.toList,(Tryz.f50.body).getD .skip,false,false⟩
theorem ok50:FdOk Pg 50 F50:=⟨Tryz.f50,Tryz.func50,by kernel_rfl,by kernel_rfl,rfl,by kernel_rfl⟩
noncomputable def F51:FD:=⟨56,Tryz.f51.results.toList,(Tryz.f51.body).getD .skip,false,false⟩
theorem ok51:FdOk Pg 51 F51:=⟨Tryz.f51,Tryz.func51,by kernel_rfl,by kernel_rfl,rfl,by kernel_rfl⟩
noncomputable def F52:FD:=⟨38,Tryz.f52.results.toList,(Tryz.f52.body).getD .skip,false,false⟩
theorem ok52:FdOk Pg 52 F52:=⟨Tryz.f52,Tryz.func52,by kernel_rfl,by kernel_rfl,rfl,by kernel_rfl⟩
noncomputable def F53:FD:=⟨38,Tryz.f53.results.toList,(Tryz.f53.body).getD .skip,true,false⟩
theorem ok53:FdOk Pg 53 F53:=⟨Tryz.f53,Tryz.func53,by kernel_rfl,by kernel_rfl,rfl,by kernel_rfl⟩
noncomputable def F54:FD:=⟨19,Tryz.f54.results.toList,(Tryz.f54.body).getD .skip,true,false⟩
theorem ok54:FdOk Pg 54 F54:=⟨Tryz.f54,Tryz.func54,by kernel_rfl,by kernel_rfl,rfl,by kernel_rfl⟩
noncomputable def F55:FD:=⟨19,Tryz.f55.results.toList,(Tryz.f55.body).getD .skip,false,false⟩
theorem ok55:FdOk Pg 55 F55:=⟨Tryz.f55,Tryz.func55,by kernel_rfl,by kernel_rfl,rfl,by kernel_rfl⟩
noncomputable def F56:FD:=⟨50,Tryz.f56.results.toList,(Tryz.f56.body).getD .skip,false,false⟩
theorem ok56:FdOk Pg 56 F56:=⟨Tryz.f56,Tryz.func56,by kernel_rfl,by kernel_rfl,rfl,by kernel_rfl⟩
noncomputable def F57:FD:=⟨29,Tryz.f57.results.toList,(Tryz.f57.body).getD .skip,false,false⟩
theorem ok57:FdOk Pg 57 F57:=⟨Tryz.f57,Tryz.func57,by kernel_rfl,by kernel_rfl,rfl,by kernel_rfl⟩
noncomputable def F58:FD:=⟨9,Tryz.f58.results.toList,(Tryz.f58.body).getD .skip,false,false⟩
theorem ok58:FdOk Pg 58 F58:=⟨Tryz.f58,Tryz.func58,by kernel_rfl,by kernel_rfl,rfl,by kernel_rfl⟩
noncomputable def F59:FD:=⟨58,Tryz.f59.results.toList,(Tryz.f59.body).getD .skip,false,false⟩
theorem ok59:FdOk Pg 59 F59:=⟨Tryz.f59,Tryz.func59,by kernel_rfl,by kernel_rfl,rfl,by kernel_rfl⟩
noncomputable def F60:FD:=⟨45,Tryz.f60.results.toList,(Tryz.f60.body).getD .skip,false,false⟩
theorem ok60:FdOk Pg 60 F60:=⟨Tryz.f60,Tryz.func60,by kernel_rfl,by kernel_rfl,rfl,by kernel_rfl⟩
noncomputable def F61:FD:=⟨52,Tryz.f61.results.toList,(Tryz.f61.body).getD .skip,false,false⟩
theorem ok61:FdOk Pg 61 F61:=⟨Tryz.f61,Tryz.func61,by kernel_rfl,by kernel_rfl,rfl,by kernel_rfl⟩
noncomputable def F62:FD:=⟨28,Tryz.f62.results.toList,(Tryz.f62.body).getD .skip,false,false⟩
theorem ok62:FdOk Pg 62 F62:=⟨Tryz.f62,Tryz.func62,by kernel_rfl,by kernel_rfl,rfl,by kernel_rfl⟩
noncomputable def F63:FD:=⟨105,Tryz.f63.results.toList,(Tryz.f63.body).getD .skip,false,true⟩
theorem ok63:FdOk Pg 63 F63:=⟨Tryz.f63,Tryz.func63,by kernel_rfl,by kernel_rfl,rfl,by kernel_rfl⟩
noncomputable def F64:FD:=⟨19,Tryz.f64.results.toList,(Tryz.f64.body).getD .skip,false,false⟩
theorem ok64:FdOk Pg 64 F64:=⟨Tryz.f64,Tryz.func64,by kernel_rfl,by kernel_rfl,rfl,by kernel_rfl⟩
noncomputable def F65:FD:=⟨41,Tryz.f65.results.toList,(Tryz.f65.body).getD .skip,false,false⟩
theorem ok65:FdOk Pg 65 F65:=⟨Tryz.f65,Tryz.func65,by kernel_rfl,by kernel_rfl,rfl,by kernel_rfl⟩
noncomputable def F66:FD:=⟨38,Tryz.f66.results.toList,(Tryz.f66.body).getD .skip,false,false⟩
theorem ok66:FdOk Pg 66 F66:=⟨Tryz.f66,Tryz.func66,by kernel_rfl,by kernel_rfl,rfl,by kernel_rfl⟩
noncomputable def F67:FD:=⟨18,Tryz.f67.results.toList,(Tryz.f67.body).getD .skip,true,false⟩
theorem ok67:FdOk Pg 67 F67:=⟨Tryz.f67,Tryz.func67,by kernel_rfl,by kernel_rfl,rfl,by kernel_rfl⟩
noncomputable def F68:FD:=⟨50,Tryz.f68.results.toList,(Tryz.f68.body).getD .skip,false,false⟩
theorem ok68:FdOk Pg 68 F68:=⟨Tryz.f68,Tryz.func68,by kernel_rfl,by kernel_rfl,rfl,by kernel_rfl⟩
noncomputable def F69:FD:=⟨16,Tryz.f69.results.toList,(Tryz.f69.body).getD .skip,false,false⟩
theorem ok69:FdOk Pg 69 F69:=⟨Tryz.f69,Tryz.func69,by kernel_rfl,by kernel_rfl,rfl,by kernel_rfl⟩
noncomputable def F70:FD:=⟨9,Tryz.f70.results.toList,(Tryz.f70.body).getD .skip,false,false⟩
theorem ok70:FdOk Pg 70 F70:=⟨Tryz.f70,Tryz.func70,by kernel_rfl,by kernel_rfl,rfl,by kernel_rfl⟩
noncomputable def F71:FD:=⟨34,Tryz.f71.results.toList,(Tryz.f71.body).getD .skip,false,false⟩
theorem ok71:FdOk Pg 71 F71:=⟨Tryz.f71,Tryz.func71,by kernel_rfl,by kernel_rfl,rfl,by kernel_rfl⟩
noncomputable def F72:FD:=⟨107,Tryz.f72.results.toList,(Tryz.f72.body).getD .skip,false,false⟩
theorem ok72:FdOk Pg 72 F72:=⟨Tryz.f72,Tryz.func72,by kernel_rfl,by kernel_rfl,rfl,by kernel_rfl⟩
noncomputable def F73:FD:=⟨54,Tryz.f73.results.toList,(Tryz.f73.body).getD .skip,false,false⟩
theorem ok73:FdOk Pg 73 F73:=⟨Tryz.f73,Tryz.func73,by kernel_rfl,by kernel_rfl,rfl,by kernel_rfl⟩
noncomputable def F74:FD:=⟨56,Tryz.f74.results.toList,(Tryz.f74.body).getD .skip,false,false⟩
theorem ok74:FdOk Pg 74 F74:=⟨Tryz.f74,Tryz.func74,by kernel_rfl,by kernel_rfl,rfl,by kernel_rfl⟩
noncomputable def F75:FD:=⟨33,Tryz.f75.results.toList,(Tryz.f75.body).getD .skip,false,false⟩
theorem ok75:FdOk Pg 75 F75:=⟨Tryz.f75,Tryz.func75,by kernel_rfl,by kernel_rfl,rfl,by kernel_rfl⟩
noncomputable def F76:FD:=⟨23,Tryz.f76.results.toList,(Tryz.f76.body).getD .skip,false,false⟩
theorem ok76:FdOk Pg 76 F76:=⟨Tryz.f76,Tryz.func76,by kernel_rfl,by kernel_rfl,rfl,by kernel_rfl⟩
noncomputable def F77:FD:=⟨9,Tryz.f77.results.toList,(Tryz.f77.body).getD .skip,false,false⟩
theorem ok77:FdOk Pg 77 F77:=⟨Tryz.f77,Tryz.func77,by kernel_rfl,by kernel_rfl,rfl,by kernel_rfl⟩
noncomputable def F78:FD:=⟨88,Tryz.f78.results.toList,(Tryz.f78.body).getD .skip,false,false⟩
theorem ok78:FdOk Pg 78 F78:=⟨Tryz.f78,Tryz.func78,by kernel_rfl,by kernel_rfl,rfl,by kernel_rfl⟩
noncomputable def F79:FD:=⟨9,Tryz.f79.results.toList,(Tryz.f79.body).getD .skip,false,false⟩
theorem ok79:FdOk Pg 79 F79:=⟨Tryz.f79,Tryz.func79,by kernel_rfl,by kernel_rfl,rfl,by kernel_rfl⟩
noncomputable def F80:FD:=⟨14,Tryz.f80.results.toList,(Tryz.f80.body).getD .skip,false,false⟩
theorem ok80:FdOk Pg 80 F80:=⟨Tryz.f80,Tryz.func80,by kernel_rfl,by kernel_rfl,rfl,by kernel_rfl⟩
noncomputable def F81:FD:=⟨9,Tryz.f81.results.toList,(Tryz.f81.body).getD .skip,false,false⟩
theorem ok81:FdOk Pg 81 F81:=⟨Tryz.f81,Tryz.func81,by kernel_rfl,by kernel_rfl,rfl,by kernel_rfl⟩
noncomputable def F82:FD:=⟨17,Tryz.f82.results.toList,(Tryz.f82.body).getD .skip,false,false⟩
theorem ok82:FdOk Pg 82 F82:=⟨Tryz.f82,Tryz.func82,by kernel_rfl,by kernel_rfl,rfl,by kernel_rfl⟩
noncomputable def F83:FD:=⟨74,Tryz.f83.results.toList,(Tryz.f83.body).getD .skip,false,false⟩
theorem ok83:FdOk Pg 83 F83:=⟨Tryz.f83,Tryz.func83,by kernel_rfl,by kernel_rfl,rfl,by kernel_rfl⟩
noncomputable def F84:FD:=⟨2,Tryz.f84.results.toList,(Tryz.f84.body).getD .skip,false,false⟩
theorem ok84:FdOk Pg 84 F84:=⟨Tryz.f84,Tryz.func84,by kernel_rfl,by kernel_rfl,rfl,by kernel_rfl⟩
noncomputable def F85:FD:=⟨34,Tryz.f85.results.toList,(Tryz.f85.body).getD .skip,false,false⟩
theorem ok85:FdOk Pg 85 F85:=⟨Tryz.f85,Tryz.func85,by kernel_rfl,by kernel_rfl,rfl,by kernel_rfl⟩
noncomputable def F86:FD:=⟨43,Tryz.f86.results.toList,(Tryz.f86.body).getD .skip,false,false⟩
theorem ok86:FdOk Pg 86 F86:=⟨Tryz.f86,Tryz.func86,by kernel_rfl,by kernel_rfl,rfl,by kernel_rfl⟩
noncomputable def F87:FD:=⟨36,Tryz.f87.results.toList,(Tryz.f87.body).getD .skip,false,false⟩
theorem ok87:FdOk Pg 87 F87:=⟨Tryz.f87,Tryz.func87,by kernel_rfl,by kernel_rfl,rfl,by kernel_rfl⟩
noncomputable def F88:FD:=⟨66,Tryz.f88.results.toList,(Tryz.f88.body).getD .skip,false,false⟩
theorem ok88:FdOk Pg 88 F88:=⟨Tryz.f88,Tryz.func88,by kernel_rfl,by kernel_rfl,rfl,by kernel_rfl⟩
noncomputable def F89:FD:=⟨35,Tryz.f89.results.toList,(Tryz.f89.body).getD .skip,false,false⟩
theorem ok89:FdOk Pg 89 F89:=⟨Tryz.f89,Tryz.func89,by kernel_rfl,by kernel_rfl,rfl,by kernel_rfl⟩
noncomputable def F90:FD:=⟨158,Tryz.f90.results.toList,(Tryz.f90.body).getD .skip,false,false⟩
theorem ok90:FdOk Pg 90 F90:=⟨Tryz.f90,Tryz.func90,by kernel_rfl,by kernel_rfl,rfl,by kernel_rfl⟩
noncomputable def F91:FD:=⟨303,Tryz.f91.results.toList,(Tryz.f91.body).getD .skip,false,false⟩
theorem ok91:FdOk Pg 91 F91:=⟨Tryz.f91,Tryz.func91,by kernel_rfl,by kernel_rfl,rfl,by kernel_rfl⟩
noncomputable def F92:FD:=⟨19,Tryz.f92.results.toList,(Tryz.f92.body).getD .skip,false,false⟩
theorem ok92:FdOk Pg 92 F92:=⟨Tryz.f92,Tryz.func92,by kernel_rfl,by kernel_rfl,rfl,by kernel_rfl⟩
noncomputable def F93:FD:=⟨171,Tryz.f93.results.toList,(Tryz.f93.body).getD .skip,false,false⟩
theorem ok93:FdOk Pg 93 F93:=⟨Tryz.f93,Tryz.func93,by kernel_rfl,by kernel_rfl,rfl,by kernel_rfl⟩
noncomputable def F94:FD:=⟨145,Tryz.f94.results.toList,(Tryz.f94.body).getD .skip,false,false⟩
theorem ok94:FdOk Pg 94 F94:=⟨Tryz.f94,Tryz.func94,by kernel_rfl,by kernel_rfl,rfl,by kernel_rfl⟩
noncomputable def F95:FD:=⟨13,Tryz.f95.results.toList,(Tryz.f95.body).getD .skip,false,false⟩
theorem ok95:FdOk Pg 95 F95:=⟨Tryz.f95,Tryz.func95,by kernel_rfl,by kernel_rfl,rfl,by kernel_rfl⟩
noncomputable def F96:FD:=⟨3,Tryz.f96.results.toList,(Tryz.f96.body).getD .skip,false,false⟩
theorem ok96:FdOk Pg 96 F96:=⟨Tryz.f96,Tryz.func96,by kernel_rfl,by kernel_rfl,rfl,by kernel_rfl⟩
noncomputable def F97:FD:=⟨10,Tryz.f97.results.toList,(Tryz.f97.body).getD .skip,false,false⟩
theorem ok97:FdOk Pg 97 F97:=⟨Tryz.f97,Tryz.func97,by kernel_rfl,by kernel_rfl,rfl,by kernel_rfl⟩
noncomputable def F98:FD:=⟨21,Tryz.f98.results.toList,(Tryz.f98.body).getD .skip,false,false⟩
theorem ok98:FdOk Pg 98 F98:=⟨Tryz.f98,Tryz.func98,by kernel_rfl,by kernel_rfl,rfl,by kernel_rfl⟩
noncomputable def F99:FD:=⟨10,Tryz.f99.results.toList,(Tryz.f99.body).getD .skip,false,false⟩
theorem ok99:FdOk Pg 99 F99:=⟨Tryz.f99,Tryz.func99,by kernel_rfl,by kernel_rfl,rfl,by kernel_rfl⟩
noncomputable def F100:FD:=⟨42,Tryz.f100.results.toList,(Tryz.f100.body).getD .skip,false,false⟩
theorem ok100:FdOk Pg 100 F100:=⟨Tryz.f100,Tryz.func100,by kernel_rfl,by kernel_rfl,rfl,by kernel_rfl⟩
noncomputable def F101:FD:=⟨32,Tryz.f101.results.toList,(Tryz.f101.body).getD .skip,false,false⟩
theorem ok101:FdOk Pg 101 F101:=⟨Tryz.f101,Tryz.func101,by kernel_rfl,by kernel_rfl,rfl,by kernel_rfl⟩
noncomputable def F102:FD:=⟨11,Tryz.f102.results.toList,(Tryz.f102.body).getD .skip,false,false⟩
theorem ok102:FdOk Pg 102 F102:=⟨Tryz.f102,Tryz.func102,by kernel_rfl,by kernel_rfl,rfl,by kernel_rfl⟩
noncomputable def F103:FD:=⟨80,Tryz.f103.results.toList,(Tryz.f103.body).getD .skip,false,false⟩
theorem ok103:FdOk Pg 103 F103:=⟨Tryz.f103,Tryz.func103,by kernel_rfl,by kernel_rfl,rfl,by kernel_rfl⟩
noncomputable def F104:FD:=⟨35,Tryz.f104.results.toList,(Tryz.f104.body).getD .skip,false,false⟩
theorem ok104:FdOk Pg 104 F104:=⟨Tryz.f104,Tryz.func104,by kernel_rfl,by kernel_rfl,rfl,by kernel_rfl⟩
noncomputable def F105:FD:=⟨94,Tryz.f105.results.toList,(Tryz.f105.body).getD .skip,false,false⟩
theorem ok105:FdOk Pg 105 F105:=⟨Tryz.f105,Tryz.func105,by kernel_rfl,by kernel_rfl,rfl,by kernel_rfl⟩
noncomputable def F106:FD:=⟨33,Tryz.f106.results.toList,(Tryz.f106.body).getD .skip,false,false⟩
theorem ok106:FdOk Pg 106 F106:=⟨Tryz.f106,Tryz.func106,by kernel_rfl,by kernel_rfl,rfl,by kernel_rfl⟩
noncomputable def F107:FD:=⟨16,Tryz.f107.results.toList,(Tryz.f107.body).getD .skip,false,false⟩
theorem ok107:FdOk Pg 107 F107:=⟨Tryz.f107,Tryz.func107,by kernel_rfl,by kernel_rfl,rfl,by kernel_rfl⟩
noncomputable def F108:FD:=⟨43,Tryz.f108.results.toList,(Tryz.f108.body).getD .skip,false,false⟩
theorem ok108:FdOk Pg 108 F108:=⟨Tryz.f108,Tryz.func108,by kernel_rfl,by kernel_rfl,rfl,by kernel_rfl⟩
noncomputable def F109:FD:=⟨26,Tryz.f109.results.toList,(Tryz.f109.body).getD .skip,false,false⟩
theorem ok109:FdOk Pg 109 F109:=⟨Tryz.f109,Tryz.func109,by kernel_rfl,by kernel_rfl,rfl,by kernel_rfl⟩
noncomputable def F110:FD:=⟨9,Tryz.f110.results.toList,(Tryz.f110.body).getD .skip,false,false⟩
theorem ok110:FdOk Pg 110 F110:=⟨Tryz.f110,Tryz.func110,by kernel_rfl,by kernel_rfl,rfl,by kernel_rfl⟩
noncomputable def F111:FD:=⟨13,Tryz.f111.results.toList,(Tryz.f111.body).getD .skip,false,false⟩
theorem ok111:FdOk Pg 111 F111:=⟨Tryz.f111,Tryz.func111,by kernel_rfl,by kernel_rfl,rfl,by kernel_rfl⟩
noncomputable def F112:FD:=⟨174,Tryz.f112.results.toList,(Tryz.f112.body).getD .skip,false,false⟩
theorem ok112:FdOk Pg 112 F112:=⟨Tryz.f112,Tryz.func112,by kernel_rfl,by kernel_rfl,rfl,by kernel_rfl⟩
noncomputable def F113:FD:=⟨153,Tryz.f113.results.toList,(Tryz.f113.body).getD .skip,false,false⟩
theorem ok113:FdOk Pg 113 F113:=⟨Tryz.f113,Tryz.func113,by kernel_rfl,by kernel_rfl,rfl,by kernel_rfl⟩
noncomputable def F114:FD:=⟨10,Tryz.f114.results.toList,(Tryz.f114.body).getD .skip,false,false⟩
theorem ok114:FdOk Pg 114 F114:=⟨Tryz.f114,Tryz.func114,by kernel_rfl,by kernel_rfl,rfl,by kernel_rfl⟩
noncomputable def F115:FD:=⟨5,Tryz.f115.results.toList,(Tryz.f115.body).getD .skip,false,false⟩
theorem ok115:FdOk Pg 115 F115:=⟨Tryz.f115,Tryz.func115,by kernel_rfl,by kernel_rfl,rfl,by kernel_rfl⟩
noncomputable def F116:FD:=⟨7,Tryz.f116.results.toList,(Tryz.f116.body).getD .skip,false,false⟩
theorem ok116:FdOk Pg 116 F116:=⟨Tryz.f116,Tryz.func116,by kernel_rfl,by kernel_rfl,rfl,by kernel_rfl⟩
noncomputable def F117:FD:=⟨17,Tryz.f117.results.toList,(Tryz.f117.body).getD .skip,false,false⟩
theorem ok117:FdOk Pg 117 F117:=⟨Tryz.f117,Tryz.func117,by kernel_rfl,by kernel_rfl,rfl,by kernel_rfl⟩
noncomputable def F118:FD:=⟨28,Tryz.f118.results.toList,(Tryz.f118.body).getD .skip,false,false⟩
theorem ok118:FdOk Pg 118 F118:=⟨Tryz.f118,Tryz.func118,by kernel_rfl,by kernel_rfl,rfl,by kernel_rfl⟩
noncomputable def F119:FD:=⟨17,Tryz.f119.results.toList,(Tryz.f119.body).getD .skip,false,false⟩
theorem ok119:FdOk Pg 119 F119:=⟨Tryz.f119,Tryz.func119,by kernel_rfl,by kernel_rfl,rfl,by kernel_rfl⟩
noncomputable def F120:FD:=⟨20,Tryz.f120.results.toList,(Tryz.f120.body).getD .skip,false,false⟩
theorem ok120:FdOk Pg 120 F120:=⟨Tryz.f120,Tryz.func120,by kernel_rfl,by kernel_rfl,rfl,by kernel_rfl⟩
noncomputable def F121:FD:=⟨46,Tryz.f121.results.toList,(Tryz.f121.body).getD .skip,false,false⟩
theorem ok121:FdOk Pg 121 F121:=⟨Tryz.f121,Tryz.func121,by kernel_rfl,by kernel_rfl,rfl,by kernel_rfl⟩
noncomputable def F122:FD:=⟨217,Tryz.f122.results.toList,(Tryz.f122.body).getD .skip,false,false⟩
theorem ok122:FdOk Pg 122 F122:=⟨Tryz.f122,Tryz.func122,by kernel_rfl,by kernel_rfl,rfl,by kernel_rfl⟩
noncomputable def F123:FD:=⟨19,Tryz.f123.results.toList,(Tryz.f123.body).getD .skip,false,false⟩
theorem ok123:FdOk Pg 123 F123:=⟨Tryz.f123,Tryz.func123,by kernel_rfl,by kernel_rfl,rfl,by kernel_rfl⟩
noncomputable def F124:FD:=⟨8,Tryz.f124.results.toList,(Tryz.f124.body).getD .skip,false,false⟩
theorem ok124:FdOk Pg 124 F124:=⟨Tryz.f124,Tryz.func124,by kernel_rfl,by kernel_rfl,rfl,by kernel_rfl⟩
noncomputable def F125:FD:=⟨14,Tryz.f125.results.toList,(Tryz.f125.body).getD .skip,false,false⟩
theorem ok125:FdOk Pg 125 F125:=⟨Tryz.f125,Tryz.func125,by kernel_rfl,by kernel_rfl,rfl,by kernel_rfl⟩
noncomputable def F126:FD:=⟨214,Tryz.f126.results.toList,(Tryz.f126.body).getD .skip,false,false⟩
theorem ok126:FdOk Pg 126 F126:=⟨Tryz.f126,Tryz.func126,by kernel_rfl,by kernel_rfl,rfl,by kernel_rfl⟩
noncomputable def F127:FD:=⟨70,Tryz.f127.results.toList,(Tryz.f127.body).getD .skip,false,false⟩
theorem ok127:FdOk Pg 127 F127:=⟨Tryz.f127,Tryz.func127,by kernel_rfl,by kernel_rfl,rfl,by kernel_rfl⟩
noncomputable def F128:FD:=⟨32,Tryz.f128.results.toList,(Tryz.f128.body).getD .skip,true,false⟩
theorem ok128:FdOk Pg 128 F128:=⟨Tryz.f128,Tryz.func128,by kernel_rfl,by kernel_rfl,rfl,by kernel_rfl⟩
noncomputable def F129:FD:=⟨43,Tryz.f129.results.toList,(Tryz.f129.body).getD .skip,false,false⟩
theorem ok129:FdOk Pg 129 F129:=⟨Tryz.f129,Tryz.func129,by kernel_rfl,by kernel_rfl,rfl,by kernel_rfl⟩
noncomputable def F130:FD:=⟨72,Tryz.f130.results.toList,(Tryz.f130.body).getD .skip,false,false⟩
theorem ok130:FdOk Pg 130 F130:=⟨Tryz.f130,Tryz.func130,by kernel_rfl,by kernel_rfl,rfl,by kernel_rfl⟩
noncomputable def F131:FD:=⟨61,Tryz.f131.results.toList,(Tryz.f131.body).getD .skip,false,false⟩
theorem ok131:FdOk Pg 131 F131:=⟨Tryz.f131,Tryz.func131,by kernel_rfl,by kernel_rfl,rfl,by kernel_rfl⟩
noncomputable def F132:FD:=⟨13,Tryz.f132.results.toList,(Tryz.f132.body).getD .skip,false,false⟩
theorem ok132:FdOk Pg 132 F132:=⟨Tryz.f132,Tryz.func132,by kernel_rfl,by kernel_rfl,rfl,by kernel_rfl⟩
noncomputable def F133:FD:=⟨189,Tryz.f133.results.toList,(Tryz.f133.body).getD .skip,false,false⟩
theorem ok133:FdOk Pg 133 F133:=⟨Tryz.f133,Tryz.func133,by kernel_rfl,by kernel_rfl,rfl,by kernel_rfl⟩
noncomputable def F134:FD:=⟨24,Tryz.f134.results.toList,(Tryz.f134.body).getD .skip,false,false⟩
theorem ok134:FdOk Pg 134 F134:=⟨Tryz.f134,Tryz.func134,by kernel_rfl,by kernel_rfl,rfl,by kernel_rfl⟩
noncomputable def F135:FD:=⟨58,Tryz.f135.results.toList,(Tryz.f135.body).getD .skip,true,false⟩
theorem ok135:FdOk Pg 135 F135:=⟨Tryz.f135,Tryz.func135,by kernel_rfl,by kernel_rfl,rfl,by kernel_rfl⟩
noncomputable def F136:FD:=⟨9,Tryz.f136.results.toList,(Tryz.f136.body).getD .skip,false,false⟩
theorem ok136:FdOk Pg 136 F136:=⟨Tryz.f136,Tryz.func136,by kernel_rfl,by kernel_rfl,rfl,by kernel_rfl⟩
noncomputable def F137:FD:=⟨52,Tryz.f137.results.toList,(Tryz.f137.body).getD .skip,false,false⟩
theorem ok137:FdOk Pg 137 F137:=⟨Tryz.f137,Tryz.func137,by kernel_rfl,by kernel_rfl,rfl,by kernel_rfl⟩
noncomputable def F138:FD:=⟨52,Tryz.f138.results.toList,(Tryz.f138.body).getD .skip,false,false⟩
theorem ok138:FdOk Pg 138 F138:=⟨Tryz.f138,Tryz.func138,by kernel_rfl,by kernel_rfl,rfl,by kernel_rfl⟩
noncomputable def F139:FD:=⟨8,Tryz.f139.results.toList,(Tryz.f139.body).getD .skip,false,false⟩
theorem ok139:FdOk Pg 139 F139:=⟨Tryz.f139,Tryz.func139,by kernel_rfl,by kernel_rfl,rfl,by kernel_rfl⟩
noncomputable def F140:FD:=⟨20,Tryz.f140.results.toList,(Tryz.f140.body).getD .skip,false,false⟩
theorem ok140:FdOk Pg 140 F140:=⟨Tryz.f140,Tryz.func140,by kernel_rfl,by kernel_rfl,rfl,by kernel_rfl⟩
noncomputable def F141:FD:=⟨30,Tryz.f141.results.toList,(Tryz.f141.body).getD .skip,true,false⟩
theorem ok141:FdOk Pg 141 F141:=⟨Tryz.f141,Tryz.func141,by kernel_rfl,by kernel_rfl,rfl,by kernel_rfl⟩
noncomputable def F142:FD:=⟨85,Tryz.f142.results.toList,(Tryz.f142.body).getD .skip,false,false⟩
theorem ok142:FdOk Pg 142 F142:=⟨Tryz.f142,Tryz.func142,by kernel_rfl,by kernel_rfl,rfl,by kernel_rfl⟩
noncomputable def F143:FD:=⟨22,Tryz.f143.results.toList,(Tryz.f143.body).getD .skip,false,false⟩
theorem ok143:FdOk Pg 143 F143:=⟨Tryz.f143,Tryz.func143,by kernel_rfl,by kernel_rfl,rfl,by kernel_rfl⟩
noncomputable def F144:FD:=⟨115,Tryz.f144.results.toList,(Tryz.f144.body).getD .skip,true,false⟩
theorem ok144:FdOk Pg 144 F144:=⟨Tryz.f144,Tryz.func144,by kernel_rfl,by kernel_rfl,rfl,by kernel_rfl⟩
noncomputable def F145:FD:=⟨75,Tryz.f145.results.toList,(Tryz.f145.body).getD .skip,false,false⟩
theorem ok145:FdOk Pg 145 F145:=⟨Tryz.f145,Tryz.func145,by kernel_rfl,by kernel_rfl,rfl,by kernel_rfl⟩
noncomputable def F146:FD:=⟨52,Tryz.f146.results.toList,(Tryz.f146.body).getD .skip,false,false⟩
theorem ok146:FdOk Pg 146 F146:=⟨Tryz.f146,Tryz.func146,by kernel_rfl,by kernel_rfl,rfl,by kernel_rfl⟩
noncomputable def F147:FD:=⟨35,Tryz.f147.results.toList,(Tryz.f147.body).getD .skip,false,false⟩
theorem ok147:FdOk Pg 147 F147:=⟨Tryz.f147,Tryz.func147,by kernel_rfl,by kernel_rfl,rfl,by kernel_rfl⟩
noncomputable def F148:FD:=⟨16,Tryz.f148.results.toList,(Tryz.f148.body).getD .skip,false,false⟩
theorem ok148:FdOk Pg 148 F148:=⟨Tryz.f148,Tryz.func148,by kernel_rfl,by kernel_rfl,rfl,by kernel_rfl⟩
noncomputable def F149:FD:=⟨39,Tryz.f149.results.toList,(Tryz.f149.body).getD .skip,false,false⟩
theorem ok149:FdOk Pg 149 F149:=⟨Tryz.f149,Tryz.func149,by kernel_rfl,by kernel_rfl,rfl,by kernel_rfl⟩
noncomputable def F150:FD:=⟨70,Tryz.f150.results.toList,(Tryz.f150.body).getD .skip,false,false⟩
theorem ok150:FdOk Pg 150 F150:=⟨Tryz.f150,Tryz.func150,by kernel_rfl,by kernel_rfl,rfl,by kernel_rfl⟩
noncomputable def F151:FD:=⟨41,Tryz.f151.results.toList,(Tryz.f151.body).getD .skip,false,false⟩
theorem ok151:FdOk Pg 151 F151:=⟨Tryz.f151,Tryz.func151,by kernel_rfl,by kernel_rfl,rfl,by kernel_rfl⟩
noncomputable def F152:FD:=⟨24,Tryz.f152.results.toList,(Tryz.f152.body).getD .skip,false,false⟩
theorem ok152:FdOk Pg 152 F152:=⟨Tryz.f152,Tryz.func152,by kernel_rfl,by kernel_rfl,rfl,by kernel_rfl⟩
noncomputable def F153:FD:=⟨64,Tryz.f153.results.toList,(Tryz.f153.body).getD .skip,false,false⟩
theorem ok153:FdOk Pg 153 F153:=⟨Tryz.f153,Tryz.func153,by kernel_rfl,by kernel_rfl,rfl,by kernel_rfl⟩
noncomputable def F154:FD:=⟨90,Tryz.f154.results.toList,(Tryz.f154.body).getD .skip,false,false⟩
theorem ok154:FdOk Pg 154 F154:=⟨Tryz.f154,Tryz.func154,by kernel_rfl,by kernel_rfl,rfl,by kernel_rfl⟩
noncomputable def F155:FD:=⟨53,Tryz.f155.results.toList,(Tryz.f155.body).getD .skip,false,false⟩
theorem ok155:FdOk Pg 155 F155:=⟨Tryz.f155,Tryz.func155,by kernel_rfl,by kernel_rfl,rfl,by kernel_rfl⟩
noncomputable def F156:FD:=⟨32,Tryz.f156.results.toList,(Tryz.f156.body).getD .skip,false,false⟩
theorem ok156:FdOk Pg 156 F156:=⟨Tryz.f156,Tryz.func156,by kernel_rfl,by kernel_rfl,rfl,by kernel_rfl⟩
noncomputable def F157:FD:=⟨123,Tryz.f157.results.toList,(Tryz.f157.body).getD .skip,false,true⟩
theorem ok157:FdOk Pg 157 F157:=⟨Tryz.f157,Tryz.func157,by kernel_rfl,by kernel_rfl,rfl,by kernel_rfl⟩
noncomputable def F158:FD:=⟨61,Tryz.f158.results.toList,(Tryz.f158.body).getD .skip,false,true⟩
theorem ok158:FdOk Pg 158 F158:=⟨Tryz.f158,Tryz.func158,by kernel_rfl,by kernel_rfl,rfl,by kernel_rfl⟩
noncomputable def F159:FD:=⟨43,Tryz.f159.results.toList,(Tryz.f159.body).getD .skip,false,false⟩
theorem ok159:FdOk Pg 159 F159:=⟨Tryz.f159,Tryz.func159,by kernel_rfl,by kernel_rfl,rfl,by kernel_rfl⟩
noncomputable def F160:FD:=⟨50,Tryz.f160.results.toList,(Tryz.f160.body).getD .skip,false,false⟩
theorem ok160:FdOk Pg 160 F160:=⟨Tryz.f160,Tryz.func160,by kernel_rfl,by kernel_rfl,rfl,by kernel_rfl⟩
noncomputable def F161:FD:=⟨23,Tryz.f161.results.toList,(Tryz.f161.body).getD .skip,false,false⟩
theorem ok161:FdOk Pg 161 F161:=⟨Tryz.f161,Tryz.func161,by kernel_rfl,by kernel_rfl,rfl,by kernel_rfl⟩
noncomputable def F162:FD:=⟨28,Tryz.f162.results.toList,(Tryz.f162.body).getD .skip,false,false⟩
theorem ok162:FdOk Pg 162 F162:=⟨Tryz.f162,Tryz.func162,by kernel_rfl,by kernel_rfl,rfl,by kernel_rfl⟩
noncomputable def F163:FD:=⟨17,Tryz.f163.results.toList,(Tryz.f163.body).getD .skip,true,false⟩
theorem ok163:FdOk Pg 163 F163:=⟨Tryz.f163,Tryz.func163,by kernel_rfl,by kernel_rfl,rfl,by kernel_rfl⟩
noncomputable def F164:FD:=⟨28,Tryz.f164.results.toList,(Tryz.f164.body).getD .skip,false,false⟩
theorem ok164:FdOk Pg 164 F164:=⟨Tryz.f164,Tryz.func164,by kernel_rfl,by kernel_rfl,rfl,by kernel_rfl⟩
noncomputable def F165:FD:=⟨66,Tryz.f165.results.toList,(Tryz.f165.body).getD .skip,false,false⟩
theorem ok165:FdOk Pg 165 F165:=⟨Tryz.f165,Tryz.func165,by kernel_rfl,by kernel_rfl,rfl,by kernel_rfl⟩
noncomputable def F166:FD:=⟨57,Tryz.f166.results.toList,(Tryz.f166.body).getD .skip,false,false⟩
theorem ok166:FdOk Pg 166 F166:=⟨Tryz.f166,Tryz.func166,by kernel_rfl,by kernel_rfl,rfl,by kernel_rfl⟩
noncomputable def F167:FD:=⟨53,Tryz.f167.results.toList,(Tryz.f167.body).getD .skip,false,false⟩
theorem ok167:FdOk Pg 167 F167:=⟨Tryz.f167,Tryz.func167,by kernel_rfl,by kernel_rfl,rfl,by kernel_rfl⟩
noncomputable def F168:FD:=⟨22,Tryz.f168.results.toList,(Tryz.f168.body).getD .skip,false,false⟩
theorem ok168:FdOk Pg 168 F168:=⟨Tryz.f168,Tryz.func168,by kernel_rfl,by kernel_rfl,rfl,by kernel_rfl⟩
noncomputable def F169:FD:=⟨47,Tryz.f169.results.toList,(Tryz.f169.body).getD .skip,false,false⟩
theorem ok169:FdOk Pg 169 F169:=⟨Tryz.f169,Tryz.func169,by kernel_rfl,by kernel_rfl,rfl,by kernel_rfl⟩
noncomputable def F170:FD:=⟨29,Tryz.f170.results.toList,(Tryz.f170.body).getD .skip,false,false⟩
theorem ok170:FdOk Pg 170 F170:=⟨Tryz.f170,Tryz.func170,by kernel_rfl,by kernel_rfl,rfl,by kernel_rfl⟩
noncomputable def F171:FD:=⟨40,Tryz.f171.results.toList,(Tryz.f171.body).getD .skip,false,false⟩
theorem ok171:FdOk Pg 171 F171:=⟨Tryz.f171,Tryz.func171,by kernel_rfl,by kernel_rfl,rfl,by kernel_rfl⟩
noncomputable def F172:FD:=⟨4,Tryz.f172.results.toList,(Tryz.f172.body).getD .skip,false,false⟩
theorem ok172:FdOk Pg 172 F172:=⟨Tryz.f172,Tryz.func172,by kernel_rfl,by kernel_rfl,rfl,by kernel_rfl⟩
noncomputable def F173:FD:=⟨23,Tryz.f173.results.toList,(Tryz.f173.body).getD .skip,false,false⟩
theorem ok173:FdOk Pg 173 F173:=⟨Tryz.f173,Tryz.func173,by kernel_rfl,by kernel_rfl,rfl,by kernel_rfl⟩
noncomputable def F174:FD:=⟨58,Tryz.f174.results.toList,(Tryz.f174.body).getD .skip,false,false⟩
theorem ok174:FdOk Pg 174 F174:=⟨Tryz.f174,Tryz.func174,by kernel_rfl,by kernel_rfl,rfl,by kernel_rfl⟩
noncomputable def F175:FD:=⟨10,Tryz.f175.results.toList,(Tryz.f175.body).getD .skip,false,false⟩
theorem ok175:FdOk Pg 175 F175:=⟨Tryz.f175,Tryz.func175,by kernel_rfl,by kernel_rfl,rfl,by kernel_rfl⟩
noncomputable def F176:FD:=⟨15,Tryz.f176.results.toList,(Tryz.f176.body).getD .skip,false,false⟩
theorem ok176:FdOk Pg 176 F176:=⟨Tryz.f176,Tryz.func176,by kernel_rfl,by kernel_rfl,rfl,by kernel_rfl⟩
noncomputable def F177:FD:=⟨94,Tryz.f177.results.toList,(Tryz.f177.body).getD .skip,false,false⟩
theorem ok177:FdOk Pg 177 F177:=⟨Tryz.f177,Tryz.func177,by kernel_rfl,by kernel_rfl,rfl,by kernel_rfl⟩
noncomputable def F178:FD:=⟨15,Tryz.f178.results.toList,(Tryz.f178.body).getD .skip,false,false⟩
theorem ok178:FdOk Pg 178 F178:=⟨Tryz.f178,Tryz.func178,by kernel_rfl,by kernel_rfl,rfl,by kernel_rfl⟩
noncomputable def F179:FD:=⟨24,Tryz.f179.results.toList,(Tryz.f179.body).getD .skip,false,false⟩
theorem ok179:FdOk Pg 179 F179:=⟨Tryz.f179,Tryz.func179,by kernel_rfl,by kernel_rfl,rfl,by kernel_rfl⟩
noncomputable def F180:FD:=⟨9,Tryz.f180.results.toList,(Tryz.f180.body).getD .skip,false,false⟩
theorem ok180:FdOk Pg 180 F180:=⟨Tryz.f180,Tryz.func180,by kernel_rfl,by kernel_rfl,rfl,by kernel_rfl⟩
noncomputable def F181:FD:=⟨20,Tryz.f181.results.toList,(Tryz.f181.body).getD .skip,false,false⟩
theorem ok181:FdOk Pg 181 F181:=⟨Tryz.f181,Tryz.func181,by kernel_rfl,by kernel_rfl,rfl,by kernel_rfl⟩
noncomputable def F182:FD:=⟨59,Tryz.f182.results.toList,(Tryz.f182.body).getD .skip,false,false⟩
theorem ok182:FdOk Pg 182 F182:=⟨Tryz.f182,Tryz.func182,by kernel_rfl,by kernel_rfl,rfl,by kernel_rfl⟩
noncomputable def F183:FD:=⟨30,Tryz.f183.results.toList,(Tryz.f183.body).getD .skip,false,false⟩
theorem ok183:FdOk Pg 183 F183:=⟨Tryz.f183,Tryz.func183,by kernel_rfl,by kernel_rfl,rfl,by kernel_rfl⟩
noncomputable def F184:FD:=⟨23,Tryz.f184.results.toList,(Tryz.f184.body).getD .skip,false,false⟩
theorem ok184:FdOk Pg 184 F184:=⟨Tryz.f184,Tryz.func184,by kernel_rfl,by kernel_rfl,rfl,by kernel_rfl⟩
noncomputable def F185:FD:=⟨99,Tryz.f185.results.toList,(Tryz.f185.body).getD .skip,false,false⟩
theorem ok185:FdOk Pg 185 F185:=⟨Tryz.f185,Tryz.func185,by kernel_rfl,by kernel_rfl,rfl,by kernel_rfl⟩
noncomputable def F186:FD:=⟨25,Tryz.f186.results.toList,(Tryz.f186.body).getD .skip,false,false⟩
theorem ok186:FdOk Pg 186 F186:=⟨Tryz.f186,Tryz.func186,by kernel_rfl,by kernel_rfl,rfl,by kernel_rfl⟩
noncomputable def F187:FD:=⟨59,Tryz.f187.results.toList,(Tryz.f187.body).getD .skip,false,false⟩
theorem ok187:FdOk Pg 187 F187:=⟨Tryz.f187,Tryz.func187,by kernel_rfl,by kernel_rfl,rfl,by kernel_rfl⟩
noncomputable def F188:FD:=⟨34,Tryz.f188.results.toList,(Tryz.f188.body).getD .skip,false,false⟩
theorem ok188:FdOk Pg 188 F188:=⟨Tryz.f188,Tryz.func188,by kernel_rfl,by kernel_rfl,rfl,by kernel_rfl⟩
noncomputable def F189:FD:=⟨17,Tryz.f189.results.toList,(Tryz.f189.body).getD .skip,false,false⟩
theorem ok189:FdOk Pg 189 F189:=⟨Tryz.f189,Tryz.func189,by kernel_rfl,by kernel_rfl,rfl,by kernel_rfl⟩
noncomputable def F190:FD:=⟨23,Tryz.f190.results.toList,(Tryz.f190.body).getD .skip,false,false⟩
theorem ok190:FdOk Pg 190 F190:=⟨Tryz.f190,Tryz.func190,by kernel_rfl,by kernel_rfl,rfl,by kernel_rfl⟩
noncomputable def F191:FD:=⟨15,Tryz.f191.results.toList,(Tryz.f191.body).getD .skip,false,false⟩
theorem ok191:FdOk Pg 191 F191:=⟨Tryz.f191,Tryz.func191,by kernel_rfl,by kernel_rfl,rfl,by kernel_rfl⟩
noncomputable def F192:FD:=⟨2,Tryz.f192.results.toList,(Tryz.f192.body).getD .skip,false,false⟩
theorem ok192:FdOk Pg 192 F192:=⟨Tryz.f192,Tryz.func192,by kernel_rfl,by kernel_rfl,rfl,by kernel_rfl⟩
noncomputable def F193:FD:=⟨44,Tryz.f193.results.toList,(Tryz.f193.body).getD .skip,false,false⟩
theorem ok193:FdOk Pg 193 F193:=⟨Tryz.f193,Tryz.func193,by kernel_rfl,by kernel_rfl,rfl,by kernel_rfl⟩
noncomputable def F194:FD:=⟨54,Tryz.f194.results.toList,(Tryz.f194.body).getD .skip,false,false⟩
theorem ok194:FdOk Pg 194 F194:=⟨Tryz.f194,Tryz.func194,by kernel_rfl,by kernel_rfl,rfl,by kernel_rfl⟩
noncomputable def F195:FD:=⟨31,Tryz.f195.results.toList,(Tryz.f195.body).getD .skip,false,false⟩
theorem ok195:FdOk Pg 195 F195:=⟨Tryz.f195,Tryz.func195,by kernel_rfl,by kernel_rfl,rfl,by kernel_rfl⟩
noncomputable def F196:FD:=⟨38,Tryz.f196.results.toList,(Tryz.f196.body).getD .skip,false,false⟩
theorem ok196:FdOk Pg 196 F196:=⟨Tryz.f196,Tryz.func196,by kernel_rfl,by kernel_rfl,rfl,by kernel_rfl⟩
noncomputable def F197:FD:=⟨74,Tryz.f197.results.toList,(Tryz.f197.body).getD .skip,false,false⟩
theorem ok197:FdOk Pg 197 F197:=⟨Tryz.f197,Tryz.func197,by kernel_rfl,by kernel_rfl,rfl,by kernel_rfl⟩
noncomputable def F198:FD:=⟨75,Tryz.f198.results.toList,(Tryz.f198.body).getD .skip,false,false⟩
theorem ok198:FdOk Pg 198 F198:=⟨Tryz.f198,Tryz.func198,by kernel_rfl,by kernel_rfl,rfl,by kernel_rfl⟩
noncomputable def F199:FD:=⟨20,Tryz.f199.results.toList,(Tryz.f199.body).getD .skip,false,false⟩
theorem ok199:FdOk Pg 199 F199:=⟨Tryz.f199,Tryz.func199,by kernel_rfl,by kernel_rfl,rfl,by kernel_rfl⟩
noncomputable def F200:FD:=⟨31,Tryz.f200.results.toList,(Tryz.f200.body).getD .skip,true,false⟩
theorem ok200:FdOk Pg 200 F200:=⟨Tryz.f200,Tryz.func200,by kernel_rfl,by kernel_rfl,rfl,by kernel_rfl⟩
noncomputable def F201:FD:=⟨27,Tryz.f201.results.toList,(Tryz.f201.body).getD .skip,true,false⟩
theorem ok201:FdOk Pg 201 F201:=⟨Tryz.f201,Tryz.func201,by kernel_rfl,by kernel_rfl,rfl,by kernel_rfl⟩
noncomputable def F202:FD:=⟨31,Tryz.f202.results.toList,(Tryz.f202.body).getD .skip,false,false⟩
theorem ok202:FdOk Pg 202 F202:=⟨Tryz.f202,Tryz.func202,by kernel_rfl,by kernel_rfl,rfl,by kernel_rfl⟩
noncomputable def F203:FD:=⟨17,Tryz.f203.results.toList,(Tryz.f203.body).getD .skip,false,false⟩
theorem ok203:FdOk Pg 203 F203:=⟨Tryz.f203,Tryz.func203,by kernel_rfl,by kernel_rfl,rfl,by kernel_rfl⟩
noncomputable def F204:FD:=⟨25,Tryz.f204.results.toList,(Tryz.f204.body).getD .skip,false,false⟩
theorem ok204:FdOk Pg 204 F204:=⟨Tryz.f204,Tryz.func204,by kernel_rfl,by kernel_rfl,rfl,by kernel_rfl⟩
noncomputable def F205:FD:=⟨13,Tryz.f205.results.toList,(Tryz.f205.body).getD .skip,false,false⟩
theorem ok205:FdOk Pg 205 F205:=⟨Tryz.f205,Tryz.func205,by kernel_rfl,by kernel_rfl,rfl,by kernel_rfl⟩
noncomputable def F206:FD:=⟨16,Tryz.f206.results.toList,(Tryz.f206.body).getD .skip,false,false⟩
theorem ok206:FdOk Pg 206 F206:=⟨Tryz.f206,Tryz.func206,by kernel_rfl,by kernel_rfl,rfl,by kernel_rfl⟩
noncomputable def F207:FD:=⟨71,Tryz.f207.results.toList,(Tryz.f207.body).getD .skip,false,false⟩
theorem ok207:FdOk Pg 207 F207:=⟨Tryz.f207,Tryz.func207,by kernel_rfl,by kernel_rfl,rfl,by kernel_rfl⟩
noncomputable def F208:FD:=⟨49,Tryz.f208.results.toList,(Tryz.f208.body).getD .skip,true,false⟩
theorem ok208:FdOk Pg 208 F208:=⟨Tryz.f208,Tryz.func208,by kernel_rfl,by kernel_rfl,rfl,by kernel_rfl⟩
noncomputable def F209:FD:=⟨29,Tryz.f209.results.toList,(Tryz.f209.body).getD .skip,true,false⟩
theorem ok209:FdOk Pg 209 F209:=⟨Tryz.f209,Tryz.func209,by kernel_rfl,by kernel_rfl,rfl,by kernel_rfl⟩
noncomputable def F210:FD:=⟨19,Tryz.f210.results.toList,(Tryz.f210.body).getD .skip,false,false⟩
theorem ok210:FdOk Pg 210 F210:=⟨Tryz.f210,Tryz.func210,by kernel_rfl,by kernel_rfl,rfl,by kernel_rfl⟩
noncomputable def F211:FD:=⟨28,Tryz.f211.results.toList,(Tryz.f211.body).getD .skip,false,false⟩
theorem ok211:FdOk Pg 211 F211:=⟨Tryz.f211,Tryz.func211,by kernel_rfl,by kernel_rfl,rfl,by kernel_rfl⟩
noncomputable def F212:FD:=⟨40,Tryz.f212.results.toList,(Tryz.f212.body).getD .skip,true,false⟩
theorem ok212:FdOk Pg 212 F212:=⟨Tryz.f212,Tryz.func212,by kernel_rfl,by kernel_rfl,rfl,by kernel_rfl⟩
noncomputable def F213:FD:=⟨12,Tryz.f213.results.toList,(Tryz.f213.body).getD .skip,true,false⟩
theorem ok213:FdOk Pg 213 F213:=⟨Tryz.f213,Tryz.func213,by kernel_rfl,by kernel_rfl,rfl,by kernel_rfl⟩
noncomputable def F214:FD:=⟨50,Tryz.f214.results.toList,(Tryz.f214.body).getD .skip,true,false⟩
theorem ok214:FdOk Pg 214 F214:=⟨Tryz.f214,Tryz.func214,by kernel_rfl,by kernel_rfl,rfl,by kernel_rfl⟩
noncomputable def F215:FD:=⟨25,Tryz.f215.results.toList,(Tryz.f215.body).getD .skip,false,false⟩
theorem ok215:FdOk Pg 215 F215:=⟨Tryz.f215,Tryz.func215,by kernel_rfl,by kernel_rfl,rfl,by kernel_rfl⟩
noncomputable def F216:FD:=⟨57,Tryz.f216.results.toList,(Tryz.f216.body).getD .skip,true,false⟩
theorem ok216:FdOk Pg 216 F216:=⟨Tryz.f216,Tryz.func216,by kernel_rfl,by kernel_rfl,rfl,by kernel_rfl⟩
noncomputable def F217:FD:=⟨77,Tryz.f217.results.toList,(Tryz.f217.body).getD .skip,false,false⟩
theorem ok217:FdOk Pg 217 F217:=⟨Tryz.f217,Tryz.func217,by kernel_rfl,by kernel_rfl,rfl,by kernel_rfl⟩
noncomputable def F218:FD:=⟨14,Tryz.f218.results.toList,(Tryz.f218.body).getD .skip,true,false⟩
theorem ok218:FdOk Pg 218 F218:=⟨Tryz.f218,Tryz.func218,by kernel_rfl,by kernel_rfl,rfl,by kernel_rfl⟩
noncomputable def F219:FD:=⟨10,Tryz.f219.results.toList,(Tryz.f219.body).getD .skip,true,false⟩
theorem ok219:FdOk Pg 219 F219:=⟨Tryz.f219,Tryz.func219,by kernel_rfl,by kernel_rfl,rfl,by kernel_rfl⟩
noncomputable def F220:FD:=⟨12,Tryz.f220.results.toList,(Tryz.f220.body).getD .skip,true,false⟩
theorem ok220:FdOk Pg 220 F220:=⟨Tryz.f220,Tryz.func220,by kernel_rfl,by kernel_rfl,rfl,by kernel_rfl⟩
noncomputable def F221:FD:=⟨22,Tryz.f221.results.toList,(Tryz.f221.body).getD .skip,true,false⟩
theorem ok221:FdOk Pg 221 F221:=⟨Tryz.f221,Tryz.func221,by kernel_rfl,by kernel_rfl,rfl,by kernel_rfl⟩
noncomputable def F222:FD:=⟨16,Tryz.f222.results.toList,(Tryz.f222.body).getD .skip,false,false⟩
theorem ok222:FdOk Pg 222 F222:=⟨Tryz.f222,Tryz.func222,by kernel_rfl,by kernel_rfl,rfl,by kernel_rfl⟩
noncomputable def F223:FD:=⟨146,Tryz.f223.results.toList,(Tryz.f223.body).getD .skip,false,false⟩
theorem ok223:FdOk Pg 223 F223:=⟨Tryz.f223,Tryz.func223,by kernel_rfl,by kernel_rfl,rfl,by kernel_rfl⟩
noncomputable def F224:FD:=⟨21,Tryz.f224.results.toList,(Tryz.f224.body).getD .skip,false,false⟩
theorem ok224:FdOk Pg 224 F224:=⟨Tryz.f224,Tryz.func224,by kernel_rfl,by kernel_rfl,rfl,by kernel_rfl⟩
noncomputable def F225:FD:=⟨23,Tryz.f225.results.toList,(Tryz.f225.body).getD .skip,false,false⟩
theorem ok225:FdOk Pg 225 F225:=⟨Tryz.f225,Tryz.func225,by kernel_rfl,by kernel_rfl,rfl,by kernel_rfl⟩
noncomputable def F226:FD:=⟨12,Tryz.f226.results.toList,(Tryz.f226.body).getD .skip,false,false⟩
theorem ok226:FdOk Pg 226 F226:=⟨Tryz.f226,Tryz.func226,by kernel_rfl,by kernel_rfl,rfl,by kernel_rfl⟩
noncomputable def F227:FD:=⟨20,Tryz.f227.results.toList,(Tryz.f227.body).getD .skip,false,false⟩
theorem ok227:FdOk Pg 227 F227:=⟨Tryz.f227,Tryz.func227,by kernel_rfl,by kernel_rfl,rfl,by kernel_rfl⟩
noncomputable def F228:FD:=⟨16,Tryz.f228.results.toList,(Tryz.f228.body).getD .skip,false,false⟩
theorem ok228:FdOk Pg 228 F228:=⟨Tryz.f228,Tryz.func228,by kernel_rfl,by kernel_rfl,rfl,by kernel_rfl⟩
noncomputable def F229:FD:=⟨50,Tryz.f229.results.toList,(Tryz.f229.body).getD .skip,false,false⟩
theorem ok229:FdOk Pg 229 F229:=⟨Tryz.f229,Tryz.func229,by kernel_rfl,by kernel_rfl,rfl,by kernel_rfl⟩
noncomputable def F230:FD:=⟨5,Tryz.f230.results.toList,(Tryz.f230.body).getD .skip,true,false⟩
theorem ok230:FdOk Pg 230 F230:=⟨Tryz.f230,Tryz.func230,by kernel_rfl,by kernel_rfl,rfl,by kernel_rfl⟩
noncomputable def F231:FD:=⟨66,Tryz.f231.results.toList,(Tryz.f231.body).getD .skip,true,false⟩
theorem ok231:FdOk Pg 231 F231:=⟨Tryz.f231,Tryz.func231,by kernel_rfl,by kernel_rfl,rfl,by kernel_rfl⟩
noncomputable def F232:FD:=⟨4,Tryz.f232.results.toList,(Tryz.f232.body).getD .skip,false,false⟩
theorem ok232:FdOk Pg 232 F232:=⟨Tryz.f232,Tryz.func232,by kernel_rfl,by kernel_rfl,rfl,by kernel_rfl⟩
noncomputable def F233:FD:=⟨16,Tryz.f233.results.toList,(Tryz.f233.body).getD .skip,false,false⟩
theorem ok233:FdOk Pg 233 F233:=⟨Tryz.f233,Tryz.func233,by kernel_rfl,by kernel_rfl,rfl,by kernel_rfl⟩
noncomputable def F234:FD:=⟨30,Tryz.f234.results.toList,(Tryz.f234.body).getD .skip,false,false⟩
theorem ok234:FdOk Pg 234 F234:=⟨Tryz.f234,Tryz.func234,by kernel_rfl,by kernel_rfl,rfl,by kernel_rfl⟩
noncomputable def F235:FD:=⟨33,Tryz.f235.results.toList,(Tryz.f235.body).getD .skip,false,false⟩
theorem ok235:FdOk Pg 235 F235:=⟨Tryz.f235,Tryz.func235,by kernel_rfl,by kernel_rfl,rfl,by kernel_rfl⟩
noncomputable def F236:FD:=⟨12,Tryz.f236.results.toList,(Tryz.f236.body).getD .skip,false,false⟩
theorem ok236:FdOk Pg 236 F236:=⟨Tryz.f236,Tryz.func236,by kernel_rfl,by kernel_rfl,rfl,by kernel_rfl⟩
noncomputable def F237:FD:=⟨21,Tryz.f237.results.toList,(Tryz.f237.body).getD .skip,false,false⟩
theorem ok237:FdOk Pg 237 F237:=⟨Tryz.f237,Tryz.func237,by kernel_rfl,by kernel_rfl,rfl,by kernel_rfl⟩
noncomputable def F241:FD:=⟨8,Tryz.f241.results.toList,(Tryz.f241.body).getD .skip,false,false⟩
theorem ok241:FdOk Pg 241 F241:=⟨Tryz.f241,Tryz.func241,by kernel_rfl,by kernel_rfl,rfl,by kernel_rfl⟩
noncomputable def F242:FD:=⟨130,Tryz.f242.results.toList,(Tryz.f242.body).getD .skip,false,false⟩
theorem ok242:FdOk Pg 242 F242:=⟨Tryz.f242,Tryz.func242,by kernel_rfl,by kernel_rfl,rfl,by kernel_rfl⟩
noncomputable def F243:FD:=⟨40,Tryz.f243.results.toList,(Tryz.f243.body).getD .skip,true,false⟩
theorem ok243:FdOk Pg 243 F243:=⟨Tryz.f243,Tryz.func243,by kernel_rfl,by kernel_rfl,rfl,by kernel_rfl⟩
noncomputable def F244:FD:=⟨24,Tryz.f244.results.toList,(Tryz.f244.body).getD .skip,false,false⟩
theorem ok244:FdOk Pg 244 F244:=⟨Tryz.f244,Tryz.func244,by kernel_rfl,by kernel_rfl,rfl,by kernel_rfl⟩
noncomputable def F245:FD:=⟨61,Tryz.f245.results.toList,(Tryz.f245.body).getD .skip,false,false⟩
theorem ok245:FdOk Pg 245 F245:=⟨Tryz.f245,Tryz.func245,by kernel_rfl,by kernel_rfl,rfl,by kernel_rfl⟩
noncomputable def F246:FD:=⟨20,Tryz.f246.results.toList,(Tryz.f246.body).getD .skip,false,false⟩
theorem ok246:FdOk Pg 246 F246:=⟨Tryz.f246,Tryz.func246,by kernel_rfl,by kernel_rfl,rfl,by kernel_rfl⟩
noncomputable def F247:FD:=⟨27,Tryz.f247.results.toList,(Tryz.f247.body).getD .skip,false,false⟩
theorem ok247:FdOk Pg 247 F247:=⟨Tryz.f247,Tryz.func247,by kernel_rfl,by kernel_rfl,rfl,by kernel_rfl⟩
noncomputable def F248:FD:=⟨20,Tryz.f248.results.toList,(Tryz.f248.body).getD .skip,false,false⟩
theorem ok248:FdOk Pg 248 F248:=⟨Tryz.f248,Tryz.func248,by kernel_rfl,by kernel_rfl,rfl,by kernel_rfl⟩
noncomputable def F249:FD:=⟨10,Tryz.f249.results.toList,(Tryz.f249.body).getD .skip,false,false⟩
theorem ok249:FdOk Pg 249 F249:=⟨Tryz.f249,Tryz.func249,by kernel_rfl,by kernel_rfl,rfl,by kernel_rfl⟩
noncomputable def F250:FD:=⟨16,Tryz.f250.results.toList,(Tryz.f250.body).getD .skip,false,false⟩
theorem ok250:FdOk Pg 250 F250:=⟨Tryz.f250,Tryz.func250,by kernel_rfl,by kernel_rfl,rfl,by kernel_rfl⟩
noncomputable def F251:FD:=⟨42,Tryz.f251.results.toList,(Tryz.f251.body).getD .skip,false,false⟩
theorem ok251:FdOk Pg 251 F251:=⟨Tryz.f251,Tryz.func251,by kernel_rfl,by kernel_rfl,rfl,by kernel_rfl⟩
noncomputable def F252:FD:=⟨143,Tryz.f252.results.toList,(Tryz.f252.body).getD .skip,false,false⟩
theorem ok252:FdOk Pg 252 F252:=⟨Tryz.f252,Tryz.func252,by kernel_rfl,by kernel_rfl,rfl,by kernel_rfl⟩
noncomputable def F253:FD:=⟨8,Tryz.f253.results.toList,(Tryz.f253.body).getD .skip,false,false⟩
theorem ok253:FdOk Pg 253 F253:=⟨Tryz.f253,Tryz.func253,by kernel_rfl,by kernel_rfl,rfl,by kernel_rfl⟩
noncomputable def F254:FD:=⟨25,Tryz.f254.results.toList,(Tryz.f254.body).getD .skip,false,false⟩
theorem ok254:FdOk Pg 254 F254:=⟨Tryz.f254,Tryz.func254,by kernel_rfl,by kernel_rfl,rfl,by kernel_rfl⟩
noncomputable def F256:FD:=⟨8,Tryz.f256.results.toList,(Tryz.f256.body).getD .skip,true,false⟩
theorem ok256:FdOk Pg 256 F256:=⟨Tryz.f256,Tryz.func256,by kernel_rfl,by kernel_rfl,rfl,by kernel_rfl⟩
noncomputable def F257:FD:=⟨20,Tryz.f257.results.toList,(Tryz.f257.body).getD .skip,false,false⟩
theorem ok257:FdOk Pg 257 F257:=⟨Tryz.f257,Tryz.func257,by kernel_rfl,by kernel_rfl,rfl,by kernel_rfl⟩
noncomputable def F258:FD:=⟨29,Tryz.f258.results.toList,(Tryz.f258.body).getD .skip,false,false⟩
theorem ok258:FdOk Pg 258 F258:=⟨Tryz.f258,Tryz.func258,by kernel_rfl,by kernel_rfl,rfl,by kernel_rfl⟩
noncomputable def F259:FD:=⟨54,Tryz.f259.results.toList,(Tryz.f259.body).getD .skip,false,false⟩
theorem ok259:FdOk Pg 259 F259:=⟨Tryz.f259,Tryz.func259,by kernel_rfl,by kernel_rfl,rfl,by kernel_rfl⟩
noncomputable def F260:FD:=⟨31,Tryz.f260.results.toList,(Tryz.f260.body).getD .skip,false,false⟩
theorem ok260:FdOk Pg 260 F260:=⟨Tryz.f260,Tryz.func260,by kernel_rfl,by kernel_rfl,rfl,by kernel_rfl⟩
noncomputable def F261:FD:=⟨68,Tryz.f261.results.toList,(Tryz.f261.body).getD .skip,false,false⟩
theorem ok261:FdOk Pg 261 F261:=⟨Tryz.f261,Tryz.func261,by kernel_rfl,by kernel_rfl,rfl,by kernel_rfl⟩
noncomputable def F262:FD:=⟨9,Tryz.f262.results.toList,(Tryz.f262.body).getD .skip,false,false⟩
theorem ok262:FdOk Pg 262 F262:=⟨Tryz.f262,Tryz.func262,by kernel_rfl,by kernel_rfl,rfl,by kernel_rfl⟩
noncomputable def F263:FD:=⟨16,Tryz.f263.results.toList,(Tryz.f263.body).getD .skip,false,false⟩
theorem ok263:FdOk Pg 263 F263:=⟨Tryz.f263,Tryz.func263,by kernel_rfl,by kernel_rfl,rfl,by kernel_rfl⟩
noncomputable def F264:FD:=⟨19,Tryz.f264.results.toList,(Tryz.f264.body).getD .skip,true,false⟩
theorem ok264:FdOk Pg 264 F264:=⟨Tryz.f264,Tryz.func264,by kernel_rfl,by kernel_rfl,rfl,by kernel_rfl⟩
noncomputable def F265:FD:=⟨28,Tryz.f265.results.toList,(Tryz.f265.body).getD .skip,true,false⟩
theorem ok265:FdOk Pg 265 F265:=⟨Tryz.f265,Tryz.func265,by kernel_rfl,by kernel_rfl,rfl,by kernel_rfl⟩
noncomputable def F266:FD:=⟨69,Tryz.f266.results.toList,(Tryz.f266.body).getD .skip,false,false⟩
theorem ok266:FdOk Pg 266 F266:=⟨Tryz.f266,Tryz.func266,by kernel_rfl,by kernel_rfl,rfl,by kernel_rfl⟩
noncomputable def F276:FD:=⟨19,Tryz.f276.results.toList,(Tryz.f276.body).getD .skip,false,false⟩
theorem ok276:FdOk Pg 276 F276:=⟨Tryz.f276,Tryz.func276,by kernel_rfl,by kernel_rfl,rfl,by kernel_rfl⟩
noncomputable def F277:FD:=⟨25,Tryz.f277.results.toList,(Tryz.f277.body).getD .skip,false,false⟩
theorem ok277:FdOk Pg 277 F277:=⟨Tryz.f277,Tryz.func277,by kernel_rfl,by kernel_rfl,rfl,by kernel_rfl⟩
noncomputable def F278:FD:=⟨35,Tryz.f278.results.toList,(Tryz.f278.body).getD .skip,false,false⟩
theorem ok278:FdOk Pg 278 F278:=⟨Tryz.f278,Tryz.func278,by kernel_rfl,by kernel_rfl,rfl,by kernel_rfl⟩
noncomputable def F279:FD:=⟨45,Tryz.f279.results.toList,(Tryz.f279.body).getD .skip,false,false⟩
theorem ok279:FdOk Pg 279 F279:=⟨Tryz.f279,Tryz.func279,by kernel_rfl,by kernel_rfl,rfl,by kernel_rfl⟩
noncomputable def F280:FD:=⟨54,Tryz.f280.results.toList,(Tryz.f280.body).getD .skip,false,false⟩
theorem ok280:FdOk Pg 280 F280:=⟨Tryz.f280,Tryz.func280,by kernel_rfl,by kernel_rfl,rfl,by kernel_rfl⟩
noncomputable def F281:FD:=⟨57,Tryz.f281.results.toList,(Tryz.f281.body).getD .skip,false,false⟩
theorem ok281:FdOk Pg 281 F281:=⟨Tryz.f281,Tryz.func281,by kernel_rfl,by kernel_rfl,rfl,by kernel_rfl⟩
noncomputable def F282:FD:=⟨23,Tryz.f282.results.toList,(Tryz.f282.body).getD .skip,false,false⟩
theorem ok282:FdOk Pg 282 F282:=⟨Tryz.f282,Tryz.func282,by kernel_rfl,by kernel_rfl,rfl,by kernel_rfl⟩
noncomputable def F283:FD:=⟨91,Tryz.f283.results.toList,(Tryz.f283.body).getD .skip,false,false⟩
theorem ok283:FdOk Pg 283 F283:=⟨Tryz.f283,Tryz.func283,by kernel_rfl,by kernel_rfl,rfl,by kernel_rfl⟩
noncomputable def F284:FD:=⟨58,Tryz.f284.results.toList,(Tryz.f284.body).getD .skip,false,false⟩
theorem ok284:FdOk Pg 284 F284:=⟨Tryz.f284,Tryz.func284,by kernel_rfl,by kernel_rfl,rfl,by kernel_rfl⟩
noncomputable def F285:FD:=⟨107,Tryz.f285.results.toList,(Tryz.f285.body).getD .skip,false,false⟩
theorem ok285:FdOk Pg 285 F285:=⟨Tryz.f285,Tryz.func285,by kernel_rfl,by kernel_rfl,rfl,by kernel_rfl⟩
noncomputable def F286:FD:=⟨15,Tryz.f286.results.toList,(Tryz.f286.body).getD .skip,false,false⟩
theorem ok286:FdOk Pg 286 F286:=⟨Tryz.f286,Tryz.func286,by kernel_rfl,by kernel_rfl,rfl,by kernel_rfl⟩
noncomputable def F287:FD:=⟨20,Tryz.f287.results.toList,(Tryz.f287.body).getD .skip,false,false⟩
theorem ok287:FdOk Pg 287 F287:=⟨Tryz.f287,Tryz.func287,by kernel_rfl,by kernel_rfl,rfl,by kernel_rfl⟩
noncomputable def F288:FD:=⟨13,Tryz.f288.results.toList,(Tryz.f288.body).getD .skip,false,false⟩
theorem ok288:FdOk Pg 288 F288:=⟨Tryz.f288,Tryz.func288,by kernel_rfl,by kernel_rfl,rfl,by kernel_rfl⟩
noncomputable def F289:FD:=⟨8,Tryz.f289.results.toList,(Tryz.f289.body).getD .skip,false,false⟩
theorem ok289:FdOk Pg 289 F289:=⟨Tryz.f289,Tryz.func289,by kernel_rfl,by kernel_rfl,rfl,by kernel_rfl⟩
noncomputable def F291:FD:=⟨6,Tryz.f291.results.toList,(Tryz.f291.body).getD .skip,false,false⟩
theorem ok291:FdOk Pg 291 F291:=⟨Tryz.f291,Tryz.func291,by kernel_rfl,by kernel_rfl,rfl,by kernel_rfl⟩
noncomputable def F292:FD:=⟨81,Tryz.f292.results.toList,(Tryz.f292.body).getD .skip,false,false⟩
theorem ok292:FdOk Pg 292 F292:=⟨Tryz.f292,Tryz.func292,by kernel_rfl,by kernel_rfl,rfl,by kernel_rfl⟩
noncomputable def F293:FD:=⟨30,Tryz.f293.results.toList,(Tryz.f293.body).getD .skip,false,false⟩
theorem ok293:FdOk Pg 293 F293:=⟨Tryz.f293,Tryz.func293,by kernel_rfl,by kernel_rfl,rfl,by kernel_rfl⟩
noncomputable def F294:FD:=⟨10,Tryz.f294.results.toList,(Tryz.f294.body).getD .skip,true,false⟩
theorem ok294:FdOk Pg 294 F294:=⟨Tryz.f294,Tryz.func294,by kernel_rfl,by kernel_rfl,rfl,by kernel_rfl⟩
noncomputable def F295:FD:=⟨55,Tryz.f295.results.toList,(Tryz.f295.body).getD .skip,false,false⟩
theorem ok295:FdOk Pg 295 F295:=⟨Tryz.f295,Tryz.func295,by kernel_rfl,by kernel_rfl,rfl,by kernel_rfl⟩
noncomputable def F296:FD:=⟨10,Tryz.f296.results.toList,(Tryz.f296.body).getD .skip,false,false⟩
theorem ok296:FdOk Pg 296 F296:=⟨Tryz.f296,Tryz.func296,by kernel_rfl,by kernel_rfl,rfl,by kernel_rfl⟩
noncomputable def F297:FD:=⟨33,Tryz.f297.results.toList,(Tryz.f297.body).getD .skip,false,false⟩
theorem ok297:FdOk Pg 297 F297:=⟨Tryz.f297,Tryz.func297,by kernel_rfl,by kernel_rfl,rfl,by kernel_rfl⟩
noncomputable def F298:FD:=⟨15,Tryz.f298.results.toList,(Tryz.f298.body).getD .skip,false,false⟩
theorem ok298:FdOk Pg 298 F298:=⟨Tryz.f298,Tryz.func298,by kernel_rfl,by kernel_rfl,rfl,by kernel_rfl⟩
noncomputable def F299:FD:=⟨36,Tryz.f299.results.toList,(Tryz.f299.body).getD .skip,false,false⟩
theorem ok299:FdOk Pg 299 F299:=⟨Tryz.f299,Tryz.func299,by kernel_rfl,by kernel_rfl,rfl,by kernel_rfl⟩
noncomputable def F300:FD:=⟨15,Tryz.f300.results.toList,(Tryz.f300.body).getD .skip,false,false⟩
theorem ok300:FdOk Pg 300 F300:=⟨Tryz.f300,Tryz.func300,by kernel_rfl,by kernel_rfl,rfl,by kernel_rfl⟩
noncomputable def F302:FD:=⟨39,Tryz.f302.results.toList,(Tryz.f302.body).getD .skip,false,false⟩
theorem ok302:FdOk Pg 302 F302:=⟨Tryz.f302,Tryz.func302,by kernel_rfl,by kernel_rfl,rfl,by kernel_rfl⟩
noncomputable def F304:FD:=⟨24,Tryz.f304.results.toList,(Tryz.f304.body).getD .skip,false,false⟩
theorem ok304:FdOk Pg 304 F304:=⟨Tryz.f304,Tryz.func304,by kernel_rfl,by kernel_rfl,rfl,by kernel_rfl⟩
noncomputable def F320:FD:=⟨9,Tryz.f320.results.toList,(Tryz.f320.body).getD .skip,false,false⟩
theorem ok320:FdOk Pg 320 F320:=⟨Tryz.f320,Tryz.func320,by kernel_rfl,by kernel_rfl,rfl,by kernel_rfl⟩
noncomputable def FT:T8 FD:=(.node none (.node none (.node none .nil (.node (some F64) .nil .nil .nil .nil .nil .nil .nil .nil) (.node (some F128) .nil .nil .nil .nil .nil .nil .nil .nil) (.node (some F192) .nil .nil .nil .nil .nil .nil .nil .nil) (.node (some F256) .nil .nil .nil .nil .nil .nil .nil .nil) (.node (some F320) .nil .nil .nil .nil .nil .nil .nil .nil) .nil .nil) (.node (some F8) .nil (.node (some F72) .nil .nil .nil .nil .nil .nil .nil .nil) (.node (some F136) .nil .nil .nil .nil .nil .nil .nil .nil) (.node (some F200) .nil .nil .nil .nil .nil .nil .nil .nil) (.node (some F264) .nil .nil .nil .nil .nil .nil .nil .nil) .nil .nil .nil) (.node (some F16) .nil (.node (some F80) .nil .nil .nil .nil .nil .nil .nil .nil) (.node (some F144) .nil .nil .nil .nil .nil .nil .nil .nil) (.node (some F208) .nil .nil .nil .nil .nil .nil .nil .nil) .nil .nil .nil .nil) (.node (some F24) .nil (.node (some F88) .nil .nil .nil .nil .nil .nil .nil .nil) (.node (some F152) .nil .nil .nil .nil .nil .nil .nil .nil) (.node (some F216) .nil .nil .nil .nil .nil .nil .nil .nil) (.node (some F280) .nil .nil .nil .nil .nil .nil .nil .nil) .nil .nil .nil) (.node (some F32) .nil (.node (some F96) .nil .nil .nil .nil .nil .nil .nil .nil) (.node (some F160) .nil .nil .nil .nil .nil .nil .nil .nil) (.node (some F224) .nil .nil .nil .nil .nil .nil .nil .nil) (.node (some F288) .nil .nil .nil .nil .nil .nil .nil .nil) .nil .nil .nil) (.node (some F40) .nil (.node (some F104) .nil .nil .nil .nil .nil .nil .nil .nil) (.node (some F168) .nil .nil .nil .nil .nil .nil .nil .nil) (.node (some F232) .nil .nil .nil .nil .nil .nil .nil .nil) (.node (some F296) .nil .nil .nil .nil .nil .nil .nil .nil) .nil .nil .nil) (.node (some F48) .nil (.node (some F112) .nil .nil .nil .nil .nil .nil .nil .nil) (.node (some F176) .nil .nil .nil .nil .nil .nil .nil .nil) .nil (.node (some F304) .nil .nil .nil .nil .nil .nil .nil .nil) .nil .nil .nil) (.node (some F56) .nil (.node (some F120) .nil .nil .nil .nil .nil .nil .nil .nil) (.node (some F184) .nil .nil .nil .nil .nil .nil .nil .nil) (.node (some F248) .nil .nil .nil .nil .nil .nil .nil .nil) .nil .nil .nil .nil)) (.node none (.node none .nil (.node (some F65) .nil .nil .nil .nil .nil .nil .nil .nil) (.node (some F129) .nil .nil .nil .nil .nil .nil .nil .nil) (.node (some F193) .nil .nil .nil .nil .nil .nil .nil .nil) (.node (some F257) .nil .nil .nil .nil .nil .nil .nil .nil) .nil .nil .nil) (.node (some F9) .nil (.node (some F73) .nil .nil .nil .nil .nil .nil .nil .nil) (.node (some F137) .nil .nil .nil .nil .nil .nil .nil .nil) (.node (some F201) .nil .nil .nil .nil .nil .nil .nil .nil) (.node (some F265) .nil .nil .nil .nil .nil .nil .nil .nil) .nil .nil .nil) (.node (some F17) .nil (.node (some F81) .nil .nil .nil .nil .nil .nil .nil .nil) (.node (some F145) .nil .nil .nil .nil .nil .nil .nil .nil) (.node (some F209) .nil .nil .nil .nil .nil .nil .nil .nil) .nil .nil .nil .nil) (.node (some F25) .nil (.node (some F89) .nil .nil .nil .nil .nil .nil .nil .nil) (.node (some F153) .nil .nil .nil .nil .nil .nil .nil .nil) (.node (some F217) .nil .nil .nil .nil .nil .nil .nil .nil) (.node (some F281) .nil .nil .nil .nil .nil .nil .nil .nil) .nil .nil .nil) (.node (some F33) .nil (.node (some F97) .nil .nil .nil .nil .nil .nil .nil .nil) (.node (some F161) .nil .nil .nil .nil .nil .nil .nil .nil) (.node (some F225) .nil .nil .nil .nil .nil .nil .nil .nil) (.node (some F289) .nil .nil .nil .nil .nil .nil .nil .nil) .nil .nil .nil) (.node (some F41) .nil (.node (some F105) .nil .nil .nil .nil .nil .nil .nil .nil) (.node (some F169) .nil .nil .nil .nil .nil .nil .nil .nil) (.node (some F233) .nil .nil .nil .nil .nil .nil .nil .nil) (.node (some F297) .nil .nil .nil .nil .nil .nil .nil .nil) .nil .nil .nil) (.node (some F49) .nil (.node (some F113) .nil .nil .nil .nil .nil .nil .nil .nil) (.node (some F177) .nil .nil .nil .nil .nil .nil .nil .nil) (.node (some F241) .nil .nil .nil .nil .nil .nil .nil .nil) .nil .nil .nil .nil) (.node (some F57) .nil (.node (some F121) .nil .nil .nil .nil .nil .nil .nil .nil) (.node (some F185) .nil .nil .nil .nil .nil .nil .nil .nil) (.node (some F249) .nil .nil .nil .nil .nil .nil .nil .nil) .nil .nil .nil .nil)) (.node (some F2) (.node none .nil (.node (some F66) .nil .nil .nil .nil .nil .nil .nil .nil) (.node (some F130) .nil .nil .nil .nil .nil .nil .nil .nil) (.node (some F194) .nil .nil .nil .nil .nil .nil .nil .nil) (.node (some F258) .nil .nil .nil .nil .nil .nil .nil .nil) .nil .nil .nil) (.node (some F10) .nil (.node (some F74) .nil .nil .nil .nil .nil .nil .nil .nil) (.node (some F138) .nil .nil .nil .nil .nil .nil .nil .nil) (.node (some F202) .nil .nil .nil .nil .nil .nil .nil .nil) (.node (some F266) .nil .nil .nil .nil .nil .nil .nil .nil) .nil .nil .nil) (.node (some F18) .nil (.node (some F82) .nil .nil .nil .nil .nil .nil .nil .nil) (.node (some F146) .nil .nil .nil .nil .nil .nil .nil .nil) (.node (some F210) .nil .nil .nil .nil .nil .nil .nil .nil) .nil .nil .nil .nil) (.node (some F26) .nil (.node (some F90) .nil .nil .nil .nil .nil .nil .nil .nil) (.node (some F154) .nil .nil .nil .nil .nil .nil .nil .nil) (.node (some F218) .nil .nil .nil .nil .nil .nil .nil .nil) (.node (some F282) .nil .nil .nil .nil .nil .nil .nil .nil) .nil .nil .nil) (.node (some F34) .nil (.node (some F98) .nil .nil .nil .nil .nil .nil .nil .nil) (.node (some F162) .nil .nil .nil .nil .nil .nil .nil .nil) (.node (some F226) .nil .nil .nil .nil .nil .nil .nil .nil) .nil .nil .nil .nil) (.node (some F42) .nil (.node (some F106) .nil .nil .nil .nil .nil .nil .nil .nil) (.node (some F170) .nil .nil .nil .nil .nil .nil .nil .nil) (.node (some F234) .nil .nil .nil .nil .nil .nil .nil .nil) (.node (some F298) .nil .nil .nil .nil .nil .nil .nil .nil) .nil .nil .nil) (.node (some F50) .nil (.node (some F114) .nil .nil .nil .nil .nil .nil .nil .nil) (.node (some F178) .nil .nil .nil .nil .nil .nil .nil .nil) (.node (some F242) .nil .nil .nil .nil .nil .nil .nil .nil) .nil .nil .nil .nil) (.node (some F58) .nil (.node (some F122) .nil .nil .nil .nil .nil .nil .nil .nil) (.node (some F186) .nil .nil .nil .nil .nil .nil .nil .nil) (.node (some F250) .nil .nil .nil .nil .nil .nil .nil .nil) .nil .nil .nil .nil)) (.node (some F3) (.node none .nil (.node (some F67) .nil .nil .nil .nil .nil .nil .nil .nil) (.node (some F131) .nil .nil .nil .nil .nil .nil .nil .nil) (.node (some F195) .nil .nil .nil .nil .nil .nil .nil .nil) (.node (some F259) .nil .nil .nil .nil .nil .nil .nil .nil) .nil .nil .nil) (.node (some F11) .nil (.node (some F75) .nil .nil .nil .nil .nil .nil .nil .nil) (.node (some F139) .nil .nil .nil .nil .nil .nil .nil .nil) (.node (some F203) .nil .nil .nil .nil .nil .nil .nil .nil) .nil .nil .nil .nil) (.node (some F19) .nil (.node (some F83) .nil .nil .nil .nil .nil .nil .nil .nil) (.node (some F147) .nil .nil .nil .nil .nil .nil .nil .nil) (.node (some F211) .nil .nil .nil .nil .nil .nil .nil .nil) .nil .nil .nil .nil) (.node (some F27) .nil (.node (some F91) .nil .nil .nil .nil .nil .nil .nil .nil) (.node (some F155) .nil .nil .nil .nil .nil .nil .nil .nil) (.node (some F219) .nil .nil .nil .nil .nil .nil .nil .nil) (.node (some F283) .nil .nil .nil .nil .nil .nil .nil .nil) .nil .nil .nil) (.node (some F35) .nil (.node (some F99) .nil .nil .nil .nil .nil .nil .nil .nil) (.node (some F163) .nil .nil .nil .nil .nil .nil .nil .nil) (.node (some F227) .nil .nil .nil .nil .nil .nil .nil .nil) (.node (some F291) .nil .nil .nil .nil .nil .nil .nil .nil) .nil .nil .nil) (.node (some F43) .nil (.node (some F107) .nil .nil .nil .nil .nil .nil .nil .nil) (.node (some F171) .nil .nil .nil .nil .nil .nil .nil .nil) (.node (some F235) .nil .nil .nil .nil .nil .nil .nil .nil) (.node (some F299) .nil .nil .nil .nil .nil .nil .nil .nil) .nil .nil .nil) (.node (some F51) .nil (.node (some F115) .nil .nil .nil .nil .nil .nil .nil .nil) (.node (some F179) .nil .nil .nil .nil .nil .nil .nil .nil) (.node (some F243) .nil .nil .nil .nil .nil .nil .nil .nil) .nil .nil .nil .nil) (.node (some F59) .nil (.node (some F123) .nil .nil .nil .nil .nil .nil .nil .nil) (.node (some F187) .nil .nil .nil .nil .nil .nil .nil .nil) (.node (some F251) .nil .nil .nil .nil .nil .nil .nil .nil) .nil .nil .nil .nil)) (.node (some F4) (.node none .nil (.node (some F68) .nil .nil .nil .nil .nil .nil .nil .nil) (.node (some F132) .nil .nil .nil .nil .nil .nil .nil .nil) (.node (some F196) .nil .nil .nil .nil .nil .nil .nil .nil) (.node (some F260) .nil .nil .nil .nil .nil .nil .nil .nil) .nil .nil .nil) (.node (some F12) .nil (.node (some F76) .nil .nil .nil .nil .nil .nil .nil .nil) (.node (some F140) .nil .nil .nil .nil .nil .nil .nil .nil) (.node (some F204) .nil .nil .nil .nil .nil .nil .nil .nil) .nil .nil .nil .nil) (.node (some F20) .nil (.node (some F84) .nil .nil .nil .nil .nil .nil .nil .nil) (.node (some F148) .nil .nil .nil .nil .nil .nil .nil .nil) (.node (some F212) .nil .nil .nil .nil .nil .nil .nil .nil) (.node (some F276) .nil .nil .nil .nil .nil .nil .nil .nil) .nil .nil .nil) (.node (some F28) .nil (.node (some F92) .nil .nil .nil .nil .nil .nil .nil .nil) (.node (some F156) .nil .nil .nil .nil .nil .nil .nil .nil) (.node (some F220) .nil .nil .nil .nil .nil .nil .nil .nil) (.node (some F284) .nil .nil .nil .nil .nil .nil .nil .nil) .nil .nil .nil) (.node (some F36) .nil (.node (some F100) .nil .nil .nil .nil .nil .nil .nil .nil) (.node (some F164) .nil .nil .nil .nil .nil .nil .nil .nil) (.node (some F228) .nil .nil .nil .nil .nil .nil .nil .nil) (.node (some F292) .nil .nil .nil .nil .nil .nil .nil .nil) .nil .nil .nil) (.node (some F44) .nil (.node (some F108) .nil .nil .nil .nil .nil .nil .nil .nil) (.node (some F172) .nil .nil .nil .nil .nil .nil .nil .nil) (.node (some F236) .nil .nil .nil .nil .nil .nil .nil .nil) (.node (some F300) .nil .nil .nil .nil .nil .nil .nil .nil) .nil .nil .nil) (.node (some F52) .nil (.node (some F116) .nil .nil .nil .nil .nil .nil .nil .nil) (.node (some F180) .nil .nil .nil .nil .nil .nil .nil .nil) (.node (some F244) .nil .nil .nil .nil .nil .nil .nil .nil) .nil .nil .nil .nil) (.node (some F60) .nil (.node (some F124) .nil .nil .nil .nil .nil .nil .nil .nil) (.node (some F188) .nil .nil .nil .nil .nil .nil .nil .nil) (.node (some F252) .nil .nil .nil .nil .nil .nil .nil .nil) .nil .nil .nil .nil)) (.node (some F5) (.node none .nil (.node (some F69) .nil .nil .nil .nil .nil .nil .nil .nil) (.node (some F133) .nil .nil .nil .nil .nil .nil .nil .nil) (.node (some F197) .nil .nil .nil .nil .nil .nil .nil .nil) (.node (some F261) .nil .nil .nil .nil .nil .nil .nil .nil) .nil .nil .nil) (.node (some F13) .nil (.node (some F77) .nil .nil .nil .nil .nil .nil .nil .nil) (.node (some F141) .nil .nil .nil .nil .nil .nil .nil .nil) (.node (some F205) .nil .nil .nil .nil .nil .nil .nil .nil) .nil .nil .nil .nil) (.node (some F21) .nil (.node (some F85) .nil .nil .nil .nil .nil .nil .nil .nil) (.node (some F149) .nil .nil .nil .nil .nil .nil .nil .nil) (.node (some F213) .nil .nil .nil .nil .nil .nil .nil .nil) (.node (some F277) .nil .nil .nil .nil .nil .nil .nil .nil) .nil .nil .nil) (.node (some F29) .nil (.node (some F93) .nil .nil .nil .nil .nil .nil .nil .nil) (.node (some F157) .nil .nil .nil .nil .nil .nil .nil .nil) (.node (some F221) .nil .nil .nil .nil .nil .nil .nil .nil) (.node (some F285) .nil .nil .nil .nil .nil .nil .nil .nil) .nil .nil .nil) (.node (some F37) .nil (.node (some F101) .nil .nil .nil .nil .nil .nil .nil .nil) (.node (some F165) .nil .nil .nil .nil .nil .nil .nil .nil) (.node (some F229) .nil .nil .nil .nil .nil .nil .nil .nil) (.node (some F293) .nil .nil .nil .nil .nil .nil .nil .nil) .nil .nil .nil) (.node (some F45) .nil (.node (some F109) .nil .nil .nil .nil .nil .nil .nil .nil) (.node (some F173) .nil .nil .nil .nil .nil .nil .nil .nil) (.node (some F237) .nil .nil .nil .nil .nil .nil .nil .nil) .nil .nil .nil .nil) (.node (some F53) .nil (.node (some F117) .nil .nil .nil .nil .nil .nil .nil .nil) (.node (some F181) .nil .nil .nil .nil .nil .nil .nil .nil) (.node (some F245) .nil .nil .nil .nil .nil .nil .nil .nil) .nil .nil .nil .nil) (.node (some F61) .nil (.node (some F125) .nil .nil .nil .nil .nil .nil .nil .nil) (.node (some F189) .nil .nil .nil .nil .nil .nil .nil .nil) (.node (some F253) .nil .nil .nil .nil .nil .nil .nil .nil) .nil .nil .nil .nil)) (.node (some F6) (.node none .nil (.node (some F70) .nil .nil .nil .nil .nil .nil .nil .nil) (.node (some F134) .nil .nil .nil .nil .nil .nil .nil .nil) (.node (some F198) .nil .nil .nil .nil .nil .nil .nil .nil) (.node (some F262) .nil .nil .nil .nil .nil .nil .nil .nil) .nil .nil .nil) (.node (some F14) .nil (.node (some F78) .nil .nil .nil .nil .nil .nil .nil .nil) (.node (some F142) .nil .nil .nil .nil .nil .nil .nil .nil) (.node (some F206) .nil .nil .nil .nil .nil .nil .nil .nil) .nil .nil .nil .nil) (.node (some F22) .nil (.node (some F86) .nil .nil .nil .nil .nil .nil .nil .nil) (.node (some F150) .nil .nil .nil .nil .nil .nil .nil .nil) (.node (some F214) .nil .nil .nil .nil .nil .nil .nil .nil) (.node (some F278) .nil .nil .nil .nil .nil .nil .nil .nil) .nil .nil .nil) (.node (some F30) .nil (.node (some F94) .nil .nil .nil .nil .nil .nil .nil .nil) (.node (some F158) .nil .nil .nil .nil .nil .nil .nil .nil) (.node (some F222) .nil .nil .nil .nil .nil .nil .nil .nil) (.node (some F286) .nil .nil .nil .nil .nil .nil .nil .nil) .nil .nil .nil) (.node (some F38) .nil (.node (some F102) .nil .nil .nil .nil .nil .nil .nil .nil) (.node (some F166) .nil .nil .nil .nil .nil .nil .nil .nil) (.node (some F230) .nil .nil .nil .nil .nil .nil .nil .nil) (.node (some F294) .nil .nil .nil .nil .nil .nil .nil .nil) .nil .nil .nil) (.node (some F46) .nil (.node (some F110) .nil .nil .nil .nil .nil .nil .nil .nil) (.node (some F174) .nil .nil .nil .nil .nil .nil .nil .nil) .nil (.node (some F302) .nil .nil .nil .nil .nil .nil .nil .nil) .nil .nil .nil) (.node (some F54) .nil (.node (some F118) .nil .nil .nil .nil .nil .nil .nil .nil) (.node (some F182) .nil .nil .nil .nil .nil .nil .nil .nil) (.node (some F246) .nil .nil .nil .nil .nil .nil .nil .nil) .nil .nil .nil .nil) (.node (some F62) .nil (.node (some F126) .nil .nil .nil .nil .nil .nil .nil .nil) (.node (some F190) .nil .nil .nil .nil .nil .nil .nil .nil) (.node (some F254) .nil .nil .nil .nil .nil .nil .nil .nil) .nil .nil .nil .nil)) (.node (some F7) (.node none .nil (.node (some F71) .nil .nil .nil .nil .nil .nil .nil .nil) (.node (some F135) .nil .nil .nil .nil .nil .nil .nil .nil) (.node (some F199) .nil .nil .nil .nil .nil .nil .nil .nil) (.node (some F263) .nil .nil .nil .nil .nil .nil .nil .nil) .nil .nil .nil) (.node (some F15) .nil (.node (some F79) .nil .nil .nil .nil .nil .nil .nil .nil) (.node (some F143) .nil .nil .nil .nil .nil .nil .nil .nil) (.node (some F207) .nil .nil .nil .nil .nil .nil .nil .nil) .nil .nil .nil .nil) (.node (some F23) .nil (.node (some F87) .nil .nil .nil .nil .nil .nil .nil .nil) (.node (some F151) .nil .nil .nil .nil .nil .nil .nil .nil) (.node (some F215) .nil .nil .nil .nil .nil .nil .nil .nil) (.node (some F279) .nil .nil .nil .nil .nil .nil .nil .nil) .nil .nil .nil) (.node (some F31) .nil (.node (some F95) .nil .nil .nil .nil .nil .nil .nil .nil) (.node (some F159) .nil .nil .nil .nil .nil .nil .nil .nil) (.node (some F223) .nil .nil .nil .nil .nil .nil .nil .nil) (.node (some F287) .nil .nil .nil .nil .nil .nil .nil .nil) .nil .nil .nil) (.node (some F39) .nil (.node (some F103) .nil .nil .nil .nil .nil .nil .nil .nil) (.node (some F167) .nil .nil .nil .nil .nil .nil .nil .nil) (.node (some F231) .nil .nil .nil .nil .nil .nil .nil .nil) (.node (some F295) .nil .nil .nil .nil .nil .nil .nil .nil) .nil .nil .nil) (.node (some F47) .nil (.node (some F111) .nil .nil .nil .nil .nil .nil .nil .nil) (.node (some F175) .nil .nil .nil .nil .nil .nil .nil .nil) .nil .nil .nil .nil .nil) (.node (some F55) .nil (.node (some F119) .nil .nil .nil .nil .nil .nil .nil .nil) (.node (some F183) .nil .nil .nil .nil .nil .nil .nil .nil) (.node (some F247) .nil .nil .nil .nil .nil .nil .nil .nil) .nil .nil .nil .nil) (.node (some F63) .nil (.node (some F127) .nil .nil .nil .nil .nil .nil .nil .nil) (.node (some F191) .nil .nil .nil .nil .nil .nil .nil .nil) .nil .nil .nil .nil .nil)))
noncomputable def FL:List (Nat × FD):=[(2,F2),(3,F3),(4,F4),(5,F5),(6,F6),(7,F7),(8,F8),(9,F9),(10,F10),(11,F11),(12,F12),(13,F13),(14,F14),(15,F15),(16,F16),(17,F17),(18,F18),(19,F19),(20,F20),(21,F21),(22,F22),(23,F23),(24,F24),(25,F25),(26,F26),(27,F27),(28,F28),(29,F29),(30,F30),(31,F31),(32,F32),(33,F33),(34,F34),(35,F35),(36,F36),(37,F37),(38,F38),(39,F39),(40,F40),(41,F41),(42,F42),(43,F43),(44,F44),(45,F45),(46,F46),(47,F47),(48,F48),(49,F49),(50,F50),(51,F51),(52,F52),(53,F53),(54,F54),(55,F55),(56,F56),(57,F57),(58,F58),(59,F59),(60,F60),(61,F61),(62,F62),(63,F63),(64,F64),(65,F65),(66,F66),(67,F67),(68,F68),(69,F69),(70,F70),(71,F71),(72,F72),(73,F73),(74,F74),(75,F75),(76,F76),(77,F77),(78,F78),(79,F79),(80,F80),(81,F81),(82,F82),(83,F83),(84,F84),(85,F85),(86,F86),(87,F87),(88,F88),(89,F89),(90,F90),(91,F91),(92,F92),(93,F93),(94,F94),(95,F95),(96,F96),(97,F97),(98,F98),(99,F99),(100,F100),(101,F101),(102,F102),(103,F103),(104,F104),(105,F105),(106,F106),(107,F107),(108,F108),(109,F109),(110,F110),(111,F111),(112,F112),(113,F113),(114,F114),(115,F115),(116,F116),(117,F117),(118,F118),(119,F119),(120,F120),(121,F121),(122,F122),(123,F123),(124,F124),(125,F125),(126,F126),(127,F127),(128,F128),(129,F129),(130,F130),(131,F131),(132,F132),(133,F133),(134,F134),(135,F135),(136,F136),(137,F137),(138,F138),(139,F139),(140,F140),(141,F141),(142,F142),(143,F143),(144,F144),(145,F145),(146,F146),(147,F147),(148,F148),(149,F149),(150,F150),(151,F151),(152,F152),(153,F153),(154,F154),(155,F155),(156,F156),(157,F157),(158,F158),(159,F159),(160,F160),(161,F161),(162,F162),(163,F163),(164,F164),(165,F165),(166,F166),(167,F167),(168,F168),(169,F169),(170,F170),(171,F171),(172,F172),(173,F173),(174,F174),(175,F175),(176,F176),(177,F177),(178,F178),(179,F179),(180,F180),(181,F181),(182,F182),(183,F183),(184,F184),(185,F185),(186,F186),(187,F187),(188,F188),(189,F189),(190,F190),(191,F191),(192,F192),(193,F193),(194,F194),(195,F195),(196,F196),(197,F197),(198,F198),(199,F199),(200,F200),(201,F201),(202,F202),(203,F203),(204,F204),(205,F205),(206,F206),(207,F207),(208,F208),(209,F209),(210,F210),(211,F211),(212,F212),(213,F213),(214,F214),(215,F215),(216,F216),(217,F217),(218,F218),(219,F219),(220,F220),(221,F221),(222,F222),(223,F223),(224,F224),(225,F225),(226,F226),(227,F227),(228,F228),(229,F229),(230,F230),(231,F231),(232,F232),(233,F233),(234,F234),(235,F235),(236,F236),(237,F237),(241,F241),(242,F242),(243,F243),(244,F244),(245,F245),(246,F246),(247,F247),(248,F248),(249,F249),(250,F250),(251,F251),(252,F252),(253,F253),(254,F254),(256,F256),(257,F257),(258,F258),(259,F259),(260,F260),(261,F261),(262,F262),(263,F263),(264,F264),(265,F265),(266,F266),(276,F276),(277,F277),(278,F278),(279,F279),(280,F280),(281,F281),(282,F282),(283,F283),(284,F284),(285,F285),(286,F286),(287,F287),(288,F288),(289,F289),(291,F291),(292,F292),(293,F293),(294,F294),(295,F295),(296,F296),(297,F297),(298,F298),(299,F299),(300,F300),(302,F302),(304,F304),(320,F320)]
theorem allOk:AllOk Pg FL:=⟨ok2,ok3,ok4,ok5,ok6,ok7,ok8,ok9,ok10,ok11,ok12,ok13,ok14,ok15,ok16,ok17,ok18,ok19,ok20,ok21,ok22,ok23,ok24,ok25,ok26,ok27,ok28,ok29,ok30,ok31,ok32,ok33,ok34,ok35,ok36,ok37,ok38,ok39,ok40,ok41,ok42,ok43,ok44,ok45,ok46,ok47,ok48,ok49,ok50,ok51,ok52,ok53,ok54,ok55,ok56,ok57,ok58,ok59,ok60,ok61,ok62,ok63,ok64,ok65,ok66,ok67,ok68,ok69,ok70,ok71,ok72,ok73,ok74,ok75,ok76,ok77,ok78,ok79,ok80,ok81,ok82,ok83,ok84,ok85,ok86,ok87,ok88,ok89,ok90,ok91,ok92,ok93,ok94,ok95,ok96,ok97,ok98,ok99,ok100,ok101,ok102,ok103,ok104,ok105,ok106,ok107,ok108,ok109,ok110,ok111,ok112,ok113,ok114,ok115,ok116,ok117,ok118,ok119,ok120,ok121,ok122,ok123,ok124,ok125,ok126,ok127,ok128,ok129,ok130,ok131,ok132,ok133,ok134,ok135,ok136,ok137,ok138,ok139,ok140,ok141,ok142,ok143,ok144,ok145,ok146,ok147,ok148,ok149,ok150,ok151,ok152,ok153,ok154,ok155,ok156,ok157,ok158,ok159,ok160,ok161,ok162,ok163,ok164,ok165,ok166,ok167,ok168,ok169,ok170,ok171,ok172,ok173,ok174,ok175,ok176,ok177,ok178,ok179,ok180,ok181,ok182,ok183,ok184,ok185,ok186,ok187,ok188,ok189,ok190,ok191,ok192,ok193,ok194,ok195,ok196,ok197,ok198,ok199,ok200,ok201,ok202,ok203,ok204,ok205,ok206,ok207,ok208,ok209,ok210,ok211,ok212,ok213,ok214,ok215,ok216,ok217,ok218,ok219,ok220,ok221,ok222,ok223,ok224,ok225,ok226,ok227,ok228,ok229,ok230,ok231,ok232,ok233,ok234,ok235,ok236,ok237,ok241,ok242,ok243,ok244,ok245,ok246,ok247,ok248,ok249,ok250,ok251,ok252,ok253,ok254,ok256,ok257,ok258,ok259,ok260,ok261,ok262,ok263,ok264,ok265,ok266,ok276,ok277,ok278,ok279,ok280,ok281,ok282,ok283,ok284,ok285,ok286,ok287,ok288,ok289,ok291,ok292,ok293,ok294,ok295,ok296,ok297,ok298,ok299,ok300,ok302,ok304,ok320,trivial⟩
theorem tabOk:TabOk Pg FT:=tabOk_of (show FT=T8.ofList FL from by kernel_rfl) allOk
def PT:T8 Unit:=(.node none (.node none (.node none .nil (.node (some ()) .nil .nil .nil .nil .nil .nil .nil .nil) (.node (some ()) .nil .nil .nil .nil .nil .nil .nil .nil) .nil (.node (some ()) .nil .nil .nil .nil .nil .nil .nil .nil) (.node (some ()) .nil .nil .nil .nil .nil .nil .nil .nil) .nil .nil) (.node none .nil .nil .nil (.node (some ()) .nil .nil .nil .nil .nil .nil .nil .nil) (.node (some ()) .nil .nil .nil .nil .nil .nil .nil .nil) .nil .nil .nil) (.node (some ()) .nil .nil (.node (some ()) .nil .nil .nil .nil .nil .nil .nil .nil) (.node (some ()) .nil .nil .nil .nil .nil .nil .nil .nil) .nil .nil .nil .nil) (.node none .nil .nil .nil (.node (some ()) .nil .nil .nil .nil .nil .nil .nil .nil) .nil .nil .nil .nil) .nil .nil .nil .nil) (.node none (.node none .nil .nil .nil .nil (.node (some ()) .nil .nil .nil .nil .nil .nil .nil .nil) .nil .nil .nil) (.node none .nil .nil .nil (.node (some ()) .nil .nil .nil .nil .nil .nil .nil .nil) (.node (some ()) .nil .nil .nil .nil .nil .nil .nil .nil) .nil .nil .nil) (.node none .nil (.node (some ()) .nil .nil .nil .nil .nil .nil .nil .nil) .nil (.node (some ()) .nil .nil .nil .nil .nil .nil .nil .nil) .nil .nil .nil .nil) .nil (.node none .nil (.node (some ()) .nil .nil .nil .nil .nil .nil .nil .nil) .nil .nil .nil .nil .nil .nil) .nil .nil .nil) (.node none .nil .nil .nil (.node none .nil .nil .nil (.node (some ()) .nil .nil .nil .nil .nil .nil .nil .nil) .nil .nil .nil .nil) .nil .nil .nil (.node (some ()) .nil .nil .nil .nil .nil .nil .nil .nil)) (.node none (.node none .nil (.node (some ()) .nil .nil .nil .nil .nil .nil .nil .nil) .nil .nil .nil .nil .nil .nil) .nil .nil (.node none .nil .nil .nil (.node (some ()) .nil .nil .nil .nil .nil .nil .nil .nil) .nil .nil .nil .nil) (.node none .nil .nil (.node (some ()) .nil .nil .nil .nil .nil .nil .nil .nil) .nil .nil .nil .nil .nil) .nil (.node none .nil .nil .nil (.node (some ()) .nil .nil .nil .nil .nil .nil .nil .nil) .nil .nil .nil .nil) .nil) (.node none .nil (.node none .nil .nil .nil (.node (some ()) .nil .nil .nil .nil .nil .nil .nil .nil) .nil .nil .nil .nil) (.node none .nil .nil .nil (.node (some ()) .nil .nil .nil .nil .nil .nil .nil .nil) .nil .nil .nil .nil) (.node none .nil .nil .nil (.node (some ()) .nil .nil .nil .nil .nil .nil .nil .nil) .nil .nil .nil .nil) (.node none .nil .nil (.node (some ()) .nil .nil .nil .nil .nil .nil .nil .nil) .nil .nil .nil .nil .nil) .nil .nil .nil) (.node none .nil (.node none .nil (.node (some ()) .nil .nil .nil .nil .nil .nil .nil .nil) (.node (some ()) .nil .nil .nil .nil .nil .nil .nil .nil) .nil .nil .nil .nil .nil) (.node none .nil .nil .nil (.node (some ()) .nil .nil .nil .nil .nil .nil .nil .nil) .nil .nil .nil .nil) (.node none .nil .nil .nil (.node (some ()) .nil .nil .nil .nil .nil .nil .nil .nil) .nil .nil .nil .nil) .nil (.node none .nil .nil .nil (.node (some ()) .nil .nil .nil .nil .nil .nil .nil .nil) .nil .nil .nil .nil) (.node (some ()) .nil .nil .nil .nil .nil .nil .nil .nil) .nil) (.node none (.node none .nil (.node (some ()) .nil .nil .nil .nil .nil .nil .nil .nil) .nil .nil .nil .nil .nil .nil) .nil (.node none .nil .nil .nil (.node (some ()) .nil .nil .nil .nil .nil .nil .nil .nil) .nil .nil .nil .nil) (.node none .nil .nil .nil (.node (some ()) .nil .nil .nil .nil .nil .nil .nil .nil) .nil .nil .nil .nil) (.node none .nil .nil .nil (.node (some ()) .nil .nil .nil .nil .nil .nil .nil .nil) (.node (some ()) .nil .nil .nil .nil .nil .nil .nil .nil) .nil .nil .nil) (.node none .nil (.node (some ()) .nil .nil .nil .nil .nil .nil .nil .nil) .nil .nil .nil .nil .nil .nil) (.node (some ()) .nil .nil .nil .nil .nil .nil .nil .nil) .nil) (.node none (.node none .nil .nil (.node (some ()) .nil .nil .nil .nil .nil .nil .nil .nil) .nil .nil .nil .nil .nil) (.node none .nil (.node (some ()) .nil .nil .nil .nil .nil .nil .nil .nil) (.node (some ()) .nil .nil .nil .nil .nil .nil .nil .nil) .nil .nil .nil .nil .nil) (.node (some ()) .nil .nil .nil (.node (some ()) .nil .nil .nil .nil .nil .nil .nil .nil) .nil .nil .nil .nil) .nil (.node none .nil .nil .nil (.node (some ()) .nil .nil .nil .nil .nil .nil .nil .nil) .nil .nil .nil .nil) .nil .nil .nil))
noncomputable def pu:FuncId→Bool:=fun f=>(T8.get (path f) PT).isSome
def crcStep (r:Nat):Nat:=Nat.xor (Nat.shiftRight r 1) (Nat.mul 3988292384 (Nat.land r 1))
def crc8:Nat→Nat→Nat
 | 0,r=>r
 | n + 1,r=>crc8 n (crcStep r)
noncomputable def crcGo:List UInt8→Nat→Nat
 | [],r=>r
 | b :: s,r=>fNat (crc8 8 (Nat.xor r b.toNat)) fun r=>crcGo s r
noncomputable def crcMore (sum:Nat) (s:List UInt8):Nat:=Nat.xor (crcGo s (Nat.xor sum 4294967295)) 4294967295
noncomputable def hd:HdF:=fun f a=>match Nat.beq f 265 with
 | true=>(match a with
   | [.int .u32 (.ofNat n),.str s]=>bif Nat.blt n 4294967296 && Nat.blt s.length 1000000 then some (.int .u32 (.ofNat (crcMore n s))) else none
   | _=>none)
 | false=>none
end Go.Proofs.YtcglbpjpbjaecaaGreat.Ru
namespace Go.Proofs.YtcglbpjpbjaecaaGreat.Sh
open Go Go.Ab Go.RowKit
open Go.Proofs.YtcglbpjpbjaecaaGreat.Ru (Pg okP)
set_option maxRecDepth 100000
/- NOT PRINTED 9 varve/varvelaw28.TaleTells: [a region that draws: guards] -/
noncomputable def B114:Code:=(Tryz.f114.body).getD .skip
def R114:List ResultVar:=[.tmp 0]
abbrev N114:Nat:=10
def K114:KT:=(.seq .leaf (.seq .leaf .leaf [0]) [])
theorem S114 (Q:AEnd→AH→Prop) (h:AH):vc Pg N114 B114 K114 (vcRet Pg R114 Q) (initEnv 0 []) h=(
 bindV (still (aBuild Pg 225 [(0,(V.str [98,101,103,105,110]))]) h) fun v1 h2 =>
 bindV (still (aBuild Pg 225 [(0,(V.str [114,101,97,100])),(1,(V.bool true)),(2,(V.bool true))]) h2) fun v3 h4 =>
 bindV (still (aBuild Pg 225 [(0,(V.str [119,114,105,116,101])),(1,(V.bool true)),(2,(V.bool true)),(3,(V.bool true)),(4,(V.bool true))]) h4) fun v5 h6 =>
 bindV (still (aBuild Pg 225 [(0,(V.str [99,111,109,109,105,116])),(1,(V.bool true))]) h6) fun v7 h8 =>
 bindV (still (aBuild Pg 225 [(0,(V.str [97,98,111,114,116])),(1,(V.bool true))]) h8) fun v9 h10 =>
 bindV (still (aBuild Pg 225 [(0,(V.str [118,97,99,117,117,109]))]) h10) fun v11 h12 =>
 bindV (still (aBuild Pg 225 [(0,(V.str [99,104,101,99,107,112,111,105,110,116]))]) h12) fun v13 h14 =>
 bindV (still (aBuild Pg 225 [(0,(V.str [99,108,111,115,101]))]) h14) fun v15 h16 =>
 bindV (aBuildSlice Pg h16 222 8 [(0,v1),(1,v3),(2,v5),(3,v7),(4,v9),(5,v11),(6,v13),(7,v15)]) fun v17 h18 =>
 Q (.ret v17) h18):=by kernel_rfl
theorem C114 (Q:AEnd→AH→Prop) (h:AH) (c :
 bindV (still (aBuild Pg 225 [(0,(V.str [98,101,103,105,110]))]) h) fun v1 h2 =>
 bindV (still (aBuild Pg 225 [(0,(V.str [114,101,97,100])),(1,(V.bool true)),(2,(V.bool true))]) h2) fun v3 h4 =>
 bindV (still (aBuild Pg 225 [(0,(V.str [119,114,105,116,101])),(1,(V.bool true)),(2,(V.bool true)),(3,(V.bool true)),(4,(V.bool true))]) h4) fun v5 h6 =>
 bindV (still (aBuild Pg 225 [(0,(V.str [99,111,109,109,105,116])),(1,(V.bool true))]) h6) fun v7 h8 =>
 bindV (still (aBuild Pg 225 [(0,(V.str [97,98,111,114,116])),(1,(V.bool true))]) h8) fun v9 h10 =>
 bindV (still (aBuild Pg 225 [(0,(V.str [118,97,99,117,117,109]))]) h10) fun v11 h12 =>
 bindV (still (aBuild Pg 225 [(0,(V.str [99,104,101,99,107,112,111,105,110,116]))]) h12) fun v13 h14 =>
 bindV (still (aBuild Pg 225 [(0,(V.str [99,108,111,115,101]))]) h14) fun v15 h16 =>
 bindV (aBuildSlice Pg h16 222 8 [(0,v1),(1,v3),(2,v5),(3,v7),(4,v9),(5,v11),(6,v13),(7,v15)]) fun v17 h18 =>
 Q (.ret v17) h18):ACalls Pg 114 [] h Q :=
 acalls_of_vc okP Tryz.func114 (show Tryz.f114.body=some B114 from by kernel_rfl) K114 (by rw [← S114 Q h] at c;exact c)
noncomputable def B115:Code:=(Tryz.f115.body).getD .skip
def R115:List ResultVar:=[.tmp 2]
abbrev N115:Nat:=5
def K115:KT:=(.seq .leaf (.seq .leaf .leaf [2]) [0])
theorem S115 (Q:AEnd→AH→Prop) (a0:V) (h:AH):vc Pg N115 B115 K115 (vcRet Pg R115 Q) (initEnv 0 [a0]) h=(
 ACalls Pg 198 [a0,(V.str [32])] h (aEnd (fun v1 h2 =>
 Q (.ret v1) h2) fun v h=>Q (.panic v) h)):=by kernel_rfl
theorem C115 (Q:AEnd→AH→Prop) (a0:V) (h:AH) (c :
 ACalls Pg 198 [a0,(V.str [32])] h (aEnd (fun v1 h2 =>
 Q (.ret v1) h2) fun v h=>Q (.panic v) h)):ACalls Pg 115 [a0] h Q :=
 acalls_of_vc okP Tryz.func115 (show Tryz.f115.body=some B115 from by kernel_rfl) K115 (by rw [← S115 Q a0 h] at c;exact c)
noncomputable def B117:Code:=(Tryz.f117.body).getD .skip
def R117:List ResultVar:=[.tmp 2]
abbrev N117:Nat:=17
def K117:KT:=(.seq .leaf (.join (.seq .leaf (.two (.seq .leaf .leaf [2]) .leaf) [0,4]) (.seq .leaf .leaf [2]) [0]) [0])
def Jz1o (Q:AEnd→AH→Prop) (x0:V) (h:AH):Prop:=vcAt Pg N117 B117 K117 [1,1] [] (vcRet Pg R117 Q) [(0,x0)] h
theorem Jz1o_eq (Q:AEnd→AH→Prop) (x0:V) (h:AH):Jz1o Q x0 h=(
 bindV (still (aBin Pg .quo 49 x0 (V.int .u64 10) true) h) fun v11 h12 =>
 ACalls Pg 117 [v11] h12 (aEnd (fun v13 h14 =>
 bindV (still (aBin Pg .rem 49 x0 (V.int .u64 10) true) h14) fun v15 h16 =>
 ACalls Pg 117 [v15] h16 (aEnd (fun v17 h18 =>
 bindV (still (aBin Pg .add 9 v13 v17 false) h18) fun v19 h20 =>
 Q (.ret v19) h20) fun v h=>Q (.panic v) h)) fun v h=>Q (.panic v) h)):=by kernel_rfl
theorem S117 (Q:AEnd→AH→Prop) (a0:V) (h:AH):vc Pg N117 B117 K117 (vcRet Pg R117 Q) (initEnv 0 [a0]) h=(
 bindV (still (aBin Pg .lss 49 a0 (V.int .u64 10) true) h) fun v1 h2 =>
 vcIf v1 (
 bindV (still (aConv Pg h2 49 5 a0) h2) fun v3 h4 =>
 bindV (still (aBin Pg .add 5 (V.int .u8 48) v3 true) h4) fun v5 h6 =>
 bindV (aBuildSlice Pg h6 207 1 [(0,v5)]) fun v7 h8 =>
 bindV (still (aConv Pg h8 207 9 v7) h8) fun v9 h10 =>
 Q (.ret v9) h10) (
 Meet (Jz1o Q a0 h2))):=by kernel_rfl
theorem C117 (Q:AEnd→AH→Prop) (a0:V) (h:AH) (c :
 bindV (still (aBin Pg .lss 49 a0 (V.int .u64 10) true) h) fun v1 h2 =>
 vcIf v1 (
 bindV (still (aConv Pg h2 49 5 a0) h2) fun v3 h4 =>
 bindV (still (aBin Pg .add 5 (V.int .u8 48) v3 true) h4) fun v5 h6 =>
 bindV (aBuildSlice Pg h6 207 1 [(0,v5)]) fun v7 h8 =>
 bindV (still (aConv Pg h8 207 9 v7) h8) fun v9 h10 =>
 Q (.ret v9) h10) (
 Meet (Jz1o Q a0 h2))):ACalls Pg 117 [a0] h Q :=
 acalls_of_vc okP Tryz.func117 (show Tryz.f117.body=some B117 from by kernel_rfl) K117 (by rw [← S117 Q a0 h] at c;exact c)
noncomputable def B118:Code:=(Tryz.f118.body).getD .skip
def R118:List ResultVar:=[.tmp 2]
abbrev N118:Nat:=28
def K118:KT:=(.seq .leaf (.join (.seq .leaf (.two (.seq .leaf .leaf [2]) .leaf) [0,6]) (.seq .leaf (.join (.seq .leaf (.one (.loop (.seq .leaf (.join (.two .leaf .leaf) (.join (.one (.seq .leaf (.eff [11,12]) [0,3,4,8,9])) .leaf [0,3,8,9]) [0,3,8,9]) [0,3,8,9,10]) [0,3,8,9])) [0,3,8,9]) (.seq .leaf .leaf [2]) [3]) [0,3]) [0]) [0])
def Jz1r (Q:AEnd→AH→Prop) (n:Nat) (x0 x3 x8 x9:V) (h:AH):Prop:=vcAt Pg N118 B118 K118 [1,1,1,0,1,0,0,1,1,1] [n] (vcRet Pg R118 Q) [(0,x0),(3,x3),(8,x8),(9,x9)] h
def Jz1q (Q:AEnd→AH→Prop) (n:Nat) (x0 x3 x8 x9:V) (h:AH):Prop:=vcAt Pg N118 B118 K118 [1,1,1,0,1,0,0,1,1] [n] (vcRet Pg R118 Q) [(0,x0),(3,x3),(8,x8),(9,x9)] h
def Jz1s (Q:AEnd→AH→Prop) (x3:V) (h:AH):Prop:=vcAt Pg N118 B118 K118 [1,1,1,1] [] (vcRet Pg R118 Q) [(3,x3)] h
def Lz3t (Q:AEnd→AH→Prop) (n:Nat) (x0 x3 x8 x9:V) (h:AH):Prop:=loopAt Pg N118 B118 K118 [1,1,1,0,1,0] [] n (vcRet Pg R118 Q) [(0,x0),(3,x3),(8,x8),(9,x9)] h
def Jz1p (Q:AEnd→AH→Prop) (x0:V) (h:AH):Prop:=vcAt Pg N118 B118 K118 [1,1] [] (vcRet Pg R118 Q) [(0,x0)] h
theorem Jz1r_eq (Q:AEnd→AH→Prop) (n:Nat) (x0 x3 x8 x9:V) (h:AH):Jz1r Q n x0 x3 x8 x9 h=(
 bindV (still (aBin Pg .add 3 x9 (V.int .i64 1) true) h) fun v17 h18 =>
 Meet (Lz3t Q n x0 x3 x8 v17 h18)):=by kernel_rfl
theorem Jz1q_eq (Q:AEnd→AH→Prop) (n:Nat) (x0 x3 x8 x9:V) (h:AH):Jz1q Q n x0 x3 x8 x9 h=(
 bindO (fstV (still (aIndex Pg 9 x0 x9) h)) fun v7 =>
 bindO (fstV (still (aBin Pg .shr 5 v7 (V.int .u64 4) true) h)) fun v8 =>
 bindO (fstV (still (aIndex Pg 9 (V.str [48,49,50,51,52,53,54,55,56,57,97,98,99,100,101,102]) v8) h)) fun v9 =>
 bindO (fstV (still (aIndex Pg 9 x0 x9) h)) fun v10 =>
 bindO (fstV (still (aBin Pg .and 5 v10 (V.int .u8 15) true) h)) fun v11 =>
 bindO (fstV (still (aIndex Pg 9 (V.str [48,49,50,51,52,53,54,55,56,57,97,98,99,100,101,102]) v11) h)) fun v12 =>
 bindV (aBuildSlice Pg h 207 2 [(0,v9),(1,v12)]) fun v13 h14=>(
 bindV (aBuiltin Pg h14 .append [207,207] [x3,v13]) fun v15 h16=>(
 Meet (Jz1r Q n x0 v15 x8 x9 h16)))):=by kernel_rfl
theorem Jz1s_eq (Q:AEnd→AH→Prop) (x3:V) (h:AH):Jz1s Q x3 h=(
 bindV (still (aConv Pg h 207 9 x3) h) fun v19 h20 =>
 Q (.ret v19) h20):=by kernel_rfl
theorem Lz3t_eq (Q:AEnd→AH→Prop) (n:Nat) (x0 x3 x8 x9:V) (h:AH):Lz3t Q (n + 1) x0 x3 x8 x9 h=(
 bindV (still (aBin Pg .lss 3 x9 x8 false) h) fun v5 h6 =>
 vcIf v5 (
 Meet (Jz1q Q n x0 x3 x8 x9 h6)) (
 Meet (Jz1s Q x3 h6))):=by kernel_rfl
theorem Jz1p_eq (Q:AEnd→AH→Prop) (x0:V) (h:AH):Jz1p Q x0 h=(
 bindV (aBuiltin Pg h .len [9] [x0]) fun v3 h4 =>
 ∃ n,Meet (Lz3t Q n x0 (V.slc none 0) v3 (V.int .i64 0) h4)):=by kernel_rfl
theorem S118 (Q:AEnd→AH→Prop) (a0:V) (h:AH):vc Pg N118 B118 K118 (vcRet Pg R118 Q) (initEnv 0 [a0]) h=(
 bindV (still (aBin Pg .eql 9 a0 (V.str []) true) h) fun v1 h2 =>
 vcIf v1 (
 Q (.ret (V.str [45])) h2) (
 Meet (Jz1p Q a0 h2))):=by kernel_rfl
theorem C118 (Q:AEnd→AH→Prop) (a0:V) (h:AH) (c :
 bindV (still (aBin Pg .eql 9 a0 (V.str []) true) h) fun v1 h2 =>
 vcIf v1 (
 Q (.ret (V.str [45])) h2) (
 Meet (Jz1p Q a0 h2))):ACalls Pg 118 [a0] h Q :=
 acalls_of_vc okP Tryz.func118 (show Tryz.f118.body=some B118 from by kernel_rfl) K118 (by rw [← S118 Q a0 h] at c;exact c)
end Go.Proofs.YtcglbpjpbjaecaaGreat.Sh
namespace Go.Ab
open Go Go.RowKit
variable {P:Program}
theorem elemsR {h:AH} {e a s n:Nat} {own:Bool} {l:List V} (hm:h.m a=some (.cells own (.row e) (.agg l))) (hn:s + n≤l.length) :
   aElems P h e (.slc (some (⟨a,.row e,[]⟩,s)) n)=some ((l.drop s).take n):=by
 have hr:Go.Ab.rowAt P (.row e) []=some (0,e):=rfl
 simp only [aElems,hm,if_true,hr,getV]
 rw [if_pos ⟨trivial,hn⟩]
def apOk (P:Program) (t xt e:TypeId):Bool :=
 (match ul P t with
 | some (.slice e')=>e' == e
 | _=>false) && notInt P xt && (ul P e).isSome && decide (1≤P.bytesOf e) && (zeroV P e).isSome
theorem apOk_spec {t xt e:TypeId} (h:apOk P t xt e=true):ul P t=some (.slice e)∧(notInt P xt && (ul P e).isSome)=true∧1≤P.bytesOf e∧(zeroV P e).isSome=true:=by
 simp only [apOk,Bool.and_eq_true,decide_eq_true_eq] at h
 obtain ⟨⟨⟨⟨h1,h2⟩,h3⟩,h4⟩,h5⟩:=h
 split at h1
 · rename_i e' hu
   simp only [beq_iff_eq] at h1;subst h1
   exact ⟨hu,by rw [h2,h3];rfl,h4,h5⟩
 · cases h1
theorem appN {h:AH} {t xt e:TypeId} {x:V} {ws:List V} {n:Nat} (hc:apOk P t xt e=true) (he:aElems P h e x=some ws) (hw:ws≠[]) (hl:ws.length * P.bytesOf e≤140737488355328) :
   aBuiltin P h .append [t,xt] [.slc none n,x]=some (.slc (some (⟨h.next,.row e,[]⟩,0)) ws.length,h.make (.cells true (.row e) (.agg ws))):=by
 obtain ⟨h1,h2,h3,h4⟩:=apOk_spec hc
 simp only [aBuiltin,h1]
 rw [if_pos h2]
 unfold aAppend
 rw [he]
 cases ws with
 | nil=>exact absurd rfl hw
 | cons w ws =>
   simp only [aOwnRow,List.length_nil,Nat.zero_add]
   rw [if_pos ⟨h3,hl,h4⟩]
   rfl
theorem appR {h:AH} {t xt e:TypeId} {x:V} {ws l:List V} {a i n:Nat} (hc:apOk P t xt e=true) (he:aElems P h e x=some ws) (hw:ws≠[]) (hm:h.m a=some (.cells true (.row e) (.agg l))) (hn:i + n≤l.length)
   (hl:(n + ws.length) * P.bytesOf e≤140737488355328) :
   aBuiltin P h .append [t,xt] [.slc (some (⟨a,.row e,[]⟩,i)) n,x]=some (.slc (some (⟨h.next,.row e,[]⟩,0)) (n + ws.length),(h.kill a).make (.cells true (.row e) (.agg ((l.drop i).take n++ws)))):=by
 obtain ⟨h1,h2,h3,h4⟩:=apOk_spec hc
 simp only [aBuiltin,h1]
 rw [if_pos h2]
 unfold aAppend
 rw [he]
 cases ws with
 | nil=>exact absurd rfl hw
 | cons w ws =>
   have hlen:((l.drop i).take n).length=n:=by simp;omega
   simp only [aOwnRow,hm,true_and]
   rw [if_pos hn]
   simp only [hlen]
   rw [if_pos ⟨h3,hl,h4⟩]
   rfl
def bsOk (P:Program) (t e:TypeId) (len:Nat):Bool :=
 (match ul P t with
 | some (.slice e')=>e' == e
 | _=>false) && decide (P.cellsOf e≠0∧len * P.cellsOf e≤16777216)
theorem bs_mk {h:AH} {t e:TypeId} {len:Nat} {ps:List (Nat × V)} {l:List V} {z:V} (hc:bsOk P t e len=true) (hz:zeroV P e=some z) (hp:putParts P (fun _=>some e) (List.replicate len z) ps=some l) :
   aBuildSlice P h t len ps=some (.slc (some (⟨h.next,.row e,[]⟩,0)) len,h.make (.cells true (.row e) (.agg l))):=by
 simp only [bsOk,Bool.and_eq_true,decide_eq_true_eq] at hc
 obtain ⟨h1,h2⟩:=hc
 split at h1
 · rename_i e' hu
   simp only [beq_iff_eq] at h1;subst h1
   unfold aBuildSlice
   rw [hu]
   simp only [hz]
   rw [if_pos h2,hp]
 · cases h1
theorem kill_m (h:AH) (k n:Nat):(h.kill k).m n=if n=k then none else h.m n:=rfl
theorem kill_next (h:AH) (k:Nat):(h.kill k).next=h.next:=rfl
theorem nextM_mk {h:AH} {nn:Nat} {ty:BTy} {m:Nat} {since last:Nat} {seen:List Nat} {K:V→AH→Prop} {kt et:TypeId} {es:List (V × V)} {st:List Nat} {clock:Nat}
   (hi:h.m nn=some (.mit (some m) since seen last)) (hm:h.m m=some (.mps kt et es st clock)) (h1:since=clock) (h2:last=clock)
   (k1:∀ (i:Nat) (k v:V) (b:Nat),es[i]?=some (k,v)→st[i]?=some b→b ∉ seen→K (.tup [.bool true,k,v]) (h.put nn (.mit (some m) clock (seen++[b]) clock)))
   (k2:(∀ b∈st,b∈seen)→K (.tup [.bool false]) (h.put m (.mp kt et es))):vcNextM (.ptr (some ⟨nn,ty,[]⟩)) h K:=by
 simp only [vcNextM,hi,hm]
 exact ⟨trivial,h1,h2,k1,k2⟩
theorem entry_mk {h:AH} {nn:Nat} {ty:BTy} {m:Nat} {since last:Nat} {seen:List Nat} {K:V→AH→Prop} {kt et:TypeId} {es:List (V × V)} {st:List Nat} {clock:Nat}
   (hi:h.m nn=some (.mit (some m) since seen last)) (hm:h.m m=some (.mps kt et es st clock)) (h2:last=clock) {i b:Nat} {k v:V} (hs:seen.getLast?=some b) (hb:st[i]?=some b) (he:es[i]?=some (k,v))
   (q:K (.tup [k,v]) h):vcEntry (.ptr (some ⟨nn,ty,[]⟩)) h K:=by
 simp only [vcEntry,hi,hm]
 exact ⟨trivial,h2,i,b,k,v,hs,hb,he,q⟩
end Go.Ab
namespace Go.Ab
open Go Go.RowKit
variable {P:Program}
structure Upd (h h':AH) (n:Nat) (o:AO):Prop where
 next:h'.next=h.next
 at_:h'.m n=some o
 other:∀ k,k≠n→h'.m k=h.m k
structure New (h h':AH) (o:AO):Prop where
 next:h'.next=h.next + 1
 at_:h'.m h.next=some o
 other:∀ k,k < h.next→h'.m k=h.m k
structure Rep (h h':AH) (n:Nat) (o:AO):Prop where
 next:h'.next=h.next + 1
 at_:h'.m h.next=some o
 gone:h'.m n=none
 other:∀ k,k < h.next→k≠n→h'.m k=h.m k
theorem upd_put (h:AH) (n:Nat) (o:AO):Upd h (h.put n o) n o:=⟨rfl,by rw [put_m,if_pos rfl],fun k hk=>by rw [put_m,if_neg hk]⟩
theorem new_make (h:AH) (o:AO):New h (h.make o) o:=⟨rfl,by rw [make_m,if_pos rfl],fun k hk=>by rw [make_m,if_neg (by omega)]⟩
theorem rep_make (h:AH) (n:Nat) (o:AO) (hn:n < h.next):Rep h ((h.kill n).make o) n o :=
 ⟨rfl,by rw [make_m,if_pos (by rw [kill_next])],by rw [make_m,if_neg (by rw [kill_next];omega),kill_m,if_pos rfl],fun k hk hne=>by rw [make_m,if_neg (by rw [kill_next];omega),kill_m,if_neg hne]⟩
theorem new_at {h:AH} {t:TypeId} {v:V} (hs:hasShape P v t=true):∃ h',aNew P h t v=some (.ptr (some ⟨h.next,.one t,[]⟩),h')∧New h h' (.cells true (.one t) v) :=
 ⟨_,new_mk hs,new_make _ _⟩
theorem al_at {h:AH} {t:TypeId} {z:V} (hz:zeroV P t=some z) (hs:hasShape P z t=true):∃ h',aAlloc P h t=some (.ptr (some ⟨h.next,.one t,[]⟩),h')∧New h h' (.cells true (.one t) z) :=
 ⟨_,al_mk hz hs,new_make _ _⟩
theorem st_at {h:AH} {n:Nat} {ty:BTy} {p:List Nat} {v v' w x:V} {t:TypeId} (hm:h.m n=some (.cells true ty v)) (hc:ldOk P ty p t=true) (hg:getV v p=some w) (hs:hasShape P x t=true) (hv:setV v p x=some v') :
   ∃ h',aStoreV P h t (.ptr (some ⟨n,ty,p⟩)) x=some (hole,h')∧Upd h h' n (.cells true ty v'):=⟨_,st_mk hm hc hg hs hv,upd_put _ _ _⟩
theorem bs_at {h:AH} {t e:TypeId} {len:Nat} {ps:List (Nat × V)} {l:List V} {z:V} (hc:bsOk P t e len=true) (hz:zeroV P e=some z) (hp:putParts P (fun _=>some e) (List.replicate len z) ps=some l) :
   ∃ h',aBuildSlice P h t len ps=some (.slc (some (⟨h.next,.row e,[]⟩,0)) len,h')∧New h h' (.cells true (.row e) (.agg l)):=⟨_,bs_mk hc hz hp,new_make _ _⟩
theorem apN_at {h:AH} {t xt e:TypeId} {x:V} {ws:List V} {n:Nat} (hc:apOk P t xt e=true) (he:aElems P h e x=some ws) (hw:ws≠[]) (hl:ws.length * P.bytesOf e≤140737488355328) :
   ∃ h',aBuiltin P h .append [t,xt] [.slc none n,x]=some (.slc (some (⟨h.next,.row e,[]⟩,0)) ws.length,h')∧New h h' (.cells true (.row e) (.agg ws)):=⟨_,appN hc he hw hl,new_make _ _⟩
theorem apR_at {h:AH} {t xt e:TypeId} {x:V} {ws l:List V} {a i n:Nat} (hc:apOk P t xt e=true) (ha:a < h.next) (hm:h.m a=some (.cells true (.row e) (.agg l))) (hn:i + n≤l.length) (he:aElems P h e x=some ws) (hw:ws≠[])
   (hl:(n + ws.length) * P.bytesOf e≤140737488355328) :
   ∃ h',aBuiltin P h .append [t,xt] [.slc (some (⟨a,.row e,[]⟩,i)) n,x]=some (.slc (some (⟨h.next,.row e,[]⟩,0)) (n + ws.length),h')∧Rep h h' a (.cells true (.row e) (.agg ((l.drop i).take n++ws))):=⟨_,appR hc he hw hm hn hl,rep_make _ _ _ ha⟩
theorem tbytes (l:List UInt8):toBytes (bytesV l)=some l:=by
 induction l with
 | nil=>rfl
 | cons b l ih =>
   have e:bytesV (b :: l)=.int .u8 b.toNat :: bytesV l:=rfl
   rw [e]
   simp only [toBytes,ih]
   simp
theorem cvBS {t d e:TypeId} {h:AH} {x:V} {l:List UInt8} (ht:bsT P t d e=true) (he:aElems P h e x=some (bytesV l)) (hx:(∃ n,x=.slc none n)∨∃ a n,x=.slc (some a) n):aConv P h t d x=some (.str l):=by
 unfold bsT at ht
 simp only [Bool.and_eq_true] at ht
 obtain ⟨⟨h1,h2⟩,h3⟩:=ht
 have hu:ul P t=some (.slice e):=by
   split at h1
   · rename_i e' hu;simp only [beq_iff_eq] at h1;subst h1;exact hu
   · cases h1
 have hd:ul P d=some .string:=by
   split at h2
   · assumption
   · cases h2
 have he':ul P e=some (.int .u8):=by
   split at h3
   · assumption
   · cases h3
 rcases hx with ⟨n,rfl⟩ | ⟨a,n,rfl⟩ <;> simp [aConv,aBytesStr,hu,hd,he',he,tbytes]
section
variable {t:TypeId} {k k':IntKind} {a b:Int} {c:Bool}
theorem w_add (h:k.wrap (a + b)=a + b):aBin P .add t (.int k a) (.int k b) c=some (.int k (a + b)):=by rw [b_add,h]
theorem w_sub (h:k.wrap (a - b)=a - b):aBin P .sub t (.int k a) (.int k b) c=some (.int k (a - b)):=by rw [b_sub,h]
theorem w_mul (h:k.wrap (a * b)=a * b):aBin P .mul t (.int k a) (.int k b) c=some (.int k (a * b)):=by rw [b_mul,h]
theorem w_quo (hb:0 < b) (ha:0≤a) (h:k.wrap (a / b)=a / b):aBin P .quo t (.int k a) (.int k b) c=some (.int k (a / b)):=by rw [b_quo (by omega),Int.tdiv_eq_ediv_of_nonneg ha,h]
theorem w_rem (hb:0 < b) (ha:0≤a):aBin P .rem t (.int k a) (.int k b) c=some (.int k (a % b)):=by rw [b_rem (by omega),Int.tmod_eq_emod_of_nonneg ha]
end
theorem wr_u8 {x:Int} (h1:0≤x) (h2:x < 256):IntKind.u8.wrap x=x:=Int.emod_eq_of_lt h1 h2
theorem wr_u16 {x:Int} (h1:0≤x) (h2:x < 65536):IntKind.u16.wrap x=x:=Int.emod_eq_of_lt h1 h2
theorem wr_u32 {x:Int} (h1:0≤x) (h2:x < 4294967296):IntKind.u32.wrap x=x:=Int.emod_eq_of_lt h1 h2
theorem wr_u64 {x:Int} (h1:0≤x) (h2:x < 18446744073709551616):IntKind.u64.wrap x=x:=Int.emod_eq_of_lt h1 h2
theorem cv_wr {h:AH} {s d:TypeId} {k0 k:IntKind} {n:Int} (hc:cvOk P s d k=true) (hw:k.wrap n=n):aConv P h s d (.int k0 n)=some (.int k n):=by rw [cv_int k hc,hw]
theorem len_slc {h:AH} {t:TypeId} {a:Option (PA × Nat)} {n:Nat} (hc:(match ul P t with | some (.slice _)=>true | _=>false)=true):aBuiltin P h .len [t] [.slc a n]=some (.int .i64 n,h):=by
 split at hc
 · rename_i e hu
   simp only [aBuiltin,hu,aLen,still_mk]
 · cases hc
theorem ixS {t:TypeId} {k:IntKind} {s:List UInt8} {i:Int} {b:UInt8} (hc:(match ul P t with | some .string=>true | _=>false)=true) (hi:0≤i) (hb:s[i.toNat]?=some b):aIndex P t (.str s) (.int k i)=some (.int .u8 b.toNat):=by
 split at hc
 · rename_i hu
   simp only [aIndex,hu,hi,if_true,hb]
 · cases hc
theorem sl_str {h:AH} {t:TypeId} {s:List UInt8} {lo hi:Option V} {l k:Nat} (hc:(match ul P t with | some .string=>true | _=>false)=true) (hl:bnd lo 0=some l) (hk:bnd hi s.length=some k) (h1:l≤k) (h2:k≤s.length) :
   aSlice P h t (.str s) lo hi=some (.str ((s.drop l).take (k - l))):=by
 split at hc
 · rename_i hu
   simp only [aSlice,hu,hl,hk]
   rw [if_pos ⟨h1,h2⟩]
 · cases hc
theorem bnd_i {k:IntKind} {i:Int} {d:Nat} (h:0≤i):bnd (some (.int k i)) d=some i.toNat:=by simp only [bnd,if_pos h]
def isOk (P:Program) (t:TypeId) (e:Nat):Bool:=(match ul P t with | some (.slice e')=>e' == e | _=>false) && (ul P e).isSome
theorem ia_slc {t:TypeId} {m s len:Nat} {k:IntKind} {i:Int} (e:Nat) (hc:isOk P t e=true) (h0:0≤i) (h1:i < (len:Int)) :
   aIndexAddr P t (.slc (some (⟨m,.row e,[]⟩,s)) len) (.int k i)=some (.ptr (some ⟨m,.row e,[s + i.toNat]⟩)):=by
 simp only [isOk,Bool.and_eq_true] at hc
 obtain ⟨h2,h4⟩:=hc
 split at h2
 · rename_i e' hu
   simp only [beq_iff_eq] at h2;subst h2
   have hr:Go.Ab.rowAt P (.row e') []=some (0,e'):=rfl
   simp only [aIndexAddr,hu,hr]
   rw [if_pos (by simp [h4,h0,h1])]
   rfl
 · cases h2
theorem getV_row {l:List V} {i:Nat} {w:V} (h:l[i]?=some w):getV (.agg l) [i]=some w:=by simp only [getV,h]
theorem callS {f:FuncId} {args:List V} {h:AH} {v:V} {K X:V→AH→Prop} (c:ACalls P f args h (pureE v h)) (k:K v h):ACalls P f args h (aEnd K X):=call_mk c k
theorem callH {f:FuncId} {args:List V} {h h1:AH} {v:V} {K X:V→AH→Prop} (c:ACalls P f args h fun e h'=>e=.ret v∧h'=h1) (k:K v h1):ACalls P f args h (aEnd K X) :=
 c.mono fun e h' q=>by obtain ⟨rfl,rfl⟩:=q;exact k
theorem callQ {f:FuncId} {args:List V} {h:AH} {v:V} {R:AH→Prop} {K X:V→AH→Prop} (c:ACalls P f args h fun e h'=>e=.ret v∧R h') (k:∀ h',R h'→K v h'):ACalls P f args h (aEnd K X) :=
 c.mono fun e h' q=>by obtain ⟨rfl,q⟩:=q;exact k h' q
theorem bindE {r:Option (V × AH)} {v:V} {K:V→AH→Prop} {R:AH→Prop} (e:∃ h',r=some (v,h')∧R h') (k:∀ h',R h'→K v h'):bindV r K:=by
 obtain ⟨h',rfl,hr⟩:=e;exact k h' hr
theorem bs1_at {h:AH} {t e:TypeId} {a z:V} (hc:bsOk P t e 1=true) (hz:zeroV P e=some z) (h1:hasShape P a e=true) :
   ∃ h',aBuildSlice P h t 1 [(0,a)]=some (.slc (some (⟨h.next,.row e,[]⟩,0)) 1,h')∧New h h' (.cells true (.row e) (.agg [a])) :=
 bs_at hc hz (by simp [putParts,List.replicate,h1])
theorem bs2_at {h:AH} {t e:TypeId} {a b z:V} (hc:bsOk P t e 2=true) (hz:zeroV P e=some z) (h1:hasShape P a e=true) (h2:hasShape P b e=true) :
   ∃ h',aBuildSlice P h t 2 [(0,a),(1,b)]=some (.slc (some (⟨h.next,.row e,[]⟩,0)) 2,h')∧New h h' (.cells true (.row e) (.agg [a,b])) :=
 bs_at hc hz (by simp [putParts,List.replicate,h1,h2])
theorem bs3_at {h:AH} {t e:TypeId} {a b c z:V} (hc:bsOk P t e 3=true) (hz:zeroV P e=some z) (h1:hasShape P a e=true) (h2:hasShape P b e=true) (h3:hasShape P c e=true) :
   ∃ h',aBuildSlice P h t 3 [(0,a),(1,b),(2,c)]=some (.slc (some (⟨h.next,.row e,[]⟩,0)) 3,h')∧New h h' (.cells true (.row e) (.agg [a,b,c])) :=
 bs_at hc hz (by simp [putParts,List.replicate,h1,h2,h3])
def BufB (e:TypeId) (h:AH) (x:V) (l:List UInt8):Prop :=
 (x=.slc none 0∧l=[])∨∃ n,n < h.next∧x=.slc (some (⟨n,.row e,[]⟩,0)) l.length∧h.m n=some (.cells true (.row e) (.agg (bytesV l)))
theorem bytesV_len (l:List UInt8):(bytesV l).length=l.length:=by simp [bytesV]
theorem bytesV_app (a b:List UInt8):bytesV (a++b)=bytesV a++bytesV b:=by simp [bytesV]
theorem BufB.elems {e:TypeId} {h:AH} {x:V} {l:List UInt8} (b:BufB e h x l):aElems P h e x=some (bytesV l):=by
 rcases b with ⟨rfl,rfl⟩ | ⟨n,h1,rfl,h3⟩
 · rfl
 · rw [← bytesV_len l];exact elems_row h3
theorem BufB.shape {e:TypeId} {h:AH} {x:V} {l:List UInt8} (b:BufB e h x l):(∃ n,x=.slc none n)∨∃ a n,x=.slc (some a) n:=by
 rcases b with ⟨rfl,rfl⟩ | ⟨n,h1,rfl,h3⟩
 · exact .inl ⟨_,rfl⟩
 · exact .inr ⟨_,_,rfl⟩
theorem BufB.keep {e:TypeId} {h h':AH} {x:V} {l:List UInt8} (b:BufB e h x l) (hn:h.next≤h'.next) (hk:∀ k,k < h.next→h'.m k=h.m k):BufB e h' x l:=by
 rcases b with ⟨rfl,rfl⟩ | ⟨n,h1,rfl,h3⟩
 · exact .inl ⟨rfl,rfl⟩
 · exact .inr ⟨n,by omega,rfl,(hk n h1).trans h3⟩
theorem BufB.app {t xt e:TypeId} {h:AH} {x y:V} {l w:List UInt8} (b:BufB e h x l) (hc:apOk P t xt e=true) (hb:P.bytesOf e=1) (hy:aElems P h e y=some (bytesV w)) (hw:w≠[]) (hl:l.length + w.length≤140737488355328) :
   ∃ v h',aBuiltin P h .append [t,xt] [x,y]=some (v,h')∧BufB e h' v (l++w)∧h.next≤h'.next∧∀ k,k < h.next→(∀ len,x≠.slc (some (⟨k,.row e,[]⟩,0)) len)→h'.m k=h.m k:=by
 have hw':bytesV w≠[]:=by cases w <;> simp_all [bytesV]
 rcases b with ⟨rfl,rfl⟩ | ⟨n,h1,rfl,h3⟩
 · obtain ⟨h',e1,u⟩:=apN_at (n:=0) hc hy hw' (by rw [hb,bytesV_len];simp at hl;omega)
   refine ⟨_,h',e1,.inr ⟨h.next,by rw [u.next];omega,by rw [bytesV_len];rfl,by rw [u.at_];rfl⟩,by rw [u.next];omega,fun k hk _=>u.other k hk⟩
 · obtain ⟨h',e1,u⟩:=apR_at (i:=0) (n:=l.length) hc h1 h3 (by rw [bytesV_len];omega) hy hw' (by rw [hb,bytesV_len];omega)
   refine ⟨_,h',e1,.inr ⟨h.next,by rw [u.next];omega,by rw [bytesV_len,List.length_append],?_⟩,by rw [u.next];omega,fun k hk hne=>u.other k hk (fun e=>by subst e;exact hne _ rfl)⟩
   rw [u.at_,bytesV_app,List.drop_zero,List.take_of_length_le (by rw [bytesV_len];omega)]
theorem BufB.str {t d e:TypeId} {h:AH} {x:V} {l:List UInt8} (b:BufB e h x l) (ht:bsT P t d e=true):aConv P h t d x=some (.str l):=cvBS ht b.elems b.shape
theorem shr4 {t:TypeId} {k':IntKind} {x:Int} {c:Bool} (h0:0≤x) (h1:x < 256):aBin P .shr t (.int .u8 x) (.int k' 4) c=some (.int .u8 (x / 16)):=by
 rw [b_shr (by omega)]
 obtain ⟨n,rfl⟩:=Int.eq_ofNat_of_zero_le h0
 have:∀ y:Fin 256,shrI .u8 ((y.val:Nat):Int) 4=((y.val:Nat):Int) / 16:=by decide +kernel
 have:=this ⟨n,by omega⟩
 simp only at this
 rw [this]
theorem and15 {t:TypeId} {x:Int} {c:Bool} (h0:0≤x) (h1:x < 256):aBin P .and t (.int .u8 x) (.int .u8 15) c=some (.int .u8 (x % 16)):=by
 rw [b_and]
 obtain ⟨n,rfl⟩:=Int.eq_ofNat_of_zero_le h0
 have:∀ y:Fin 256,bitI .and .u8 ((y.val:Nat):Int) 15=((y.val:Nat):Int) % 16:=by decide +kernel
 have:=this ⟨n,by omega⟩
 simp only at this
 rw [this]
theorem ne_of_bne {α:Type} [BEq α] [LawfulBEq α] {a b:α} (h:(a != b)=true):a≠b:=bne_iff_ne.1 h
theorem eq_of_bne_false {α:Type} [BEq α] [LawfulBEq α] {a b:α} (h:(a != b)=false):a=b:=by simpa using h
theorem flat_bytes:∀ l:List UInt8,flatBs (bytesV l)=true
 | []=>rfl
 | b :: l=>by
   have e:bytesV (b :: l)=.int .u8 b.toNat :: bytesV l:=rfl
   rw [e];simp only [flatBs,flatB,flat_bytes l,Bool.and_self]
end Go.Ab
namespace Go.Proofs.YtcglbpjpbjaecaaGreat.Sh
open Go Go.Ab Go.RowKit
open Go.Proofs.YtcglbpjpbjaecaaGreat.Ru (Pg okP)
set_option maxRecDepth 10000
theorem z5:zeroV Pg 5=some (.int .u8 0):=by kernel_rfl
def dec (n:Nat):List UInt8:=if h:n < 10 then [UInt8.ofNat (48 + n)] else dec (n / 10)++[UInt8.ofNat (48 + n % 10)]
termination_by n
decreasing_by omega
theorem dec_lt {n:Nat} (h:n < 10):dec n=[UInt8.ofNat (48 + n)]:=by rw [dec,dif_pos h]
theorem dec_ge {n:Nat} (h:¬ n < 10):dec n=dec (n / 10)++[UInt8.ofNat (48 + n % 10)]:=by rw [dec,dif_neg h]
theorem dec_len:∀ (k n:Nat),n < 10 ^ (k + 1)→(dec n).length≤k + 1
 | 0,n,h=>by rw [dec_lt (by simpa using h)];simp
 | k + 1,n,h=>by
   by_cases hn:n < 10
   · rw [dec_lt hn];simp
   · rw [dec_ge hn]
     have:=dec_len k (n / 10) (by rw [Nat.pow_succ] at h;omega)
     simp;omega
theorem dec_len20 {n:Nat} (h:n < 18446744073709551616):(dec n).length≤20:=dec_len 19 n (by omega)
theorem byte1 {x:Int} (h0:0≤x) (h1:x < 256):some [V.int .u8 x]=some (bytesV [UInt8.ofNat x.toNat]):=by
 simp [bytesV];omega
theorem num0:∀ (k:Nat) (x:Int),0≤x→x < 18446744073709551616→x.toNat≤k→∀ h,ACalls Pg 117 [.int .u64 x] h (pureE (.str (dec x.toNat)) h):=by
 intro k
 induction k using Nat.strongRecOn with
 | _ k ih =>
   intro x h0 h1 hk h
   have IH:∀ y:Int,0≤y→y < 18446744073709551616→y.toNat < x.toNat∨(y < 10∧10≤x)→∀ h,ACalls Pg 117 [.int .u64 y] h (pureE (.str (dec y.toNat)) h):=fun y a b c h=>ih y.toNat (by omega) y a b (Nat.le_refl _) h
   refine pure_lift rfl rfl ?_ h
   refine C117 _ _ _ ?_
   refine bindS_mk (b_lss) ?_
   refine i_split (fun c1=>?_) (fun c1=>?_)
   · try rw [c1]
     replace c1:=of_decide_eq_true c1
     first | refine bindS_mk (cv_wr (d:=5) (k:=.u8) (by kernel_rfl) (by first | exact wrap_i64 (by omega) (by omega) | exact wr_u8 (by omega) (by omega) | exact wr_u16 (by omega) (by omega) | exact wr_u32 (by omega) (by omega) | exact wr_u64 (by omega) (by omega))) ?_ | refine bindS_mk (cv_int (d:=5) .u8 (by kernel_rfl)) ?_
     first | refine bindS_mk (w_add (by first | exact wrap_i64 (by omega) (by omega) | exact wr_u8 (by omega) (by omega) | exact wr_u16 (by omega) (by omega) | exact wr_u32 (by omega) (by omega) | exact wr_u64 (by omega) (by omega))) ?_ | refine bindS_mk (b_add) ?_
     refine bindE (bs1_at (e:=5) (by kernel_rfl) z5 (by kernel_rfl)) fun h2 u2=>?_
     have n2:=u2.next
     have f2_2:=u2.at_
     refine bindS_mk (cvBS (e:=5) (by kernel_rfl) ((elems_row f2_2).trans (byte1 (by omega) (by omega))) (.inr ⟨_,_,rfl⟩)) ?_
     show AEnd.ret _=AEnd.ret _
     rw [dec_lt (by omega)]
     congr 4;omega
   · try rw [c1]
     replace c1:=of_decide_eq_false c1
     refine Meet.of (cast_p (Jz1o_eq _ _ _) ?_)
     first | refine bindS_mk (w_quo (by omega) (by omega) (by first | exact wrap_i64 (by omega) (by omega) | exact wr_u8 (by omega) (by omega) | exact wr_u16 (by omega) (by omega) | exact wr_u32 (by omega) (by omega) | exact wr_u64 (by omega) (by omega))) ?_ | refine bindS_mk (b_quo (by decide)) ?_
     refine callS (IH _ (by omega) (by omega) (by omega) _) ?_
     first | refine bindS_mk (w_rem (by omega) (by omega)) ?_ | refine bindS_mk (b_rem (by decide)) ?_
     refine callS (IH _ (by omega) (by omega) (by omega) _) ?_
     refine bindS_mk (t_add (by have:=dec_len20 (n:=(x / 10).toNat) (by omega);have:=dec_len20 (n:=(x % 10).toNat) (by omega);omega)) ?_
     show AEnd.ret _=AEnd.ret _
     rw [dec_ge (n:=x.toNat) (by omega)]
     have e1:(x / 10).toNat=x.toNat / 10:=by omega
     have e2:(x % 10).toNat=x.toNat % 10:=by omega
     rw [e1,e2,dec_lt (n:=x.toNat % 10) (by omega)]
theorem numP (x:Int) (h0:0≤x) (h1:x < 18446744073709551616) (h:AH):ACalls Pg 117 [.int .u64 x] h (pureE (.str (dec x.toNat)) h):=num0 x.toNat x h0 h1 (Nat.le_refl _) h
end Go.Proofs.YtcglbpjpbjaecaaGreat.Sh
namespace Go.Proofs.YtcglbpjpbjaecaaGreat.Sh
open Go Go.Ab Go.RowKit
open Go.Proofs.YtcglbpjpbjaecaaGreat.Ru (Pg okP)
set_option maxRecDepth 10000
def hx (d:Nat):UInt8:=if d < 10 then UInt8.ofNat (48 + d) else UInt8.ofNat (87 + d)
def hx2 (b:UInt8):List UInt8:=[hx (b.toNat / 16),hx (b.toNat % 16)]
def hexL (s:List UInt8):List UInt8:=s.flatMap hx2
def hexS (s:List UInt8):List UInt8:=if s.isEmpty then [45] else hexL s
theorem hexL_len (s:List UInt8):(hexL s).length=2 * s.length:=by
 induction s with
 | nil=>rfl
 | cons b s ih=>rw [hexL,List.flatMap_cons,List.length_append];simp only [hexL] at ih;rw [ih];simp [hx2];omega
theorem hexL_snoc (s:List UInt8) (b:UInt8):hexL (s++[b])=hexL s++hx2 b:=by simp [hexL]
theorem take_snoc {s:List UInt8} {i:Nat} {b:UInt8} (h:s[i]?=some b):s.take (i + 1)=s.take i++[b]:=by
 rw [List.take_add_one,h];rfl
def lit16:List UInt8:=[48,49,50,51,52,53,54,55,56,57,97,98,99,100,101,102]
theorem lit16_at (d:Nat) (h:d < 16):lit16[d]?=some (hx d):=by
 have:∀ y:Fin 16,lit16[y.val]?=some (hx y.val):=by decide +kernel
 exact this ⟨d,h⟩
theorem b5:Pg.bytesOf 5=1:=by kernel_rfl
theorem ap207:apOk Pg 207 207 5=true:=by kernel_rfl
def names:List (List UInt8):=[[98,101,103,105,110],[114,101,97,100],[119,114,105,116,101],[99,111,109,109,105,116],[97,98,111,114,116],[118,97,99,117,117,109],[99,104,101,99,107,112,111,105,110,116],[99,108,111,115,101]]
def nameOf (k:Nat):List UInt8:=names.getD k [99,97,108,108]
theorem name_call {k:Nat} (h:8≤k):nameOf k=[99,97,108,108]:=by
 unfold nameOf
 rw [List.getD_eq_getElem?_getD,List.getElem?_eq_none (by show 8≤k;exact h)];rfl
theorem name_len (k:Nat):(nameOf k).length≤10:=by
 by_cases h:k < 8
 · have:∀ y:Fin 8,(nameOf y.val).length≤10:=by decide +kernel
   exact this ⟨k,h⟩
 · rw [name_call (by omega)];decide
theorem loop118 (q:AEnd→Prop) (s:List UInt8) (hs:s.length≤70000000000000) (c:q (.ret (.str (hexL s)))):∀ (k i:Nat) (x:V) (h:AH) (n:Nat),i≤s.length→s.length - i=k→k < n→BufB 5 h x (hexL (s.take i))→Lz3t (fun e _=>q e) n (.str s) x (.int .i64 s.length) (.int .i64 i) h:=by
 intro k
 induction k with
 | zero =>
   intro i x h n hi hk hn hB
   obtain ⟨n,rfl⟩:∃ m,n=m + 1:=⟨n - 1,by omega⟩
   rw [Lz3t_eq]
   refine bindS_mk (b_lss) ?_
   refine i_split (fun c1=>?_) (fun c1=>?_)
   · try rw [c1]
     replace c1:=of_decide_eq_true c1
     exfalso;omega
   · try rw [c1]
     replace c1:=of_decide_eq_false c1
     refine Meet.of (cast_p (Jz1s_eq _ _ _) ?_)
     refine bindS_mk ((by rw [List.take_of_length_le (by omega)] at hB;exact hB.str (d:=9) (by kernel_rfl))) ?_
     rw [List.take_of_length_le (by omega)] at hB
     exact c
 | succ k ih0 =>
   intro i x h n hi hk hn hB
   obtain ⟨n,rfl⟩:∃ m,n=m + 1:=⟨n - 1,by omega⟩
   have ih:∀ (i:Nat) (x:V) (h:AH) (n:Nat),i≤s.length→s.length - i=k→k < n→BufB 5 h x (hexL (s.take i))→q (.ret (.str (hexL s)))→Lz3t (fun e _=>q e) n (.str s) x (.int .i64 s.length) (.int .i64 i) h:=fun i x h n a b d e _=>ih0 i x h n a b d e
   rw [Lz3t_eq]
   refine bindS_mk (b_lss) ?_
   refine i_split (fun c1=>?_) (fun c1=>?_)
   · try rw [c1]
     replace c1:=of_decide_eq_true c1
     obtain ⟨b,hb0⟩:∃ b,s[i]?=some b:=⟨s[i]'(by omega),List.getElem?_eq_getElem (by omega)⟩
     have hb:s[((i:Nat):Int).toNat]?=some b:=hb0
     have hb256:=b.toNat_lt
     refine Meet.of (cast_p (Jz1q_eq _ _ _ _ _ _ _) ?_)
     refine bindSO_mk (ixS (by kernel_rfl) (by omega) (hb)) ?_
     refine bindSO_mk (shr4 (by have:=b.toNat_lt;omega) (by have:=b.toNat_lt;omega)) ?_
     refine bindSO_mk (ixS (by kernel_rfl) (by omega) ((congrArg (fun k=>lit16[k]?) (by omega)).trans (lit16_at (b.toNat / 16) (by have:=b.toNat_lt;omega)))) ?_
     refine bindSO_mk (ixS (by kernel_rfl) (by omega) (hb)) ?_
     refine bindSO_mk (and15 (by have:=b.toNat_lt;omega) (by have:=b.toNat_lt;omega)) ?_
     refine bindSO_mk (ixS (by kernel_rfl) (by omega) ((congrArg (fun k=>lit16[k]?) (by omega)).trans (lit16_at (b.toNat % 16) (by omega)))) ?_
     refine bindE (bs2_at (e:=5) (by kernel_rfl) z5 (by kernel_rfl) (by kernel_rfl)) fun h2 u2=>?_
     have n2:=u2.next
     have f2_2:=u2.at_
     obtain ⟨v,h3,e3,B,hn3,_⟩:=(hB.keep (by omega) (fun k hk=>u2.other k hk)).app (w:=hx2 b) ap207 b5 ((elems_row f2_2).trans (by rfl)) (by simp [hx2]) (by rw [hexL_len];simp [hx2];omega)
     refine bindV_mk (e3) ?_
     refine Meet.of (cast_p (Jz1r_eq _ _ _ _ _ _ _) ?_)
     first | refine bindS_mk (w_add (by first | exact wrap_i64 (by omega) (by omega) | exact wr_u8 (by omega) (by omega) | exact wr_u16 (by omega) (by omega) | exact wr_u32 (by omega) (by omega) | exact wr_u64 (by omega) (by omega))) ?_ | refine bindS_mk (b_add) ?_
     refine Meet.of ((congrArg (fun x:Int=>Lz3t (fun e _=>q e) n (.str s) v (.int .i64 s.length) (.int .i64 x) _) (show ((i:Nat):Int) + 1=((i + 1:Nat):Int) by omega)).mpr (ih (i + 1) _ _ n (by omega) (by omega) (by omega) ?_ c))
     rw [take_snoc hb0,hexL_snoc];exact B
   · try rw [c1]
     replace c1:=of_decide_eq_false c1
     refine Meet.of (cast_p (Jz1s_eq _ _ _) ?_)
     refine bindS_mk ((by rw [List.take_of_length_le (by omega)] at hB;exact hB.str (d:=9) (by kernel_rfl))) ?_
     rw [List.take_of_length_le (by omega)] at hB
     exact c
theorem bytesP (s:List UInt8) (hs:s.length≤70000000000000) (h:AH):ACalls Pg 118 [.str s] h (pureE (.str (hexS s)) h):=by
 refine pure_lift rfl rfl ?_ h
 refine C118 _ _ _ ?_
 refine bindS_mk (t_eql) ?_
 refine i_split (fun c1=>?_) (fun c1=>?_)
 · try rw [c1]
   replace c1:=eq_of_beq c1
   subst c1;rfl
 · try rw [c1]
   replace c1:=ne_of_beq_false c1
   refine Meet.of (cast_p (Jz1p_eq _ _ _) ?_)
   refine bindV_mk (len_str (by kernel_rfl)) ?_
   exact ⟨s.length + 1,Meet.of (loop118 (fun e=>e=.ret (.str (hexS s))) s hs (by rw [hexS,if_neg (by simpa using c1)]) s.length 0 (.slc none 0) _ _ (by omega) (by omega) (by omega) (.inl ⟨rfl,rfl⟩))⟩
end Go.Proofs.YtcglbpjpbjaecaaGreat.Sh
namespace Go.Proofs.YtcglbpjpbjaecaaGreat.Sj
open Go Go.Ab Go.RowKit Go.Proofs
open Go.Proofs.YtcglbpjpbjaecaaGreat.Ru (Pg okP)
set_option maxRecDepth 100000
def joRen:Go.Shelf.Ren:=⟨fun | 156=>198 | 165=>254 | 166=>123 | 169=>125 | 240=>199 | 241=>293 | 276=>255 | 277=>303 | n=>n,fun | 31=>337 | 9=>9 | 3=>3 | 4=>4 | 0=>0 | 20=>20 | 72=>233 | 76=>238 | 70=>231 | 37=>207 | 75=>237 | 127=>346 | 164=>383 | 5=>5 | 80=>240 | n=>n,fun n=>n⟩
theorem joLay:Lays.n156 Tryz.prog joRen:={
 mixed:=by kernel_rfl,
 f156:=Tryz.func198.trans (congrArg some (by kernel_rfl)),
 f165:=Tryz.func254.trans (congrArg some (by kernel_rfl)),
 f166:=Tryz.func123.trans (congrArg some (by kernel_rfl)),
 f169:=Tryz.func125.trans (congrArg some (by kernel_rfl)),
 f240:=Tryz.func199.trans (congrArg some (by kernel_rfl)),
 f241:=Tryz.func293.trans (congrArg some (by kernel_rfl)),
 f276:=Tryz.func255.trans (congrArg some (by kernel_rfl)),
 f277:=Tryz.func303.trans (congrArg some (by kernel_rfl)),
 t0:=Tryz.underlying0,
 a0:=Tryz.isAgg0,
 z0:=Tryz.sizeOf0,
 v0:=Tryz.zeroValue0,
 t3:=Tryz.underlying3,
 a3:=Tryz.isAgg3,
 z3:=Tryz.sizeOf3,
 v3:=Tryz.zeroValue3,
 t4:=Tryz.underlying4,
 a4:=Tryz.isAgg4,
 z4:=Tryz.sizeOf4,
 v4:=Tryz.zeroValue4,
 t9:=Tryz.underlying9,
 a9:=Tryz.isAgg9,
 z9:=Tryz.sizeOf9,
 v9:=Tryz.zeroValue9,
 t20:=Tryz.underlying20,
 a20:=Tryz.isAgg20,
 z20:=Tryz.sizeOf20,
 v20:=Tryz.zeroValue20,
 t31:=Tryz.underlying337,
 a31:=Tryz.isAgg337,
 z31:=Tryz.sizeOf337,
 v31:=Tryz.zeroValue337,
 t37:=Tryz.underlying207,
 a37:=Tryz.isAgg207,
 z37:=Tryz.sizeOf207,
 v37:=Tryz.zeroValue207,
 t70:=Tryz.underlying231,
 a70:=Tryz.isAgg231,
 z70:=Tryz.sizeOf231,
 v70:=Tryz.zeroValue231,
 t72:=Tryz.underlying233,
 a72:=Tryz.isAgg233,
 z72:=Tryz.sizeOf233,
 v72:=Tryz.zeroValue233,
 t75:=Tryz.underlying237,
 a75:=Tryz.isAgg237,
 z75:=Tryz.sizeOf237,
 v75:=Tryz.zeroValue237,
 t76:=Tryz.underlying238,
 a76:=Tryz.isAgg238,
 z76:=Tryz.sizeOf238,
 v76:=Tryz.zeroValue238,
 t127:=Tryz.underlying346,
 a127:=Tryz.isAgg346,
 z127:=Tryz.sizeOf346,
 v127:=Tryz.zeroValue346,
 t164:=Tryz.underlying383,
 a164:=Tryz.isAgg383,
 z164:=Tryz.sizeOf383,
 v164:=Tryz.zeroValue383 }
theorem joX:Builder.Extra Tryz.prog joRen where
 sizeBuilder:=by kernel_rfl
 liesBuilder:=by kernel_rfl
 t5:=Tryz.underlying5
 a5:=Tryz.isAgg5
 z5:=Tryz.sizeOf5
 v5:=Tryz.zeroValue5
 infoByte:=by kernel_rfl
 cellsByte:=by kernel_rfl
 sizeByte:=by kernel_rfl
 neB5:=by decide
theorem relCs_strs {P:Program} {ι:Names}:∀ {ss:List (List UInt8)} {cs:List Value},relCs P ι (ss.map V.str) cs→cs=ss.map fun s=>Value.string ⟨s.toArray⟩
 | [],cs,h=>by simpa only [List.map_nil,relCs] using h
 | s :: ss,cs,h=>by
   simp only [List.map_cons,relCs,relC] at h
   obtain ⟨a,b,rfl,h2,rfl⟩:=h
   rw [relCs_strs h2];rfl
theorem joinP (n:Nat) (own:Bool) (ss:List (List UInt8)) (sep:List UInt8) (h:AH) (hm:h.m n=some (.cells own (.row 9) (.agg (ss.map V.str)))) (hl:ss.length≤1000) (hne:ss≠[])
   (hj:(Lib.join ss sep).length≤140737488355328):ACalls Pg 198 [.slc (some (⟨n,.row 9,[]⟩,0)) ss.length,.str sep] h (pureE (.str (Lib.join ss sep)) h):=by
 intro B ι W vs F r
 obtain ⟨v0,vs0,h0,r0,rfl⟩:=relL_cons_iff.1 r
 obtain ⟨v1,vs1,h1,r1,rfl⟩:=relL_cons_iff.1 r0
 simp only [relL] at r1
 subst r1
 obtain rfl:=rel_str h1
 obtain ⟨q,cap,rfl,hcap,hrow⟩:=rel_slc h0
 have hlen0:0 < ss.length:=List.length_pos_iff.2 hne
 obtain ⟨L,o,e,g1,g2,g3,g4,g5⟩:=hrow (by omega)
 obtain ⟨L',k1,k2,k3,a,b,c,elem,fr,k4,k5,k6,k7,k8⟩:=F.obj _ _ hm
 rw [g1] at k1;cases k1
 have hro:Go.Ab.rowAt Pg (.row 9) []=some (0,9):=rfl
 rw [hro] at g3;cases g3
 have hb:b=ss.map fun s=>Value.string ⟨s.toArray⟩:=relCs_strs k7
 have hcell:∀ (j:Nat) x,(ss.map fun s=>(⟨s.toArray⟩:ByteArray))[j]?=some x→W.cell? ⟨L.blk,L.off + j,none⟩=some (.string x):=by
   intro j x hx
   rw [← k5]
   refine cell_in k4 j _ ?_
   rw [hb,List.getElem?_map]
   rw [List.getElem?_map] at hx
   cases hs:ss[j]? with
   | none=>rw [hs] at hx;cases hx
   | some s=>rw [hs] at hx;simp at hx;subst hx;rfl
 have hmm:(ss.map fun s=>(⟨s.toArray⟩:ByteArray)).map (·.data.toList)=ss:=by
   rw [List.map_map]
   exact List.map_id'' (fun s=>rfl) ss
 have hq:q=⟨L.blk,L.off,none⟩:=by rw [g4];simp
 have key:=Any.strings_Join joLay joX L.blk L.off cap (ss.map fun s=>(⟨s.toArray⟩:ByteArray)) ⟨sep.toArray⟩ W hcell (getBlk_lt k4) (by simp;omega) (by simpa using hcap) (by rw [hmm];simpa using hj)
 rw [hmm] at key
 simp only [List.length_map] at key
 rw [hq]
 refine Calls.mono key ?_
 rintro e w' ⟨rfl,bel⟩
 have hold:∀ b,b < W.heap.size→w'.heap[b]?=W.heap[b]?:=fun b hb=>bel.block b hb
 refine ⟨ι,h,.ret _,Names.le_refl _,?_,.inr ⟨rfl,by simp only [relC,Value.cells]⟩,rfl,rfl⟩
 exact (F.grow (fun _=>False) hold (fun _ h=>h.elim) bel.os bel.tape bel.output bel.size).rebase (BaseLe.grow F _ hold bel.os bel.tape bel.output bel.size)
end Go.Proofs.YtcglbpjpbjaecaaGreat.Sj
namespace Go.Proofs.YtcglbpjpbjaecaaGreat.Sh
open Go Go.Ab Go.RowKit
open Go.Proofs.YtcglbpjpbjaecaaGreat.Ru (Pg okP)
set_option maxRecDepth 10000
def jn (ss:List (List UInt8)):List UInt8:=Go.Lib.join ss [32]
theorem jn2 (a b:List UInt8):jn [a,b]=a++32 :: b:=by simp [jn,Go.Lib.join,List.intercalate]
theorem jn3 (a b c:List UInt8):jn [a,b,c]=a++32 :: (b++32 :: c):=by simp [jn,Go.Lib.join,List.intercalate]
theorem wordsP (n:Nat) (own:Bool) (ss:List (List UInt8)) (h:AH) (hm:h.m n=some (.cells own (.row 9) (.agg (ss.map V.str)))) (hl:ss.length≤1000) (hne:ss≠[]) (hj:(jn ss).length≤140737488355328) :
   ACalls Pg 115 [.slc (some (⟨n,.row 9,[]⟩,0)) ss.length] h (pureE (.str (jn ss)) h) :=
 C115 _ _ _ (callS (Sj.joinP n own ss [32] h hm hl hne hj) ⟨rfl,rfl⟩)
def callV:List V:=[.agg [.str [98,101,103,105,110],.bool false,.bool false,.bool false,.bool false],
 .agg [.str [114,101,97,100],.bool true,.bool true,.bool false,.bool false],
 .agg [.str [119,114,105,116,101],.bool true,.bool true,.bool true,.bool true],
 .agg [.str [99,111,109,109,105,116],.bool true,.bool false,.bool false,.bool false],
 .agg [.str [97,98,111,114,116],.bool true,.bool false,.bool false,.bool false],
 .agg [.str [118,97,99,117,117,109],.bool false,.bool false,.bool false,.bool false],
 .agg [.str [99,104,101,99,107,112,111,105,110,116],.bool false,.bool false,.bool false,.bool false],
 .agg [.str [99,108,111,115,101],.bool false,.bool false,.bool false,.bool false]]
theorem callsP (h:AH):ACalls Pg 114 [] h fun e h'=>e=.ret (.slc (some (⟨h.next,.row 225,[]⟩,0)) 8)∧New h h' (.cells true (.row 225) (.agg callV)):=by
 refine C114 _ _ ?_
 refine bindS_mk (show aBuild Pg 225 [(0,.str [98,101,103,105,110])]=some (.agg [.str [98,101,103,105,110],.bool false,.bool false,.bool false,.bool false]) by kernel_rfl) ?_
 refine bindS_mk (show aBuild Pg 225 [(0,.str [114,101,97,100]),(1,.bool true),(2,.bool true)]=some (.agg [.str [114,101,97,100],.bool true,.bool true,.bool false,.bool false]) by kernel_rfl) ?_
 refine bindS_mk (show aBuild Pg 225 [(0,.str [119,114,105,116,101]),(1,.bool true),(2,.bool true),(3,.bool true),(4,.bool true)]=some (.agg [.str [119,114,105,116,101],.bool true,.bool true,.bool true,.bool true]) by kernel_rfl) ?_
 refine bindS_mk (show aBuild Pg 225 [(0,.str [99,111,109,109,105,116]),(1,.bool true)]=some (.agg [.str [99,111,109,109,105,116],.bool true,.bool false,.bool false,.bool false]) by kernel_rfl) ?_
 refine bindS_mk (show aBuild Pg 225 [(0,.str [97,98,111,114,116]),(1,.bool true)]=some (.agg [.str [97,98,111,114,116],.bool true,.bool false,.bool false,.bool false]) by kernel_rfl) ?_
 refine bindS_mk (show aBuild Pg 225 [(0,.str [118,97,99,117,117,109])]=some (.agg [.str [118,97,99,117,117,109],.bool false,.bool false,.bool false,.bool false]) by kernel_rfl) ?_
 refine bindS_mk (show aBuild Pg 225 [(0,.str [99,104,101,99,107,112,111,105,110,116])]=some (.agg [.str [99,104,101,99,107,112,111,105,110,116],.bool false,.bool false,.bool false,.bool false]) by kernel_rfl) ?_
 refine bindS_mk (show aBuild Pg 225 [(0,.str [99,108,111,115,101])]=some (.agg [.str [99,108,111,115,101],.bool false,.bool false,.bool false,.bool false]) by kernel_rfl) ?_
 refine bindE (bs_at (e:=225) (z:=.agg [.str [],.bool false,.bool false,.bool false,.bool false]) (l:=callV) (by kernel_rfl) (by kernel_rfl) (by kernel_rfl)) fun h1 u1=>?_
 exact ⟨rfl,u1⟩
structure Td where
 (who life frm to err:Int)
 (kind txn page off:Int)
 s:List UInt8
 opn:Bool
 (rtxn ts:Int)
 body:List UInt8
def vCall (kind txn page off:Int) (s:List UInt8):V:=.agg [.int .u8 kind,.int .u64 txn,.int .u16 page,.int .i64 off,.str s]
def Td.v (t:Td):V:=.agg [.int .i64 t.who,vCall t.kind t.txn t.page t.off t.s,.int .i64 t.life,.int .i64 t.frm,.int .i64 t.to,.bool t.opn,.agg [.int .i64 t.err,.int .u64 t.rtxn,.int .u32 t.ts,.agg (bytesV t.body)]]
structure Td.ok (t:Td):Prop where
 kind:0≤t.kind∧t.kind < 256
 rtxn:0≤t.rtxn∧t.rtxn < 18446744073709551616
 ts:0≤t.ts∧t.ts < 4294967296
 body:t.body.length=64
theorem shapeB {l:List UInt8}:∀ {n:Nat},l.length=n→shapesAll Pg (bytesV l) 5=true:=by
 intro n _
 have:∀ l:List UInt8,shapesAll Pg (bytesV l) 5=true:=by
   intro l
   induction l with
   | nil=>rfl
   | cons b l ih =>
     have e:bytesV (b :: l)=.int .u8 b.toNat :: bytesV l:=rfl
     have e2:hasShape Pg (.int .u8 b.toNat) 5=true:=by kernel_rfl
     rw [e];simp only [shapesAll,e2,ih,Bool.and_self]
 exact this l
theorem s33 {l:List UInt8} (h:l.length=64):hasShape Pg (.agg (bytesV l)) 33=true:=by
 have hu:ul Pg 33=some (.array 64 5):=by kernel_rfl
 simp only [hasShape,hu,bytesV_len,h,shapeB h,Bool.and_self,beq_self_eq_true]
theorem Td.shape (t:Td) (h:t.body.length=64):hasShape Pg t.v 94=true:=by
 have h1:=s33 h
 have e:hasShape Pg t.v 94=((hasShape Pg (.agg (bytesV t.body)) 33 && true) && true):=by kernel_rfl
 rw [e,h1];rfl
theorem Td.flat (t:Td):flatBs [t.v]=true:=by
 have h1:=flat_bytes t.body
 simp only [flatBs,Td.v,vCall,flatB,h1,Bool.and_self]
def low (x:Int):List UInt8:=dec (x % 4294967296).toNat
def trimB (l:List UInt8):Nat→Nat
 | 0=>0
 | n + 1=>if l.getD n 0=0 then trimB l n else n + 1
def Td.head (t:Td):List UInt8:=jn [low t.life,low t.who,nameOf t.kind.toNat,low t.frm]
def Td.mid (t:Td):List UInt8:=jn [t.head,low t.to,low t.err,dec t.rtxn.toNat,dec t.ts.toNat]
def Td.line (t:Td):List UInt8 :=
 if t.opn then jn [t.head,[111,112,101,110]] else if trimB t.body 64=0 then t.mid else jn [t.mid,hexS (t.body.take (trimB t.body 64))]
theorem hexS_len (s:List UInt8):(hexS s).length≤2 * s.length + 1:=by
 unfold hexS
 split
 · simp
 · rw [hexL_len];omega
section
variable (t:Td) (ok:t.ok) {q:AEnd→Prop} (c:q (.ret (.str t.line)))
include ok c
end
end Go.Proofs.YtcglbpjpbjaecaaGreat.Sh
namespace Go.Proofs.YtcglbpjpbjaecaaGreat.Sh
open Go Go.Ab Go.RowKit
open Go.Proofs.YtcglbpjpbjaecaaGreat.Ru (Pg okP)
set_option maxRecDepth 10000
theorem z9:zeroV Pg 9=some (.str []):=by kernel_rfl
theorem z60:zeroV Pg 60=some (.agg [(.int .i64 0),(.int .u64 0),(.int .u32 0),(.agg (List.replicate 64 (.int .u8 0)))]):=by kernel_rfl
section
variable (t:Td) (ok:t.ok) {q:AEnd→Prop} (c:q (.ret (.str t.line)))
include ok c
end
end Go.Proofs.YtcglbpjpbjaecaaGreat.Sh
namespace Go.Proofs.YtcglbpjpbjaecaaGreat.Sh
open Go Go.Ab Go.RowKit
open Go.Proofs.YtcglbpjpbjaecaaGreat.Ru (Pg okP)
set_option maxRecDepth 10000
structure Ev where
 kind:Nat
 (a b:Int)
 (ck txn page:Nat)
 off:Int
 s:List UInt8
 keep:List Bool
structure Ev.ok (e:Ev):Prop where
 kind:e.kind < 256
 a:-9223372036854775808≤e.a∧e.a < 9223372036854775808
 b:-9223372036854775808≤e.b∧e.b < 9223372036854775808
 ck:e.ck < 256
 txn:e.txn < 18446744073709551616
 page:e.page < 65536
 off:-9223372036854775808≤e.off∧e.off < 9223372036854775808
 s:e.s.length≤140737488355328
 keep:e.keep.length≤140737488355328
def cV (e:Ev):V:=.agg [.int .u8 e.ck,.int .u64 e.txn,.int .u16 e.page,.int .i64 e.off,.str e.s]
def evV (e:Ev) (k:V):V:=.agg [.int .u8 e.kind,.int .i64 e.a,.int .i64 e.b,cV e,k]
def boolsV (l:List Bool):List V:=l.map .bool
def kindNames:List (List UInt8):=[[97,115,107],[115,116,101,112],[114,111,117,110,100],[102,117,115,101],[102,97,105,108],[99,114,97,115,104],[111,112,101,110]]
def kindName (k:Nat):List UInt8:=kindNames.getD k []
def fTxn (k:Nat):Bool:=decide (1≤k∧k≤4)
def fPage (k:Nat):Bool:=decide (k=1∨k=2)
def fOff (k:Nat):Bool:=decide (k=2)
def Ev.fine (e:Ev):Prop :=
 e.kind < 7∧0≤e.a∧e.a < 2147483648∧e.b=0 ∧
 (e.kind≠0→e.ck=0∧e.txn=0∧e.page=0∧e.off=0∧e.s.length=0)∧(e.kind≠5→e.keep.length=0) ∧
 (e.kind=0→e.a < 10∧e.ck < 8∧e.txn < 2147483648∧0≤e.off∧e.off < 2147483648∧e.s.length≤64 ∧
   (¬ (1≤e.ck∧e.ck≤4)→e.txn=0)∧(¬ (e.ck=1∨e.ck=2)→e.page=0)∧(e.ck≠2→e.off=0∧e.s.length=0)) ∧
 (e.kind=5→e.a=0∧e.keep.length≤2000)
instance (e:Ev):Decidable e.fine:=by unfold Ev.fine;infer_instance
def bitsT (l:List Bool):List UInt8:=l.map fun b=>if b then 49 else 48
def Ev.txt (e:Ev):List UInt8 :=
 if e.kind=0 then [97,115,107]++32 :: (dec e.a.toNat++32 :: (nameOf e.ck++((if fTxn e.ck then 32 :: dec e.txn else [])++((if fPage e.ck then 32 :: dec e.page else [])++(if fOff e.ck then 32 :: (dec e.off.toNat++32 :: hexS e.s) else [])))))
 else if e.kind=5 then [99,114,97,115,104,32]++(if e.keep.length=0 then [45] else bitsT e.keep)
 else kindName e.kind++32 :: dec e.a.toNat
def Ev.lineV (e:Ev):V:=.tup [.str (if e.fine then e.txt else []),.bool (decide e.fine)]
theorem line_yes {e:Ev} (h:e.fine) {t:List UInt8} (ht:t=e.txt):V.tup [.str t,.bool true]=e.lineV:=by rw [Ev.lineV,if_pos h,decide_eq_true h,ht]
theorem line_no {e:Ev} (h:¬ e.fine):V.tup [.str [],.bool false]=e.lineV:=by rw [Ev.lineV,if_neg h,decide_eq_false h]
theorem boolsV_len (l:List Bool):(boolsV l).length=l.length:=by simp [boolsV]
theorem s57 (e:Ev):hasShape Pg (cV e) 57=true:=by kernel_rfl
theorem s73 (e:Ev) (a:Option (PA × Nat)) (n:Nat):hasShape Pg (evV e (.slc a n)) 73=true:=by kernel_rfl
def cZ:V:=.agg [.int .u8 0,.int .u64 0,.int .u16 0,.int .i64 0,.str []]
theorem build57:aBuild Pg 57 []=some cZ:=by kernel_rfl
theorem ne57 (e:Ev) (c:Bool):aBin Pg .neq 57 (cV e) cZ c=some (.bool (!decide (e.ck=0∧e.txn=0∧e.page=0∧e.off=0∧e.s.length=0))):=by
 have h1:aBin Pg .neq 57 (cV e) cZ c=if eqOk Pg 57 (cV e) cZ c=true then (aEq Pg 57 (cV e) cZ).map (fun b=>.bool (!b)) else none:=rfl
 have h2:eqOk Pg 57 (cV e) cZ c=true:=by kernel_rfl
 have h3:plainT Pg 20 57=true:=by kernel_rfl
 rw [h1,h2,if_pos rfl]
 unfold aEq
 have hz:hasShape Pg cZ 57=true:=by kernel_rfl
 rw [h3,if_pos rfl,s57 e,hz]
 simp only [Bool.and_self,if_true]
 have:beqV (cV e) cZ=some (decide (e.ck=0∧e.txn=0∧e.page=0∧e.off=0∧e.s.length=0)):=by
   obtain ⟨kind,a,b,ck,txn,page,off,s,keep⟩:=e
   simp only [cV,cZ,beqV,beqVs,if_true]
   clear h1 h2 h3 hz
   have eb:∀ x:Int,(x == 0)=decide (x=0):=fun x=>by by_cases h:x=0 <;> simp [h]
   simp only [eb]
   by_cases k1:ck=0 <;> by_cases k2:txn=0 <;> by_cases k3:page=0 <;> by_cases k4:off=0 <;> cases s <;> simp [k1,k2,k3,k4]
 rw [this];rfl
end Go.Proofs.YtcglbpjpbjaecaaGreat.Sh
