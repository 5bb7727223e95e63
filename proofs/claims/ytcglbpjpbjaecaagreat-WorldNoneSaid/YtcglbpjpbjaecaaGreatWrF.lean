import Derived.Test.YtcglbpjpbjaecaaGreatWoB
import Derived.Test.YtcglbpjpbjaecaaGreatWH
import Derived.Test.YtcglbpjpbjaecaaGreatWrE
set_option linter.unusedVariables false
set_option linter.unusedSimpArgs false
namespace Go.Proofs.YtcglbpjpbjaecaaGreat.Ru
open Go Go.Ab Go.RowKit
set_option maxRecDepth 100000
theorem Worun10 : (exTabM Pg FT hdW (allMemo []) pu 60).ex (V × HT) Wom10.f Wom10.args ⟨Wom10.H.next, Wom10.H.next, Wom10.H.tr⟩ pairK = some (Wom10.v, Wom10.H') := by kernel_rfl
theorem Womok10 (hh : HdOk Pg hd) : MemoOk Pg Wom10 := memo_of okP tabOk (hdW_ok hh) (allMemo_ok (l := []) trivial) (own_of Woown13) Worun10
end Go.Proofs.YtcglbpjpbjaecaaGreat.Ru
namespace Go.Proofs.YtcglbpjpbjaecaaGreat.Ru
open Go Go.Ab Go.RowKit
set_option maxRecDepth 100000
theorem Worun11 : (exTabM Pg FT hdW (allMemo []) pu 60).ex (V × HT) Wom11.f Wom11.args ⟨Wom11.H.next, Wom11.H.next, Wom11.H.tr⟩ pairK = some (Wom11.v, Wom11.H') := by kernel_rfl
theorem Womok11 (hh : HdOk Pg hd) : MemoOk Pg Wom11 := memo_of okP tabOk (hdW_ok hh) (allMemo_ok (l := []) trivial) (own_of Woown15) Worun11
end Go.Proofs.YtcglbpjpbjaecaaGreat.Ru
namespace Go.Proofs.YtcglbpjpbjaecaaGreat.Ru
open Go Go.Ab Go.RowKit
set_option maxRecDepth 100000
theorem Worun12 : (exTabM Pg FT hdW (allMemo [Wom9, Wom10, Wom11]) pu 60).ex (V × HT) Wom12.f Wom12.args ⟨Wom12.H.next, Wom12.H.next, Wom12.H.tr⟩ pairK = some (Wom12.v, Wom12.H') := by kernel_rfl
theorem Womok12 (hh : HdOk Pg hd) : MemoOk Pg Wom12 := memo_of okP tabOk (hdW_ok hh) (allMemo_ok (l := [Wom9, Wom10, Wom11]) ⟨Womok9 hh, Womok10 hh, Womok11 hh, trivial⟩) (own_of Woown12) Worun12
end Go.Proofs.YtcglbpjpbjaecaaGreat.Ru
namespace Go.Proofs.YtcglbpjpbjaecaaGreat.Ru
open Go Go.Ab Go.RowKit
set_option maxRecDepth 100000
theorem Worun13 : (exTabM Pg FT hdW (allMemo []) pu 60).ex (V × HT) Wom13.f Wom13.args ⟨Wom13.H.next, Wom13.H.next, Wom13.H.tr⟩ pairK = some (Wom13.v, Wom13.H') := by kernel_rfl
theorem Womok13 (hh : HdOk Pg hd) : MemoOk Pg Wom13 := memo_of okP tabOk (hdW_ok hh) (allMemo_ok (l := []) trivial) (own_of Woown18) Worun13
end Go.Proofs.YtcglbpjpbjaecaaGreat.Ru
