import Derived.Test.YtcglbpjpbjaecaaGreatWoB
import Derived.Test.YtcglbpjpbjaecaaGreatWH
import Derived.Test.YtcglbpjpbjaecaaGreatWrF
import Derived.Test.YtcglbpjpbjaecaaGreatWrD
import Derived.Test.YtcglbpjpbjaecaaGreatWrE
import Derived.Test.YtcglbpjpbjaecaaGreatWrC
set_option linter.unusedVariables false
set_option linter.unusedSimpArgs false
namespace Go.Proofs.YtcglbpjpbjaecaaGreat.Ru
open Go Go.Ab Go.RowKit
set_option maxRecDepth 100000
theorem Worun14 : (exTabM Pg FT hdW (allMemo [Wom13]) pu 60).ex (V × HT) Wom14.f Wom14.args ⟨Wom14.H.next, Wom14.H.next, Wom14.H.tr⟩ pairK = some (Wom14.v, Wom14.H') := by kernel_rfl
theorem Womok14 (hh : HdOk Pg hd) : MemoOk Pg Wom14 := memo_of okP tabOk (hdW_ok hh) (allMemo_ok (l := [Wom13]) ⟨Womok13 hh, trivial⟩) (own_of Woown20) Worun14
end Go.Proofs.YtcglbpjpbjaecaaGreat.Ru
namespace Go.Proofs.YtcglbpjpbjaecaaGreat.Ru
open Go Go.Ab Go.RowKit
set_option maxRecDepth 100000
theorem Worun15 : (exTabM Pg FT hdW (allMemo [Wom14]) pu 60).ex (V × HT) Wom15.f Wom15.args ⟨Wom15.H.next, Wom15.H.next, Wom15.H.tr⟩ pairK = some (Wom15.v, Wom15.H') := by kernel_rfl
theorem Womok15 (hh : HdOk Pg hd) : MemoOk Pg Wom15 := memo_of okP tabOk (hdW_ok hh) (allMemo_ok (l := [Wom14]) ⟨Womok14 hh, trivial⟩) (own_of Woown21) Worun15
end Go.Proofs.YtcglbpjpbjaecaaGreat.Ru
namespace Go.Proofs.YtcglbpjpbjaecaaGreat.Ru
open Go Go.Ab Go.RowKit
set_option maxRecDepth 100000
theorem Worun16 : (exTabM Pg FT hdW (allMemo [Wom5, Wom7, Wom8, Wom12, Wom15]) pu 60).ex (V × HT) Wom16.f Wom16.args ⟨Wom16.H.next, Wom16.H.next, Wom16.H.tr⟩ pairK = some (Wom16.v, Wom16.H') := by kernel_rfl
theorem Womok16 (hh : HdOk Pg hd) : MemoOk Pg Wom16 := memo_of okP tabOk (hdW_ok hh) (allMemo_ok (l := [Wom5, Wom7, Wom8, Wom12, Wom15]) ⟨Womok5 hh, Womok7 hh, Womok8 hh, Womok12 hh, Womok15 hh, trivial⟩) (own_of Woown3) Worun16
end Go.Proofs.YtcglbpjpbjaecaaGreat.Ru
namespace Go.Proofs.YtcglbpjpbjaecaaGreat.Ru
open Go Go.Ab Go.RowKit
set_option maxRecDepth 100000
theorem Worun17 : (exTabM Pg FT hdW (allMemo [Wom16]) pu 60).ex (V × HT) Wom17.f Wom17.args ⟨Wom17.H.next, Wom17.H.next, Wom17.H.tr⟩ pairK = some (Wom17.v, Wom17.H') := by kernel_rfl
theorem Womok17 (hh : HdOk Pg hd) : MemoOk Pg Wom17 := memo_of okP tabOk (hdW_ok hh) (allMemo_ok (l := [Wom16]) ⟨Womok16 hh, trivial⟩) (own_of Woown3) Worun17
end Go.Proofs.YtcglbpjpbjaecaaGreat.Ru
namespace Go.Proofs.YtcglbpjpbjaecaaGreat.Ru
open Go Go.Ab Go.RowKit
set_option maxRecDepth 100000
theorem Worun18 : (exTabM Pg FT hdW (allMemo [Wom3, Wom17]) pu 60).ex (V × HT) Wom18.f Wom18.args ⟨Wom18.H.next, Wom18.H.next, Wom18.H.tr⟩ pairK = some (Wom18.v, Wom18.H') := by kernel_rfl
theorem Womok18 (hh : HdOk Pg hd) : MemoOk Pg Wom18 := memo_of okP tabOk (hdW_ok hh) (allMemo_ok (l := [Wom3, Wom17]) ⟨Womok3 hh, Womok17 hh, trivial⟩) (own_of Woown24) Worun18
end Go.Proofs.YtcglbpjpbjaecaaGreat.Ru
namespace Go.Proofs.YtcglbpjpbjaecaaGreat.Ru
open Go Go.Ab Go.RowKit
set_option maxRecDepth 100000
theorem Worun19 : (exTabM Pg FT hdW (allMemo []) pu 60).ex (V × HT) Wom19.f Wom19.args ⟨Wom19.H.next, Wom19.H.next, Wom19.H.tr⟩ pairK = some (Wom19.v, Wom19.H') := by kernel_rfl
theorem Womok19 (hh : HdOk Pg hd) : MemoOk Pg Wom19 := memo_of okP tabOk (hdW_ok hh) (allMemo_ok (l := []) trivial) (own_of Woown25) Worun19
end Go.Proofs.YtcglbpjpbjaecaaGreat.Ru
namespace Go.Proofs.YtcglbpjpbjaecaaGreat.Ru
open Go Go.Ab Go.RowKit
set_option maxRecDepth 100000
theorem Worun20 : (exTabM Pg FT hdW (allMemo []) pu 60).ex (V × HT) Wom20.f Wom20.args ⟨Wom20.H.next, Wom20.H.next, Wom20.H.tr⟩ pairK = some (Wom20.v, Wom20.H') := by kernel_rfl
theorem Womok20 (hh : HdOk Pg hd) : MemoOk Pg Wom20 := memo_of okP tabOk (hdW_ok hh) (allMemo_ok (l := []) trivial) (own_of Woown26) Worun20
end Go.Proofs.YtcglbpjpbjaecaaGreat.Ru
namespace Go.Proofs.YtcglbpjpbjaecaaGreat.Ru
open Go Go.Ab Go.RowKit
set_option maxRecDepth 100000
theorem Worun21 : (exTabM Pg FT hdW (allMemo [Wom18, Wom19, Wom20]) pu 60).ex (V × HT) Wom21.f Wom21.args ⟨Wom21.H.next, Wom21.H.next, Wom21.H.tr⟩ pairK = some (Wom21.v, Wom21.H') := by kernel_rfl
theorem Womok21 (hh : HdOk Pg hd) : MemoOk Pg Wom21 := memo_of okP tabOk (hdW_ok hh) (allMemo_ok (l := [Wom18, Wom19, Wom20]) ⟨Womok18 hh, Womok19 hh, Womok20 hh, trivial⟩) (own_of Woown24) Worun21
end Go.Proofs.YtcglbpjpbjaecaaGreat.Ru
