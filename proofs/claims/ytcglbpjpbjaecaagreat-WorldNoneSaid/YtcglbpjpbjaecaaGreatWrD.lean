import Derived.Test.YtcglbpjpbjaecaaGreatWoB
import Derived.Test.YtcglbpjpbjaecaaGreatWH
set_option linter.unusedVariables false
set_option linter.unusedSimpArgs false
namespace Go.Proofs.YtcglbpjpbjaecaaGreat.Ru
open Go Go.Ab Go.RowKit
set_option maxRecDepth 100000
theorem Worun4 : (exTabM Pg FT hdW (allMemo []) pu 60).ex (V × HT) Wom4.f Wom4.args ⟨Wom4.H.next, Wom4.H.next, Wom4.H.tr⟩ pairK = some (Wom4.v, Wom4.H') := by kernel_rfl
theorem Womok4 (hh : HdOk Pg hd) : MemoOk Pg Wom4 := memo_of okP tabOk (hdW_ok hh) (allMemo_ok (l := []) trivial) (own_of Woown3) Worun4
end Go.Proofs.YtcglbpjpbjaecaaGreat.Ru
namespace Go.Proofs.YtcglbpjpbjaecaaGreat.Ru
open Go Go.Ab Go.RowKit
set_option maxRecDepth 100000
theorem Worun5 : (exTabM Pg FT hdW (allMemo [Wom4]) pu 60).ex (V × HT) Wom5.f Wom5.args ⟨Wom5.H.next, Wom5.H.next, Wom5.H.tr⟩ pairK = some (Wom5.v, Wom5.H') := by kernel_rfl
theorem Womok5 (hh : HdOk Pg hd) : MemoOk Pg Wom5 := memo_of okP tabOk (hdW_ok hh) (allMemo_ok (l := [Wom4]) ⟨Womok4 hh, trivial⟩) (own_of Woown5) Worun5
end Go.Proofs.YtcglbpjpbjaecaaGreat.Ru
namespace Go.Proofs.YtcglbpjpbjaecaaGreat.Ru
open Go Go.Ab Go.RowKit
set_option maxRecDepth 100000
theorem Worun6 : (exTabM Pg FT hdW (allMemo []) pu 60).ex (V × HT) Wom6.f Wom6.args ⟨Wom6.H.next, Wom6.H.next, Wom6.H.tr⟩ pairK = some (Wom6.v, Wom6.H') := by kernel_rfl
theorem Womok6 (hh : HdOk Pg hd) : MemoOk Pg Wom6 := memo_of okP tabOk (hdW_ok hh) (allMemo_ok (l := []) trivial) (own_of Woown7) Worun6
end Go.Proofs.YtcglbpjpbjaecaaGreat.Ru
namespace Go.Proofs.YtcglbpjpbjaecaaGreat.Ru
open Go Go.Ab Go.RowKit
set_option maxRecDepth 100000
theorem Worun7 : (exTabM Pg FT hdW (allMemo [Wom6]) pu 60).ex (V × HT) Wom7.f Wom7.args ⟨Wom7.H.next, Wom7.H.next, Wom7.H.tr⟩ pairK = some (Wom7.v, Wom7.H') := by kernel_rfl
theorem Womok7 (hh : HdOk Pg hd) : MemoOk Pg Wom7 := memo_of okP tabOk (hdW_ok hh) (allMemo_ok (l := [Wom6]) ⟨Womok6 hh, trivial⟩) (own_of Woown9) Worun7
end Go.Proofs.YtcglbpjpbjaecaaGreat.Ru
