import Derived.Test.YtcglbpjpbjaecaaGreatWoB
import Derived.Test.YtcglbpjpbjaecaaGreatWH
set_option linter.unusedVariables false
set_option linter.unusedSimpArgs false
namespace Go.Proofs.YtcglbpjpbjaecaaGreat.Ru
open Go Go.Ab Go.RowKit
set_option maxRecDepth 100000
theorem Worun1 : (exTabM Pg FT hdW (allMemo []) pu 60).ex (V × HT) Wom1.f Wom1.args ⟨Wom1.H.next, Wom1.H.next, Wom1.H.tr⟩ pairK = some (Wom1.v, Wom1.H') := by kernel_rfl
theorem Womok1 (hh : HdOk Pg hd) : MemoOk Pg Wom1 := memo_of okP tabOk (hdW_ok hh) (allMemo_ok (l := []) trivial) (own_of Woown2) Worun1
end Go.Proofs.YtcglbpjpbjaecaaGreat.Ru
namespace Go.Proofs.YtcglbpjpbjaecaaGreat.Ru
open Go Go.Ab Go.RowKit
set_option maxRecDepth 100000
theorem Worun2 : (exTabM Pg FT hdW (allMemo [Wom1]) pu 60).ex (V × HT) Wom2.f Wom2.args ⟨Wom2.H.next, Wom2.H.next, Wom2.H.tr⟩ pairK = some (Wom2.v, Wom2.H') := by kernel_rfl
theorem Womok2 (hh : HdOk Pg hd) : MemoOk Pg Wom2 := memo_of okP tabOk (hdW_ok hh) (allMemo_ok (l := [Wom1]) ⟨Womok1 hh, trivial⟩) (own_of Woown1) Worun2
end Go.Proofs.YtcglbpjpbjaecaaGreat.Ru
