import Derived.Test.YtcglbpjpbjaecaaGreatWoB
import Derived.Test.YtcglbpjpbjaecaaGreatWH
set_option linter.unusedVariables false
set_option linter.unusedSimpArgs false
namespace Go.Proofs.YtcglbpjpbjaecaaGreat.Ru
open Go Go.Ab Go.RowKit
set_option maxRecDepth 100000
theorem Worun8 : (exTabM Pg FT hdW (allMemo []) pu 60).ex (V × HT) Wom8.f Wom8.args ⟨Wom8.H.next, Wom8.H.next, Wom8.H.tr⟩ pairK = some (Wom8.v, Wom8.H') := by kernel_rfl
theorem Womok8 (hh : HdOk Pg hd) : MemoOk Pg Wom8 := memo_of okP tabOk (hdW_ok hh) (allMemo_ok (l := []) trivial) (own_of Woown10) Worun8
end Go.Proofs.YtcglbpjpbjaecaaGreat.Ru
namespace Go.Proofs.YtcglbpjpbjaecaaGreat.Ru
open Go Go.Ab Go.RowKit
set_option maxRecDepth 100000
theorem Worun9 : (exTabM Pg FT hdW (allMemo []) pu 60).ex (V × HT) Wom9.f Wom9.args ⟨Wom9.H.next, Wom9.H.next, Wom9.H.tr⟩ pairK = some (Wom9.v, Wom9.H') := by kernel_rfl
theorem Womok9 (hh : HdOk Pg hd) : MemoOk Pg Wom9 := memo_of okP tabOk (hdW_ok hh) (allMemo_ok (l := []) trivial) (own_of Woown12) Worun9
end Go.Proofs.YtcglbpjpbjaecaaGreat.Ru
