import Derived.Test.YtcglbpjpbjaecaaGreatB18
set_option linter.unusedVariables false
set_option linter.unusedSimpArgs false
namespace Go.Proofs.YtcglbpjpbjaecaaGreat.Ru
open Go Go.Ab Go.RowKit
set_option maxRecDepth 100000
theorem Tarun13:(exTabM Pg FT hdT (orMemo hmT (allMemoC [])) pu 60).ex (V × HT) Tam13.f Tam13.args ⟨Tam13.H.next,Tam13.H.next,Tam13.H.tr⟩ (pairP [(1397,5)])=some (Tam13.v,Tam13.H'):=by kernel_rfl
theorem Tamok13 (hh:HdOk Pg hd):MemoOk Pg Tam13:=memo_ofP okP tabOk (hdT_ok hh) (orMemo_ok hmT_ok (allMemoC_ok (l:=[]) trivial)) [(1397,5)] (own_of Taown22) Tarun13
end Go.Proofs.YtcglbpjpbjaecaaGreat.Ru
