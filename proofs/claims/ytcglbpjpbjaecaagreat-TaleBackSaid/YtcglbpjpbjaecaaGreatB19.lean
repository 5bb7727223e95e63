import Derived.Test.YtcglbpjpbjaecaaGreatB18
set_option linter.unusedVariables false
set_option linter.unusedSimpArgs false
namespace Go.Proofs.YtcglbpjpbjaecaaGreat.Ru
open Go Go.Ab Go.RowKit
set_option maxRecDepth 100000
theorem Tarun5:(exTabM Pg FT hdT (orMemo hmT (allMemoC [])) pu 60).ex (V × HT) Tam5.f Tam5.args ⟨Tam5.H.next,Tam5.H.next,Tam5.H.tr⟩ (pairP [(1027,280)])=some (Tam5.v,Tam5.H'):=by kernel_rfl
theorem Tamok5 (hh:HdOk Pg hd):MemoOk Pg Tam5:=memo_ofP okP tabOk (hdT_ok hh) (orMemo_ok hmT_ok (allMemoC_ok (l:=[]) trivial)) [(1027,280)] (own_of Taown9) Tarun5
end Go.Proofs.YtcglbpjpbjaecaaGreat.Ru
