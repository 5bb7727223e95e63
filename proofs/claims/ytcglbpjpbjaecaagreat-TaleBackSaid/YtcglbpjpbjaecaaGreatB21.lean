import Derived.Test.YtcglbpjpbjaecaaGreatB18
import Derived.Test.YtcglbpjpbjaecaaGreatB19
import Derived.Test.YtcglbpjpbjaecaaGreatB20
set_option linter.unusedVariables false
set_option linter.unusedSimpArgs false
namespace Go.Proofs.YtcglbpjpbjaecaaGreat.Ru
open Go Go.Ab Go.RowKit
set_option maxRecDepth 100000
theorem Tarun8:(exTabM Pg FT hdT (orMemo hmT (allMemoC [Tam5,Tam7])) pu 60).ex (V × HT) Tam8.f Tam8.args ⟨Tam8.H.next,Tam8.H.next,Tam8.H.tr⟩ (pairP [(43,1289)])=some (Tam8.v,Tam8.H'):=by kernel_rfl
theorem Tamok8 (hh:HdOk Pg hd):MemoOk Pg Tam8:=memo_ofP okP tabOk (hdT_ok hh) (orMemo_ok hmT_ok (allMemoC_ok (l:=[Tam5,Tam7]) ⟨Tamok5 hh,Tamok7 hh,trivial⟩)) [(43,1289)] (own_of Taown14) Tarun8
end Go.Proofs.YtcglbpjpbjaecaaGreat.Ru
