import Derived.Test.YtcglbpjpbjaecaaGreatB18
import Derived.Test.YtcglbpjpbjaecaaGreatB21
import Derived.Test.YtcglbpjpbjaecaaGreatB28
set_option linter.unusedVariables false
set_option linter.unusedSimpArgs false
namespace Go.Proofs.YtcglbpjpbjaecaaGreat.Ru
open Go Go.Ab Go.RowKit
set_option maxRecDepth 100000
theorem Tarun22:(exTabM Pg FT hdT (orMemo hmT (allMemoC [Tam8,Tam21])) pu 60).ex (V × HT) Tam22.f Tam22.args ⟨Tam22.H.next,Tam22.H.next,Tam22.H.tr⟩ (pairP [(36,4),(43,1352),(1396,7),(1413,80),(1494,45)])=some (Tam22.v,Tam22.H'):=by kernel_rfl
theorem Tamok22 (hh:HdOk Pg hd):MemoOk Pg Tam22:=memo_ofP okP tabOk (hdT_ok hh) (orMemo_ok hmT_ok (allMemoC_ok (l:=[Tam8,Tam21]) ⟨Tamok8 hh,Tamok21 hh,trivial⟩)) [(36,4),(43,1352),(1396,7),(1413,80),(1494,45)] (own_of Taown8) Tarun22
end Go.Proofs.YtcglbpjpbjaecaaGreat.Ru
