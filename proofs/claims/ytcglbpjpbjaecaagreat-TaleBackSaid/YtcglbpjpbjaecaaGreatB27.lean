import Derived.Test.YtcglbpjpbjaecaaGreatB18
import Derived.Test.YtcglbpjpbjaecaaGreatB22
import Derived.Test.YtcglbpjpbjaecaaGreatB23
import Derived.Test.YtcglbpjpbjaecaaGreatB25
import Derived.Test.YtcglbpjpbjaecaaGreatB26
set_option linter.unusedVariables false
set_option linter.unusedSimpArgs false
namespace Go.Proofs.YtcglbpjpbjaecaaGreat.Ru
open Go Go.Ab Go.RowKit
set_option maxRecDepth 100000
theorem Tarun20:(exTabM Pg FT hdT (orMemo hmT (allMemoC [Tam10,Tam12,Tam13,Tam16,Tam19])) pu 60).ex (V × HT) Tam20.f Tam20.args ⟨Tam20.H.next,Tam20.H.next,Tam20.H.tr⟩ (pairP [(1332,63),(1396,7),(1413,80),(1494,43)])=some (Tam20.v,Tam20.H'):=by kernel_rfl
theorem Tamok20 (hh:HdOk Pg hd):MemoOk Pg Tam20:=memo_ofP okP tabOk (hdT_ok hh) (orMemo_ok hmT_ok (allMemoC_ok (l:=[Tam10,Tam12,Tam13,Tam16,Tam19]) ⟨Tamok10 hh,Tamok12 hh,Tamok13 hh,Tamok16 hh,Tamok19 hh,trivial⟩)) [(1332,63),(1396,7),(1413,80),(1494,43)] (own_of Taown15) Tarun20
end Go.Proofs.YtcglbpjpbjaecaaGreat.Ru
