import Derived.Test.YtcglbpjpbjaecaaGreatB18
import Derived.Test.YtcglbpjpbjaecaaGreatB24
set_option linter.unusedVariables false
set_option linter.unusedSimpArgs false
namespace Go.Proofs.YtcglbpjpbjaecaaGreat.Ru
open Go Go.Ab Go.RowKit
set_option maxRecDepth 100000
theorem Tarun16:(exTabM Pg FT hdT (orMemo hmT (allMemoC [Tam14,Tam15])) pu 60).ex (V × HT) Tam16.f Tam16.args ⟨Tam16.H.next,Tam16.H.next,Tam16.H.tr⟩ (pairP [(1413,80),(1494,5)])=some (Tam16.v,Tam16.H'):=by kernel_rfl
theorem Tamok16 (hh:HdOk Pg hd):MemoOk Pg Tam16:=memo_ofP okP tabOk (hdT_ok hh) (orMemo_ok hmT_ok (allMemoC_ok (l:=[Tam14,Tam15]) ⟨Tamok14 hh,Tamok15 hh,trivial⟩)) [(1413,80),(1494,5)] (own_of Taown28) Tarun16
end Go.Proofs.YtcglbpjpbjaecaaGreat.Ru
