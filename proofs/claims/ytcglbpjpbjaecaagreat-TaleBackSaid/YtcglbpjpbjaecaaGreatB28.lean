import Derived.Test.YtcglbpjpbjaecaaGreatB18
import Derived.Test.YtcglbpjpbjaecaaGreatB27
set_option linter.unusedVariables false
set_option linter.unusedSimpArgs false
namespace Go.Proofs.YtcglbpjpbjaecaaGreat.Ru
open Go Go.Ab Go.RowKit
set_option maxRecDepth 100000
theorem Tarun21:(exTabM Pg FT hdT (orMemo hmT (allMemoC [Tam20])) pu 60).ex (V × HT) Tam21.f Tam21.args ⟨Tam21.H.next,Tam21.H.next,Tam21.H.tr⟩ (pairP [(1332,63),(1396,7),(1413,80),(1494,45)])=some (Tam21.v,Tam21.H'):=by kernel_rfl
theorem Tamok21 (hh:HdOk Pg hd):MemoOk Pg Tam21:=memo_ofP okP tabOk (hdT_ok hh) (orMemo_ok hmT_ok (allMemoC_ok (l:=[Tam20]) ⟨Tamok20 hh,trivial⟩)) [(1332,63),(1396,7),(1413,80),(1494,45)] (own_of Taown15) Tarun21
end Go.Proofs.YtcglbpjpbjaecaaGreat.Ru
