import Derived.Test.YtcglbpjpbjaecaaGreatB18
set_option linter.unusedVariables false
set_option linter.unusedSimpArgs false
namespace Go.Proofs.YtcglbpjpbjaecaaGreat.Ru
open Go Go.Ab Go.RowKit
set_option maxRecDepth 100000
theorem Tarun14:(exTabM Pg FT hdT (orMemo hmT (allMemoC [])) pu 60).ex (V × HT) Tam14.f Tam14.args ⟨Tam14.H.next,Tam14.H.next,Tam14.H.tr⟩ (pairP [(1465,11),(1477,4)])=some (Tam14.v,Tam14.H'):=by kernel_rfl
theorem Tamok14 (hh:HdOk Pg hd):MemoOk Pg Tam14:=memo_ofP okP tabOk (hdT_ok hh) (orMemo_ok hmT_ok (allMemoC_ok (l:=[]) trivial)) [(1465,11),(1477,4)] (own_of Taown24) Tarun14
end Go.Proofs.YtcglbpjpbjaecaaGreat.Ru
namespace Go.Proofs.YtcglbpjpbjaecaaGreat.Ru
open Go Go.Ab Go.RowKit
set_option maxRecDepth 100000
theorem Tarun15:(exTabM Pg FT hdT (orMemo hmT (allMemoC [])) pu 60).ex (V × HT) Tam15.f Tam15.args ⟨Tam15.H.next,Tam15.H.next,Tam15.H.tr⟩ (pairP [(1482,11),(1494,4)])=some (Tam15.v,Tam15.H'):=by kernel_rfl
theorem Tamok15 (hh:HdOk Pg hd):MemoOk Pg Tam15:=memo_ofP okP tabOk (hdT_ok hh) (orMemo_ok hmT_ok (allMemoC_ok (l:=[]) trivial)) [(1482,11),(1494,4)] (own_of Taown26) Tarun15
end Go.Proofs.YtcglbpjpbjaecaaGreat.Ru
