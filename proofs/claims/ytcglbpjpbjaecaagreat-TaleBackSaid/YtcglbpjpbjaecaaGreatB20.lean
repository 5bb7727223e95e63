import Derived.Test.YtcglbpjpbjaecaaGreatB18
set_option linter.unusedVariables false
set_option linter.unusedSimpArgs false
namespace Go.Proofs.YtcglbpjpbjaecaaGreat.Ru
open Go Go.Ab Go.RowKit
set_option maxRecDepth 100000
theorem Tarun6:(exTabM Pg FT hdT (orMemo hmT (allMemoC [])) pu 60).ex (V × HT) Tam6.f Tam6.args ⟨Tam6.H.next,Tam6.H.next,Tam6.H.tr⟩ (pairP [(1328,4)])=some (Tam6.v,Tam6.H'):=by kernel_rfl
theorem Tamok6 (hh:HdOk Pg hd):MemoOk Pg Tam6:=memo_ofP okP tabOk (hdT_ok hh) (orMemo_ok hmT_ok (allMemoC_ok (l:=[]) trivial)) [(1328,4)] (own_of Taown11) Tarun6
end Go.Proofs.YtcglbpjpbjaecaaGreat.Ru
namespace Go.Proofs.YtcglbpjpbjaecaaGreat.Ru
open Go Go.Ab Go.RowKit
set_option maxRecDepth 100000
theorem Tarun7:(exTabM Pg FT hdT (orMemo hmT (allMemoC [Tam6])) pu 60).ex (V × HT) Tam7.f Tam7.args ⟨Tam7.H.next,Tam7.H.next,Tam7.H.tr⟩ (pairP [(1307,25)])=some (Tam7.v,Tam7.H'):=by kernel_rfl
theorem Tamok7 (hh:HdOk Pg hd):MemoOk Pg Tam7:=memo_ofP okP tabOk (hdT_ok hh) (orMemo_ok hmT_ok (allMemoC_ok (l:=[Tam6]) ⟨Tamok6 hh,trivial⟩)) [(1307,25)] (own_of Taown10) Tarun7
end Go.Proofs.YtcglbpjpbjaecaaGreat.Ru
