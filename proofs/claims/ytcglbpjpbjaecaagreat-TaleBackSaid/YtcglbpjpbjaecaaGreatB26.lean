import Derived.Test.YtcglbpjpbjaecaaGreatB18
set_option linter.unusedVariables false
set_option linter.unusedSimpArgs false
namespace Go.Proofs.YtcglbpjpbjaecaaGreat.Ru
open Go Go.Ab Go.RowKit
set_option maxRecDepth 100000
theorem Tarun17:(exTabM Pg FT hdT (orMemo hmT (allMemoC [])) pu 60).ex (V × HT) Tam17.f Tam17.args ⟨Tam17.H.next,Tam17.H.next,Tam17.H.tr⟩ (pairP [(1533,4)])=some (Tam17.v,Tam17.H'):=by kernel_rfl
theorem Tamok17 (hh:HdOk Pg hd):MemoOk Pg Tam17:=memo_ofP okP tabOk (hdT_ok hh) (orMemo_ok hmT_ok (allMemoC_ok (l:=[]) trivial)) [(1533,4)] (own_of Taown30) Tarun17
end Go.Proofs.YtcglbpjpbjaecaaGreat.Ru
namespace Go.Proofs.YtcglbpjpbjaecaaGreat.Ru
open Go Go.Ab Go.RowKit
set_option maxRecDepth 100000
theorem Tarun18:(exTabM Pg FT hdT (orMemo hmT (allMemoC [Tam17])) pu 60).ex (V × HT) Tam18.f Tam18.args ⟨Tam18.H.next,Tam18.H.next,Tam18.H.tr⟩ (pairP [(1512,25)])=some (Tam18.v,Tam18.H'):=by kernel_rfl
theorem Tamok18 (hh:HdOk Pg hd):MemoOk Pg Tam18:=memo_ofP okP tabOk (hdT_ok hh) (orMemo_ok hmT_ok (allMemoC_ok (l:=[Tam17]) ⟨Tamok17 hh,trivial⟩)) [(1512,25)] (own_of Taown32) Tarun18
end Go.Proofs.YtcglbpjpbjaecaaGreat.Ru
namespace Go.Proofs.YtcglbpjpbjaecaaGreat.Ru
open Go Go.Ab Go.RowKit
set_option maxRecDepth 100000
theorem Tarun19:(exTabM Pg FT hdT (orMemo hmT (allMemoC [Tam18])) pu 60).ex (V × HT) Tam19.f Tam19.args ⟨Tam19.H.next,Tam19.H.next,Tam19.H.tr⟩ (pairP [(1505,32)])=some (Tam19.v,Tam19.H'):=by kernel_rfl
theorem Tamok19 (hh:HdOk Pg hd):MemoOk Pg Tam19:=memo_ofP okP tabOk (hdT_ok hh) (orMemo_ok hmT_ok (allMemoC_ok (l:=[Tam18]) ⟨Tamok18 hh,trivial⟩)) [(1505,32)] (own_of Taown34) Tarun19
end Go.Proofs.YtcglbpjpbjaecaaGreat.Ru
