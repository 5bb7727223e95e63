import Derived.Test.YtcglbpjpbjaecaaGreatB18
set_option linter.unusedVariables false
set_option linter.unusedSimpArgs false
namespace Go.Proofs.YtcglbpjpbjaecaaGreat.Ru
open Go Go.Ab Go.RowKit
set_option maxRecDepth 100000
theorem Tarun9:(exTabM Pg FT hdT (orMemo hmT (allMemoC [])) pu 60).ex (V × HT) Tam9.f Tam9.args ⟨Tam9.H.next,Tam9.H.next,Tam9.H.tr⟩ (pairP [])=some (Tam9.v,Tam9.H'):=by kernel_rfl
theorem Tamok9 (hh:HdOk Pg hd):MemoOk Pg Tam9:=memo_ofP okP tabOk (hdT_ok hh) (orMemo_ok hmT_ok (allMemoC_ok (l:=[]) trivial)) [] (own_of Taown15) Tarun9
end Go.Proofs.YtcglbpjpbjaecaaGreat.Ru
namespace Go.Proofs.YtcglbpjpbjaecaaGreat.Ru
open Go Go.Ab Go.RowKit
set_option maxRecDepth 100000
theorem Tarun10:(exTabM Pg FT hdT (orMemo hmT (allMemoC [Tam9])) pu 60).ex (V × HT) Tam10.f Tam10.args ⟨Tam10.H.next,Tam10.H.next,Tam10.H.tr⟩ (pairP [(1332,34)])=some (Tam10.v,Tam10.H'):=by kernel_rfl
theorem Tamok10 (hh:HdOk Pg hd):MemoOk Pg Tam10:=memo_ofP okP tabOk (hdT_ok hh) (orMemo_ok hmT_ok (allMemoC_ok (l:=[Tam9]) ⟨Tamok9 hh,trivial⟩)) [(1332,34)] (own_of Taown16) Tarun10
end Go.Proofs.YtcglbpjpbjaecaaGreat.Ru
namespace Go.Proofs.YtcglbpjpbjaecaaGreat.Ru
open Go Go.Ab Go.RowKit
set_option maxRecDepth 100000
theorem Tarun11:(exTabM Pg FT hdT (orMemo hmT (allMemoC [])) pu 60).ex (V × HT) Tam11.f Tam11.args ⟨Tam11.H.next,Tam11.H.next,Tam11.H.tr⟩ (pairP [(1391,4)])=some (Tam11.v,Tam11.H'):=by kernel_rfl
theorem Tamok11 (hh:HdOk Pg hd):MemoOk Pg Tam11:=memo_ofP okP tabOk (hdT_ok hh) (orMemo_ok hmT_ok (allMemoC_ok (l:=[]) trivial)) [(1391,4)] (own_of Taown18) Tarun11
end Go.Proofs.YtcglbpjpbjaecaaGreat.Ru
namespace Go.Proofs.YtcglbpjpbjaecaaGreat.Ru
open Go Go.Ab Go.RowKit
set_option maxRecDepth 100000
theorem Tarun12:(exTabM Pg FT hdT (orMemo hmT (allMemoC [Tam11])) pu 60).ex (V × HT) Tam12.f Tam12.args ⟨Tam12.H.next,Tam12.H.next,Tam12.H.tr⟩ (pairP [(1370,25)])=some (Tam12.v,Tam12.H'):=by kernel_rfl
theorem Tamok12 (hh:HdOk Pg hd):MemoOk Pg Tam12:=memo_ofP okP tabOk (hdT_ok hh) (orMemo_ok hmT_ok (allMemoC_ok (l:=[Tam11]) ⟨Tamok11 hh,trivial⟩)) [(1370,25)] (own_of Taown20) Tarun12
end Go.Proofs.YtcglbpjpbjaecaaGreat.Ru
