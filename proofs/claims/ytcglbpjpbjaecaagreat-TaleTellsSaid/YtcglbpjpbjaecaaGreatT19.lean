import Derived.Test.YtcglbpjpbjaecaaGreatT18
set_option linter.unusedVariables false
set_option linter.unusedSimpArgs false
namespace Go.Proofs.YtcglbpjpbjaecaaGreat.Ru
open Go Go.Ab Go.RowKit
set_option maxRecDepth 100000
theorem Tarun0 : (exTabM Pg FT hdT (orMemo hmT (allMemoC [])) pu 60).ex (V × HT) Tam0.f Tam0.args ⟨Tam0.H.next, Tam0.H.next, Tam0.H.tr⟩ (pairP [(14, 7)]) = some (Tam0.v, Tam0.H') := by kernel_rfl
theorem Tamok0 (hh : HdOk Pg hd) : MemoOk Pg Tam0 := memo_ofP okP tabOk (hdT_ok hh) (orMemo_ok hmT_ok (allMemoC_ok (l := []) trivial)) [(14, 7)] (own_of Taown0) Tarun0
end Go.Proofs.YtcglbpjpbjaecaaGreat.Ru
namespace Go.Proofs.YtcglbpjpbjaecaaGreat.Ru
open Go Go.Ab Go.RowKit
set_option maxRecDepth 100000
theorem Tarun1 : (exTabM Pg FT hdT (orMemo hmT (allMemoC [Tam0])) pu 60).ex (V × HT) Tam1.f Tam1.args ⟨Tam1.H.next, Tam1.H.next, Tam1.H.tr⟩ (pairP [(1, 20)]) = some (Tam1.v, Tam1.H') := by kernel_rfl
theorem Tamok1 (hh : HdOk Pg hd) : MemoOk Pg Tam1 := memo_ofP okP tabOk (hdT_ok hh) (orMemo_ok hmT_ok (allMemoC_ok (l := [Tam0]) ⟨Tamok0 hh, trivial⟩)) [(1, 20)] (own_of Taown2) Tarun1
end Go.Proofs.YtcglbpjpbjaecaaGreat.Ru
namespace Go.Proofs.YtcglbpjpbjaecaaGreat.Ru
open Go Go.Ab Go.RowKit
set_option maxRecDepth 100000
theorem Tarun2 : (exTabM Pg FT hdT (orMemo hmT (allMemoC [])) pu 60).ex (V × HT) Tam2.f Tam2.args ⟨Tam2.H.next, Tam2.H.next, Tam2.H.tr⟩ (pairP [(28, 5)]) = some (Tam2.v, Tam2.H') := by kernel_rfl
theorem Tamok2 (hh : HdOk Pg hd) : MemoOk Pg Tam2 := memo_ofP okP tabOk (hdT_ok hh) (orMemo_ok hmT_ok (allMemoC_ok (l := []) trivial)) [(28, 5)] (own_of Taown4) Tarun2
end Go.Proofs.YtcglbpjpbjaecaaGreat.Ru
namespace Go.Proofs.YtcglbpjpbjaecaaGreat.Ru
open Go Go.Ab Go.RowKit
set_option maxRecDepth 100000
theorem Tarun3 : (exTabM Pg FT hdT (orMemo hmT (allMemoC [Tam2])) pu 60).ex (V × HT) Tam3.f Tam3.args ⟨Tam3.H.next, Tam3.H.next, Tam3.H.tr⟩ (pairP [(24, 9)]) = some (Tam3.v, Tam3.H') := by kernel_rfl
theorem Tamok3 (hh : HdOk Pg hd) : MemoOk Pg Tam3 := memo_ofP okP tabOk (hdT_ok hh) (orMemo_ok hmT_ok (allMemoC_ok (l := [Tam2]) ⟨Tamok2 hh, trivial⟩)) [(24, 9)] (own_of Taown6) Tarun3
end Go.Proofs.YtcglbpjpbjaecaaGreat.Ru
namespace Go.Proofs.YtcglbpjpbjaecaaGreat.Ru
open Go Go.Ab Go.RowKit
set_option maxRecDepth 100000
theorem Tarun4 : (exTabM Pg FT hdT (orMemo hmT (allMemoC [Tam1, Tam3])) pu 60).ex (V × HT) Tam4.f Tam4.args ⟨Tam4.H.next, Tam4.H.next, Tam4.H.tr⟩ (pairP [(1, 34)]) = some (Tam4.v, Tam4.H') := by kernel_rfl
theorem Tamok4 (hh : HdOk Pg hd) : MemoOk Pg Tam4 := memo_ofP okP tabOk (hdT_ok hh) (orMemo_ok hmT_ok (allMemoC_ok (l := [Tam1, Tam3]) ⟨Tamok1 hh, Tamok3 hh, trivial⟩)) [(1, 34)] (own_of Taown2) Tarun4
end Go.Proofs.YtcglbpjpbjaecaaGreat.Ru
