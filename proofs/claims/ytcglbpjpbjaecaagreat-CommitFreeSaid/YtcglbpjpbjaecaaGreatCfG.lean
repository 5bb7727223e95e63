import Derived.Test.YtcglbpjpbjaecaaGreatCf
import Derived.Test.YtcglbpjpbjaecaaGreatFH
import Derived.Test.YtcglbpjpbjaecaaGreatCfA
import Derived.Test.YtcglbpjpbjaecaaGreatCfB
import Derived.Test.YtcglbpjpbjaecaaGreatCfC
import Derived.Test.YtcglbpjpbjaecaaGreatCfF
set_option linter.unusedVariables false
set_option linter.unusedSimpArgs false
namespace Go.Proofs.YtcglbpjpbjaecaaGreat.Ru
open Go Go.Ab Go.RowKit
set_option maxRecDepth 100000
set_option linter.unusedVariables false
theorem Cfrun4 (k m : Nat) (r : V) : (exTabM Pg FT Sh.hd2 (allMemo0 (.one 24) [Cfm1 k m, Cfm2 k m, Cfm3 k m]) pu 60).ex (V × HT) (Cfm4 k m r).f (Cfm4 k m r).args ⟨(Cfm4 k m r).H.next, (Cfm4 k m r).H.next, (Cfm4 k m r).H.tr⟩ pairK = some ((Cfm4 k m r).v, (Cfm4 k m r).H') := by kernel_rfl
theorem Cfmok4 (hh : HdOk Pg hd) (k m : Nat) (r : V) : MemoOk Pg (Cfm4 k m r) := memo_of okP tabOk (Sh.hd2_ok hh) (allMemo0_ok (l := [Cfm1 k m, Cfm2 k m, Cfm3 k m]) ⟨⟨fun x => Cfmok1 hh k m x, fun _ => rfl, fun _ => by kernel_rfl⟩, ⟨fun x => Cfmok2 hh k m x, fun _ => rfl, fun _ => by kernel_rfl⟩, ⟨fun x => Cfmok3 hh k m x, fun _ => rfl, fun _ => by kernel_rfl⟩, trivial⟩) (own_of (Cfown1 k m r)) (Cfrun4 k m r)
end Go.Proofs.YtcglbpjpbjaecaaGreat.Ru
namespace Go.Proofs.YtcglbpjpbjaecaaGreat.Ru
open Go Go.Ab Go.RowKit
set_option maxRecDepth 100000
set_option linter.unusedVariables false
theorem Cfrun8 (k m : Nat) (r : V) : (exTabM Pg FT Sh.hd2 (allMemo0 (.one 24) [Cfm7 k m]) pu 60).ex (V × HT) (Cfm8 k m r).f (Cfm8 k m r).args ⟨(Cfm8 k m r).H.next, (Cfm8 k m r).H.next, (Cfm8 k m r).H.tr⟩ pairK = some ((Cfm8 k m r).v, (Cfm8 k m r).H') := by kernel_rfl
theorem Cfmok8 (hh : HdOk Pg hd) (k m : Nat) (r : V) : MemoOk Pg (Cfm8 k m r) := memo_of okP tabOk (Sh.hd2_ok hh) (allMemo0_ok (l := [Cfm7 k m]) ⟨⟨fun x => Cfmok7 hh k m x, fun _ => rfl, fun _ => by kernel_rfl⟩, trivial⟩) (own_of (Cfown7 k m r)) (Cfrun8 k m r)
end Go.Proofs.YtcglbpjpbjaecaaGreat.Ru
namespace Go.Proofs.YtcglbpjpbjaecaaGreat.Ru
open Go Go.Ab Go.RowKit
set_option maxRecDepth 100000
set_option linter.unusedVariables false
theorem Cfrun9 (k m : Nat) (r : V) : (exTabM Pg FT Sh.hd2 noMemo pu 60).ex (V × HT) (Cfm9 k m r).f (Cfm9 k m r).args ⟨(Cfm9 k m r).H.next, (Cfm9 k m r).H.next, (Cfm9 k m r).H.tr⟩ pairK = some ((Cfm9 k m r).v, (Cfm9 k m r).H') := by kernel_rfl
theorem Cfmok9 (hh : HdOk Pg hd) (k m : Nat) (r : V) : MemoOk Pg (Cfm9 k m r) := memo_of okP tabOk (Sh.hd2_ok hh) noMemo_ok (own_of (Cfown10 k m r)) (Cfrun9 k m r)
end Go.Proofs.YtcglbpjpbjaecaaGreat.Ru
namespace Go.Proofs.YtcglbpjpbjaecaaGreat.Ru
open Go Go.Ab Go.RowKit
set_option maxRecDepth 100000
set_option linter.unusedVariables false
theorem Cfrun10 (k m : Nat) (r : V) : (exTabM Pg FT Sh.hd2 noMemo pu 60).ex (V × HT) (Cfm10 k m r).f (Cfm10 k m r).args ⟨(Cfm10 k m r).H.next, (Cfm10 k m r).H.next, (Cfm10 k m r).H.tr⟩ pairK = some ((Cfm10 k m r).v, (Cfm10 k m r).H') := by kernel_rfl
theorem Cfmok10 (hh : HdOk Pg hd) (k m : Nat) (r : V) : MemoOk Pg (Cfm10 k m r) := memo_of okP tabOk (Sh.hd2_ok hh) noMemo_ok (own_of (Cfown10 k m r)) (Cfrun10 k m r)
end Go.Proofs.YtcglbpjpbjaecaaGreat.Ru
namespace Go.Proofs.YtcglbpjpbjaecaaGreat.Ru
open Go Go.Ab Go.RowKit
set_option maxRecDepth 100000
set_option linter.unusedVariables false
theorem Cfrun12 (k m : Nat) (r : V) : (exTabM Pg FT Sh.hd2 noMemo pu 60).ex (V × HT) (Cfm12 k m r).f (Cfm12 k m r).args ⟨(Cfm12 k m r).H.next, (Cfm12 k m r).H.next, (Cfm12 k m r).H.tr⟩ pairK = some ((Cfm12 k m r).v, (Cfm12 k m r).H') := by kernel_rfl
theorem Cfmok12 (hh : HdOk Pg hd) (k m : Nat) (r : V) : MemoOk Pg (Cfm12 k m r) := memo_of okP tabOk (Sh.hd2_ok hh) noMemo_ok (own_of (Cfown12 k m r)) (Cfrun12 k m r)
end Go.Proofs.YtcglbpjpbjaecaaGreat.Ru
namespace Go.Proofs.YtcglbpjpbjaecaaGreat.Ru
open Go Go.Ab Go.RowKit
set_option maxRecDepth 100000
set_option linter.unusedVariables false
theorem Cfrun13 (k m : Nat) (r : V) : (exTabM Pg FT Sh.hd2 noMemo pu 60).ex (V × HT) (Cfm13 k m r).f (Cfm13 k m r).args ⟨(Cfm13 k m r).H.next, (Cfm13 k m r).H.next, (Cfm13 k m r).H.tr⟩ pairK = some ((Cfm13 k m r).v, (Cfm13 k m r).H') := by kernel_rfl
theorem Cfmok13 (hh : HdOk Pg hd) (k m : Nat) (r : V) : MemoOk Pg (Cfm13 k m r) := memo_of okP tabOk (Sh.hd2_ok hh) noMemo_ok (own_of (Cfown12 k m r)) (Cfrun13 k m r)
end Go.Proofs.YtcglbpjpbjaecaaGreat.Ru
namespace Go.Proofs.YtcglbpjpbjaecaaGreat.Ru
open Go Go.Ab Go.RowKit
set_option maxRecDepth 100000
set_option linter.unusedVariables false
theorem Cfrun15 (k m : Nat) (r : V) : (exTabM Pg FT Sh.hd2 noMemo pu 60).ex (V × HT) (Cfm15 k m r).f (Cfm15 k m r).args ⟨(Cfm15 k m r).H.next, (Cfm15 k m r).H.next, (Cfm15 k m r).H.tr⟩ pairK = some ((Cfm15 k m r).v, (Cfm15 k m r).H') := by kernel_rfl
theorem Cfmok15 (hh : HdOk Pg hd) (k m : Nat) (r : V) : MemoOk Pg (Cfm15 k m r) := memo_of okP tabOk (Sh.hd2_ok hh) noMemo_ok (own_of (Cfown14 k m r)) (Cfrun15 k m r)
end Go.Proofs.YtcglbpjpbjaecaaGreat.Ru
namespace Go.Proofs.YtcglbpjpbjaecaaGreat.Ru
open Go Go.Ab Go.RowKit
set_option maxRecDepth 100000
set_option linter.unusedVariables false
theorem Cfrun16 (k m : Nat) (r : V) : (exTabM Pg FT Sh.hd2 noMemo pu 60).ex (V × HT) (Cfm16 k m r).f (Cfm16 k m r).args ⟨(Cfm16 k m r).H.next, (Cfm16 k m r).H.next, (Cfm16 k m r).H.tr⟩ pairK = some ((Cfm16 k m r).v, (Cfm16 k m r).H') := by kernel_rfl
theorem Cfmok16 (hh : HdOk Pg hd) (k m : Nat) (r : V) : MemoOk Pg (Cfm16 k m r) := memo_of okP tabOk (Sh.hd2_ok hh) noMemo_ok (own_of (Cfown14 k m r)) (Cfrun16 k m r)
end Go.Proofs.YtcglbpjpbjaecaaGreat.Ru
namespace Go.Proofs.YtcglbpjpbjaecaaGreat.Ru
open Go Go.Ab Go.RowKit
set_option maxRecDepth 100000
set_option linter.unusedVariables false
theorem Cfrun18 (k m : Nat) (r : V) : (exTabM Pg FT Sh.hd2 noMemo pu 60).ex (V × HT) (Cfm18 k m r).f (Cfm18 k m r).args ⟨(Cfm18 k m r).H.next, (Cfm18 k m r).H.next, (Cfm18 k m r).H.tr⟩ pairK = some ((Cfm18 k m r).v, (Cfm18 k m r).H') := by kernel_rfl
theorem Cfmok18 (hh : HdOk Pg hd) (k m : Nat) (r : V) : MemoOk Pg (Cfm18 k m r) := memo_of okP tabOk (Sh.hd2_ok hh) noMemo_ok (own_of (Cfown16 k m r)) (Cfrun18 k m r)
end Go.Proofs.YtcglbpjpbjaecaaGreat.Ru
namespace Go.Proofs.YtcglbpjpbjaecaaGreat.Ru
open Go Go.Ab Go.RowKit
set_option maxRecDepth 100000
set_option linter.unusedVariables false
theorem Cfrun19 (k m : Nat) (r : V) : (exTabM Pg FT Sh.hd2 noMemo pu 60).ex (V × HT) (Cfm19 k m r).f (Cfm19 k m r).args ⟨(Cfm19 k m r).H.next, (Cfm19 k m r).H.next, (Cfm19 k m r).H.tr⟩ pairK = some ((Cfm19 k m r).v, (Cfm19 k m r).H') := by kernel_rfl
theorem Cfmok19 (hh : HdOk Pg hd) (k m : Nat) (r : V) : MemoOk Pg (Cfm19 k m r) := memo_of okP tabOk (Sh.hd2_ok hh) noMemo_ok (own_of (Cfown16 k m r)) (Cfrun19 k m r)
end Go.Proofs.YtcglbpjpbjaecaaGreat.Ru
