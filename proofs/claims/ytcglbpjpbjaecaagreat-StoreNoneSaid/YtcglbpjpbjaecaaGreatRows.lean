/-
  No cell of these rows narrows 'for every input' (looked for: loops, veiled, ifaces, maps, wideKeys, modest, calm, conditions, laid).
  DERIVED. THE GIVEN ROWS OF THIS SEAT. 10 by the template 'for every input the law returns true; each argument reads behind the call as it read before'; 0 by the template 'total and deterministic' (their statements: YtcglbpjpbjaecaaGreatTotals.lean).
  GIVEN WITH THE SEED: the statements are not yours to turn. If you find one false, say at which input.
  Laid BY PROGRAM, IN A SANDBOX (cutbox-rows.mjs): the forced cells as the released guide's own fill.sh prints them over the translation 9686d1640378338c… (all of the seat's roots in one cut). By AI agents, Wed Nov 11 2026. No macro, syntax, notation, axiom, sorry.
-/
import Derived.Test.YtcglbpjpbjaecaaGreatChecked
import GoSem.Claim
import GoSem.ClaimJoined
import GoSem.ClaimMapViews
import Derived.JoinedTies
import Derived.KernelRfl
namespace Go.Proofs.YtcglbpjpbjaecaaGreat
/- THE CELL 'sum', in the pinned program and in every row, IS THE sha256 OF THE DUMP (.gsa) THAT YtcglbpjpbjaecaaGreatProg.lean LOADS. Nothing in Lean hashes anything: it is a label: what it is worth is what the hold of that sum in a sandbox is worth. -/
noncomputable def Tryz.pinned : Pinned := { name := "ytcglbpjpbjaecaagreat", sum := "9686d1640378338c1c01bba4725d9659390bd50558bf74ae1c7c83dca7a67a36", checked := Tryz.checked }
namespace Rows
def none {H : Type} : Left H := { results := [], args := [] }

/-- 'varvelaw21.CommitFree': WHATEVER THE INPUT: true; the input reads as it did. -/
def commitFreeSpec : ChangeSpec := { name := "commitFree", fn := fun _ => fun
  | [d] => { results := [.lit (.bool true)], args := [d] }
  | _ => none }
def commitFreeRow : OpenClaim := { program := "ytcglbpjpbjaecaagreat", sum := "9686d1640378338c1c01bba4725d9659390bd50558bf74ae1c7c83dca7a67a36", func := "varve/varvelaw21.CommitFree", spec := "commitFree", unfollowed := true, recurses := true, plainKeys := false, apart := false }
def CommitFreeSaid : Prop := commitFreeRow.holds Tryz.pinned (OpenSpec.ofChange commitFreeSpec)

/-- ITS FALSE NEIGHBOUR: 'it returns false'. Refute it at one input. -/
def commitFreeWrong : ChangeSpec := { name := "commitFree", fn := fun _ => fun
  | [d] => { results := [.lit (.bool false)], args := [d] }
  | _ => none }
def CommitFreeWrongFalsely : Prop := commitFreeRow.holds Tryz.pinned (OpenSpec.ofChange commitFreeWrong)

/-- 'varvelaw23.RestartNone': WHATEVER THE INPUT: true; the input reads as it did. -/
def restartNoneSpec : ChangeSpec := { name := "restartNone", fn := fun _ => fun
  | [d1, d2] => { results := [.lit (.bool true)], args := [d1, d2] }
  | _ => none }
def restartNoneRow : OpenClaim := { program := "ytcglbpjpbjaecaagreat", sum := "9686d1640378338c1c01bba4725d9659390bd50558bf74ae1c7c83dca7a67a36", func := "varve/varvelaw23.RestartNone", spec := "restartNone", inPlace := ["internal/reflectlite.ValueOf", "internal/reflectlite.Swapper", "(internal/reflectlite.Value).Len"], unfollowed := true, recurses := true, plainKeys := false, apart := false }
def RestartNoneSaid : Prop := restartNoneRow.holds Tryz.pinned (OpenSpec.ofChange restartNoneSpec)

/-- ITS FALSE NEIGHBOUR: 'it returns false'. Refute it at one input. -/
def restartNoneWrong : ChangeSpec := { name := "restartNone", fn := fun _ => fun
  | [d1, d2] => { results := [.lit (.bool false)], args := [d1, d2] }
  | _ => none }
def RestartNoneWrongFalsely : Prop := restartNoneRow.holds Tryz.pinned (OpenSpec.ofChange restartNoneWrong)

/-- 'varvelaw24.StoreNone': WHATEVER THE INPUT: true; the input reads as it did. -/
def storeNoneSpec : ChangeSpec := { name := "storeNone", fn := fun _ => fun
  | [d1, d2] => { results := [.lit (.bool true)], args := [d1, d2] }
  | _ => none }
def storeNoneRow : OpenClaim := { program := "ytcglbpjpbjaecaagreat", sum := "9686d1640378338c1c01bba4725d9659390bd50558bf74ae1c7c83dca7a67a36", func := "varve/varvelaw24.StoreNone", spec := "storeNone", inPlace := ["internal/reflectlite.ValueOf", "internal/reflectlite.Swapper", "(internal/reflectlite.Value).Len"], unfollowed := true, recurses := true, plainKeys := false, apart := false }
def StoreNoneSaid : Prop := storeNoneRow.holds Tryz.pinned (OpenSpec.ofChange storeNoneSpec)

/-- ITS FALSE NEIGHBOUR: 'it returns false'. Refute it at one input. -/
def storeNoneWrong : ChangeSpec := { name := "storeNone", fn := fun _ => fun
  | [d1, d2] => { results := [.lit (.bool false)], args := [d1, d2] }
  | _ => none }
def StoreNoneWrongFalsely : Prop := storeNoneRow.holds Tryz.pinned (OpenSpec.ofChange storeNoneWrong)

/-- 'varvelaw27.WorldNone': WHATEVER THE INPUT: true; the input reads as it did. -/
def worldNoneSpec : ChangeSpec := { name := "worldNone", fn := fun _ => fun
  | [d] => { results := [.lit (.bool true)], args := [d] }
  | _ => none }
def worldNoneRow : OpenClaim := { program := "ytcglbpjpbjaecaagreat", sum := "9686d1640378338c1c01bba4725d9659390bd50558bf74ae1c7c83dca7a67a36", func := "varve/varvelaw27.WorldNone", spec := "worldNone", inPlace := ["internal/reflectlite.ValueOf", "internal/reflectlite.Swapper", "(internal/reflectlite.Value).Len"], unfollowed := true, recurses := true, plainKeys := false, apart := false }
def WorldNoneSaid : Prop := worldNoneRow.holds Tryz.pinned (OpenSpec.ofChange worldNoneSpec)

/-- ITS FALSE NEIGHBOUR: 'it returns false'. Refute it at one input. -/
def worldNoneWrong : ChangeSpec := { name := "worldNone", fn := fun _ => fun
  | [d] => { results := [.lit (.bool false)], args := [d] }
  | _ => none }
def WorldNoneWrongFalsely : Prop := worldNoneRow.holds Tryz.pinned (OpenSpec.ofChange worldNoneWrong)

/-- 'varvelaw28.TaleReads': WHATEVER THE INPUT: true; the input reads as it did. -/
def taleReadsSpec : ChangeSpec := { name := "taleReads", fn := fun _ => fun
  | [d] => { results := [.lit (.bool true)], args := [d] }
  | _ => none }
def taleReadsRow : OpenClaim := { program := "ytcglbpjpbjaecaagreat", sum := "9686d1640378338c1c01bba4725d9659390bd50558bf74ae1c7c83dca7a67a36", func := "varve/varvelaw28.TaleReads", spec := "taleReads", inPlace := ["internal/bytealg.IndexByteString", "internal/bytealg.IndexString", "internal/abi.NoEscape", "internal/bytealg.MakeNoZero", "internal/reflectlite.ValueOf", "internal/reflectlite.Swapper", "(internal/reflectlite.Value).Len"], unfollowed := true, recurses := true, named := ["internal/bytealg.MaxLen"], plainKeys := false, apart := false }
def TaleReadsSaid : Prop := taleReadsRow.holds Tryz.pinned (OpenSpec.ofChange taleReadsSpec)

/-- ITS FALSE NEIGHBOUR: 'it returns false'. Refute it at one input. -/
def taleReadsWrong : ChangeSpec := { name := "taleReads", fn := fun _ => fun
  | [d] => { results := [.lit (.bool false)], args := [d] }
  | _ => none }
def TaleReadsWrongFalsely : Prop := taleReadsRow.holds Tryz.pinned (OpenSpec.ofChange taleReadsWrong)

/-- 'varvelaw28.TaleJoins': WHATEVER THE INPUT: true; the input reads as it did. -/
def taleJoinsSpec : ChangeSpec := { name := "taleJoins", fn := fun _ => fun
  | [d1, d2] => { results := [.lit (.bool true)], args := [d1, d2] }
  | _ => none }
def taleJoinsRow : OpenClaim := { program := "ytcglbpjpbjaecaagreat", sum := "9686d1640378338c1c01bba4725d9659390bd50558bf74ae1c7c83dca7a67a36", func := "varve/varvelaw28.TaleJoins", spec := "taleJoins", inPlace := ["internal/bytealg.IndexByteString", "internal/bytealg.IndexString", "internal/abi.NoEscape", "internal/bytealg.MakeNoZero", "internal/reflectlite.ValueOf", "internal/reflectlite.Swapper", "(internal/reflectlite.Value).Len"], unfollowed := true, recurses := true, named := ["internal/bytealg.MaxLen"], plainKeys := false, apart := false }
def TaleJoinsSaid : Prop := taleJoinsRow.holds Tryz.pinned (OpenSpec.ofChange taleJoinsSpec)

/-- ITS FALSE NEIGHBOUR: 'it returns false'. Refute it at one input. -/
def taleJoinsWrong : ChangeSpec := { name := "taleJoins", fn := fun _ => fun
  | [d1, d2] => { results := [.lit (.bool false)], args := [d1, d2] }
  | _ => none }
def TaleJoinsWrongFalsely : Prop := taleJoinsRow.holds Tryz.pinned (OpenSpec.ofChange taleJoinsWrong)

/-- 'varvelaw28.TaleTells': WHATEVER THE INPUT: true; the input reads as it did. -/
def taleTellsSpec : ChangeSpec := { name := "taleTells", fn := fun _ => fun
  | [d] => { results := [.lit (.bool true)], args := [d] }
  | _ => none }
def taleTellsRow : OpenClaim := { program := "ytcglbpjpbjaecaagreat", sum := "9686d1640378338c1c01bba4725d9659390bd50558bf74ae1c7c83dca7a67a36", func := "varve/varvelaw28.TaleTells", spec := "taleTells", inPlace := ["internal/abi.NoEscape", "internal/bytealg.MakeNoZero", "internal/bytealg.IndexByteString", "internal/bytealg.IndexString", "internal/reflectlite.ValueOf", "internal/reflectlite.Swapper", "(internal/reflectlite.Value).Len"], unfollowed := true, recurses := true, named := ["internal/bytealg.MaxLen"], plainKeys := false, apart := false }
def TaleTellsSaid : Prop := taleTellsRow.holds Tryz.pinned (OpenSpec.ofChange taleTellsSpec)

/-- ITS FALSE NEIGHBOUR: 'it returns false'. Refute it at one input. -/
def taleTellsWrong : ChangeSpec := { name := "taleTells", fn := fun _ => fun
  | [d] => { results := [.lit (.bool false)], args := [d] }
  | _ => none }
def TaleTellsWrongFalsely : Prop := taleTellsRow.holds Tryz.pinned (OpenSpec.ofChange taleTellsWrong)

/-- 'varvelaw28.TalePrints': WHATEVER THE INPUT: true; the input reads as it did. -/
def talePrintsSpec : ChangeSpec := { name := "talePrints", fn := fun _ => fun
  | [d] => { results := [.lit (.bool true)], args := [d] }
  | _ => none }
def talePrintsRow : OpenClaim := { program := "ytcglbpjpbjaecaagreat", sum := "9686d1640378338c1c01bba4725d9659390bd50558bf74ae1c7c83dca7a67a36", func := "varve/varvelaw28.TalePrints", spec := "talePrints", inPlace := ["internal/abi.NoEscape", "internal/bytealg.MakeNoZero", "internal/bytealg.IndexByteString", "internal/bytealg.IndexString", "internal/reflectlite.ValueOf", "internal/reflectlite.Swapper", "(internal/reflectlite.Value).Len"], unfollowed := true, recurses := true, named := ["internal/bytealg.MaxLen"], plainKeys := false, apart := false }
def TalePrintsSaid : Prop := talePrintsRow.holds Tryz.pinned (OpenSpec.ofChange talePrintsSpec)

/-- ITS FALSE NEIGHBOUR: 'it returns false'. Refute it at one input. -/
def talePrintsWrong : ChangeSpec := { name := "talePrints", fn := fun _ => fun
  | [d] => { results := [.lit (.bool false)], args := [d] }
  | _ => none }
def TalePrintsWrongFalsely : Prop := talePrintsRow.holds Tryz.pinned (OpenSpec.ofChange talePrintsWrong)

/-- 'varvelaw28.TaleBack': WHATEVER THE INPUT: true; the input reads as it did. -/
def taleBackSpec : ChangeSpec := { name := "taleBack", fn := fun _ => fun
  | [d1, d2] => { results := [.lit (.bool true)], args := [d1, d2] }
  | _ => none }
def taleBackRow : OpenClaim := { program := "ytcglbpjpbjaecaagreat", sum := "9686d1640378338c1c01bba4725d9659390bd50558bf74ae1c7c83dca7a67a36", func := "varve/varvelaw28.TaleBack", spec := "taleBack", inPlace := ["internal/abi.NoEscape", "internal/bytealg.MakeNoZero", "internal/bytealg.IndexByteString", "internal/bytealg.IndexString", "internal/reflectlite.ValueOf", "internal/reflectlite.Swapper", "(internal/reflectlite.Value).Len"], unfollowed := true, recurses := true, named := ["internal/bytealg.MaxLen"], plainKeys := false, apart := false }
def TaleBackSaid : Prop := taleBackRow.holds Tryz.pinned (OpenSpec.ofChange taleBackSpec)

/-- ITS FALSE NEIGHBOUR: 'it returns false'. Refute it at one input. -/
def taleBackWrong : ChangeSpec := { name := "taleBack", fn := fun _ => fun
  | [d1, d2] => { results := [.lit (.bool false)], args := [d1, d2] }
  | _ => none }
def TaleBackWrongFalsely : Prop := taleBackRow.holds Tryz.pinned (OpenSpec.ofChange taleBackWrong)

/-- 'varvelaw28.TaleRuns': WHATEVER THE INPUT: true; the input reads as it did. -/
def taleRunsSpec : ChangeSpec := { name := "taleRuns", fn := fun _ => fun
  | [d1, d2, d3] => { results := [.lit (.bool true)], args := [d1, d2, d3] }
  | _ => none }
def taleRunsRow : OpenClaim := { program := "ytcglbpjpbjaecaagreat", sum := "9686d1640378338c1c01bba4725d9659390bd50558bf74ae1c7c83dca7a67a36", func := "varve/varvelaw28.TaleRuns", spec := "taleRuns", inPlace := ["internal/abi.NoEscape", "internal/bytealg.MakeNoZero", "internal/bytealg.IndexByteString", "internal/bytealg.IndexString", "internal/reflectlite.ValueOf", "internal/reflectlite.Swapper", "(internal/reflectlite.Value).Len"], unfollowed := true, recurses := true, named := ["internal/bytealg.MaxLen"], plainKeys := false, apart := false }
def TaleRunsSaid : Prop := taleRunsRow.holds Tryz.pinned (OpenSpec.ofChange taleRunsSpec)

/-- ITS FALSE NEIGHBOUR: 'it returns false'. Refute it at one input. -/
def taleRunsWrong : ChangeSpec := { name := "taleRuns", fn := fun _ => fun
  | [d1, d2, d3] => { results := [.lit (.bool false)], args := [d1, d2, d3] }
  | _ => none }
def TaleRunsWrongFalsely : Prop := taleRunsRow.holds Tryz.pinned (OpenSpec.ofChange taleRunsWrong)

/- THE SECOND FORM. 'bulk': how many values and letters a reading holds, each counted each time it is reached (what is shared counts as often as it is met; a slice's spare places count too). A statement '..UptoSaid' is the law's where the arguments, and the package variables that the reading takes, are together of bulk at most 1048576: NARROWER than '..Said'. Prove '..Said' where nothing that the law and all that it calls make is longer than what came in: it says more and counts as full. Else prove '..UptoSaid'. A law counts once. -/
mutual
def uptoBulk {H : Type} : DataW H → Nat
  | .lit (.string bytes) => bytes.length + 1
  | .lit _ => 1
  | .nil => 1
  | .ptr d => uptoBulk d + 1
  | .slice elems spare => uptoBulkAll elems + uptoBulkAll spare + 1
  | .agg parts => uptoBulkAll parts + 1
  | .iface _ d => uptoBulk d + 1
  | .map entries => uptoBulkEntries entries + 1
  | .held _ => 1
def uptoBulkAll {H : Type} : List (DataW H) → Nat
  | [] => 0
  | d :: r => uptoBulk d + uptoBulkAll r
def uptoBulkEntries {H : Type} : List (Lit × DataW H) → Nat
  | [] => 0
  | x :: r => uptoBulkEntry x + uptoBulkEntries r
def uptoBulkEntry {H : Type} : Lit × DataW H → Nat
  | (.string bytes, d) => bytes.length + uptoBulk d + 1
  | (_, d) => uptoBulk d + 1
 end
def uptoSmall : (H : Type) → List (DataW H) → Bool := fun _ ds => decide (uptoBulkAll ds ≤ 1048576)
def OpenSpec.upto (s : _root_.Go.ChangeSpec) : _root_.Go.OpenSpec := { _root_.Go.OpenSpec.ofChange s with cond := some uptoSmall }

/-- 'varvelaw21.CommitFree', WHERE WHAT IT READS IS OF BULK AT MOST 1048576: true; the input reads as it did. -/
def commitFreeUptoRow : OpenClaim := { program := "ytcglbpjpbjaecaagreat", sum := "9686d1640378338c1c01bba4725d9659390bd50558bf74ae1c7c83dca7a67a36", func := "varve/varvelaw21.CommitFree", spec := "commitFree", unfollowed := true, recurses := true, plainKeys := false, apart := false, narrowed := true }
def CommitFreeUptoSaid : Prop := commitFreeUptoRow.holds Tryz.pinned (OpenSpec.upto commitFreeSpec)

/-- 'varvelaw23.RestartNone', WHERE WHAT IT READS IS OF BULK AT MOST 1048576: true; the input reads as it did. -/
def restartNoneUptoRow : OpenClaim := { program := "ytcglbpjpbjaecaagreat", sum := "9686d1640378338c1c01bba4725d9659390bd50558bf74ae1c7c83dca7a67a36", func := "varve/varvelaw23.RestartNone", spec := "restartNone", inPlace := ["internal/reflectlite.ValueOf", "internal/reflectlite.Swapper", "(internal/reflectlite.Value).Len"], unfollowed := true, recurses := true, plainKeys := false, apart := false, narrowed := true }
def RestartNoneUptoSaid : Prop := restartNoneUptoRow.holds Tryz.pinned (OpenSpec.upto restartNoneSpec)

/-- 'varvelaw24.StoreNone', WHERE WHAT IT READS IS OF BULK AT MOST 1048576: true; the input reads as it did. -/
def storeNoneUptoRow : OpenClaim := { program := "ytcglbpjpbjaecaagreat", sum := "9686d1640378338c1c01bba4725d9659390bd50558bf74ae1c7c83dca7a67a36", func := "varve/varvelaw24.StoreNone", spec := "storeNone", inPlace := ["internal/reflectlite.ValueOf", "internal/reflectlite.Swapper", "(internal/reflectlite.Value).Len"], unfollowed := true, recurses := true, plainKeys := false, apart := false, narrowed := true }
def StoreNoneUptoSaid : Prop := storeNoneUptoRow.holds Tryz.pinned (OpenSpec.upto storeNoneSpec)

/-- 'varvelaw27.WorldNone', WHERE WHAT IT READS IS OF BULK AT MOST 1048576: true; the input reads as it did. -/
def worldNoneUptoRow : OpenClaim := { program := "ytcglbpjpbjaecaagreat", sum := "9686d1640378338c1c01bba4725d9659390bd50558bf74ae1c7c83dca7a67a36", func := "varve/varvelaw27.WorldNone", spec := "worldNone", inPlace := ["internal/reflectlite.ValueOf", "internal/reflectlite.Swapper", "(internal/reflectlite.Value).Len"], unfollowed := true, recurses := true, plainKeys := false, apart := false, narrowed := true }
def WorldNoneUptoSaid : Prop := worldNoneUptoRow.holds Tryz.pinned (OpenSpec.upto worldNoneSpec)

/-- 'varvelaw28.TaleReads', WHERE WHAT IT READS IS OF BULK AT MOST 1048576: true; the input reads as it did. -/
def taleReadsUptoRow : OpenClaim := { program := "ytcglbpjpbjaecaagreat", sum := "9686d1640378338c1c01bba4725d9659390bd50558bf74ae1c7c83dca7a67a36", func := "varve/varvelaw28.TaleReads", spec := "taleReads", inPlace := ["internal/bytealg.IndexByteString", "internal/bytealg.IndexString", "internal/abi.NoEscape", "internal/bytealg.MakeNoZero", "internal/reflectlite.ValueOf", "internal/reflectlite.Swapper", "(internal/reflectlite.Value).Len"], unfollowed := true, recurses := true, named := ["internal/bytealg.MaxLen"], plainKeys := false, apart := false, narrowed := true }
def TaleReadsUptoSaid : Prop := taleReadsUptoRow.holds Tryz.pinned (OpenSpec.upto taleReadsSpec)

/-- 'varvelaw28.TaleJoins', WHERE WHAT IT READS IS OF BULK AT MOST 1048576: true; the input reads as it did. -/
def taleJoinsUptoRow : OpenClaim := { program := "ytcglbpjpbjaecaagreat", sum := "9686d1640378338c1c01bba4725d9659390bd50558bf74ae1c7c83dca7a67a36", func := "varve/varvelaw28.TaleJoins", spec := "taleJoins", inPlace := ["internal/bytealg.IndexByteString", "internal/bytealg.IndexString", "internal/abi.NoEscape", "internal/bytealg.MakeNoZero", "internal/reflectlite.ValueOf", "internal/reflectlite.Swapper", "(internal/reflectlite.Value).Len"], unfollowed := true, recurses := true, named := ["internal/bytealg.MaxLen"], plainKeys := false, apart := false, narrowed := true }
def TaleJoinsUptoSaid : Prop := taleJoinsUptoRow.holds Tryz.pinned (OpenSpec.upto taleJoinsSpec)

/-- 'varvelaw28.TaleTells', WHERE WHAT IT READS IS OF BULK AT MOST 1048576: true; the input reads as it did. -/
def taleTellsUptoRow : OpenClaim := { program := "ytcglbpjpbjaecaagreat", sum := "9686d1640378338c1c01bba4725d9659390bd50558bf74ae1c7c83dca7a67a36", func := "varve/varvelaw28.TaleTells", spec := "taleTells", inPlace := ["internal/abi.NoEscape", "internal/bytealg.MakeNoZero", "internal/bytealg.IndexByteString", "internal/bytealg.IndexString", "internal/reflectlite.ValueOf", "internal/reflectlite.Swapper", "(internal/reflectlite.Value).Len"], unfollowed := true, recurses := true, named := ["internal/bytealg.MaxLen"], plainKeys := false, apart := false, narrowed := true }
def TaleTellsUptoSaid : Prop := taleTellsUptoRow.holds Tryz.pinned (OpenSpec.upto taleTellsSpec)

/-- 'varvelaw28.TalePrints', WHERE WHAT IT READS IS OF BULK AT MOST 1048576: true; the input reads as it did. -/
def talePrintsUptoRow : OpenClaim := { program := "ytcglbpjpbjaecaagreat", sum := "9686d1640378338c1c01bba4725d9659390bd50558bf74ae1c7c83dca7a67a36", func := "varve/varvelaw28.TalePrints", spec := "talePrints", inPlace := ["internal/abi.NoEscape", "internal/bytealg.MakeNoZero", "internal/bytealg.IndexByteString", "internal/bytealg.IndexString", "internal/reflectlite.ValueOf", "internal/reflectlite.Swapper", "(internal/reflectlite.Value).Len"], unfollowed := true, recurses := true, named := ["internal/bytealg.MaxLen"], plainKeys := false, apart := false, narrowed := true }
def TalePrintsUptoSaid : Prop := talePrintsUptoRow.holds Tryz.pinned (OpenSpec.upto talePrintsSpec)

/-- 'varvelaw28.TaleBack', WHERE WHAT IT READS IS OF BULK AT MOST 1048576: true; the input reads as it did. -/
def taleBackUptoRow : OpenClaim := { program := "ytcglbpjpbjaecaagreat", sum := "9686d1640378338c1c01bba4725d9659390bd50558bf74ae1c7c83dca7a67a36", func := "varve/varvelaw28.TaleBack", spec := "taleBack", inPlace := ["internal/abi.NoEscape", "internal/bytealg.MakeNoZero", "internal/bytealg.IndexByteString", "internal/bytealg.IndexString", "internal/reflectlite.ValueOf", "internal/reflectlite.Swapper", "(internal/reflectlite.Value).Len"], unfollowed := true, recurses := true, named := ["internal/bytealg.MaxLen"], plainKeys := false, apart := false, narrowed := true }
def TaleBackUptoSaid : Prop := taleBackUptoRow.holds Tryz.pinned (OpenSpec.upto taleBackSpec)

/-- 'varvelaw28.TaleRuns', WHERE WHAT IT READS IS OF BULK AT MOST 1048576: true; the input reads as it did. -/
def taleRunsUptoRow : OpenClaim := { program := "ytcglbpjpbjaecaagreat", sum := "9686d1640378338c1c01bba4725d9659390bd50558bf74ae1c7c83dca7a67a36", func := "varve/varvelaw28.TaleRuns", spec := "taleRuns", inPlace := ["internal/abi.NoEscape", "internal/bytealg.MakeNoZero", "internal/bytealg.IndexByteString", "internal/bytealg.IndexString", "internal/reflectlite.ValueOf", "internal/reflectlite.Swapper", "(internal/reflectlite.Value).Len"], unfollowed := true, recurses := true, named := ["internal/bytealg.MaxLen"], plainKeys := false, apart := false, narrowed := true }
def TaleRunsUptoSaid : Prop := taleRunsUptoRow.holds Tryz.pinned (OpenSpec.upto taleRunsSpec)

end Rows
end Go.Proofs.YtcglbpjpbjaecaaGreat
