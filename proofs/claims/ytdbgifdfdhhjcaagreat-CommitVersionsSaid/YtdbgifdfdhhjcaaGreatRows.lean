/-
  No cell of these rows narrows 'for every input' (looked for: loops, veiled, ifaces, maps, wideKeys, modest, calm, conditions, laid).
  DERIVED. THE GIVEN ROWS OF THIS SEAT. 8 by the template 'for every input the law returns true; each argument reads behind the call as it read before'; 0 by the template 'total and deterministic' (their statements: YtdbgifdfdhhjcaaGreatTotals.lean).
  GIVEN WITH THE SEED: the statements are not yours to turn. If you find one false, say at which input.
  Laid BY PROGRAM, IN A SANDBOX (cutbox-rows.mjs): the forced cells as the released guide's own fill.sh prints them over the translation 217b8542c502fc2d… (all of the seat's roots in one cut). By AI agents, Wed Nov 11 2026. No macro, syntax, notation, axiom, sorry.
-/
import Derived.Test.YtdbgifdfdhhjcaaGreatChecked
import GoSem.Claim
import GoSem.ClaimJoined
import GoSem.ClaimMapViews
import Derived.JoinedTies
import Derived.KernelRfl
namespace Go.Proofs.YtdbgifdfdhhjcaaGreat
/- THE CELL 'sum', in the pinned program and in every row, IS THE sha256 OF THE DUMP (.gsa) THAT YtdbgifdfdhhjcaaGreatProg.lean LOADS. Nothing in Lean hashes anything: it is a label: what it is worth is what the hold of that sum in a sandbox is worth. -/
noncomputable def Tryz.pinned : Pinned := { name := "ytdbgifdfdhhjcaagreat", sum := "217b8542c502fc2d012d100304666d1d78f4c35e5d616503c241be819292eca5", checked := Tryz.checked }
namespace Rows
def none {H : Type} : Left H := { results := [], args := [] }

/-- 'varvelaw20.BaseChanges': WHATEVER THE INPUT: true; the input reads as it did. -/
def baseChangesSpec : ChangeSpec := { name := "baseChanges", fn := fun _ => fun
  | [d1, d2] => { results := [.lit (.bool true)], args := [d1, d2] }
  | _ => none }
def baseChangesRow : OpenClaim := { program := "ytdbgifdfdhhjcaagreat", sum := "217b8542c502fc2d012d100304666d1d78f4c35e5d616503c241be819292eca5", func := "varve/varvelaw20.BaseChanges", spec := "baseChanges", unfollowed := true, recurses := true, plainKeys := false, apart := false }
def BaseChangesSaid : Prop := baseChangesRow.holds Tryz.pinned (OpenSpec.ofChange baseChangesSpec)

/-- ITS FALSE NEIGHBOUR: 'it returns false'. Refute it at one input. -/
def baseChangesWrong : ChangeSpec := { name := "baseChanges", fn := fun _ => fun
  | [d1, d2] => { results := [.lit (.bool false)], args := [d1, d2] }
  | _ => none }
def BaseChangesWrongFalsely : Prop := baseChangesRow.holds Tryz.pinned (OpenSpec.ofChange baseChangesWrong)

/-- 'varvelaw21.CommitVersions': WHATEVER THE INPUT: true; the input reads as it did. -/
def commitVersionsSpec : ChangeSpec := { name := "commitVersions", fn := fun _ => fun
  | [d1, d2, d3] => { results := [.lit (.bool true)], args := [d1, d2, d3] }
  | _ => none }
def commitVersionsRow : OpenClaim := { program := "ytdbgifdfdhhjcaagreat", sum := "217b8542c502fc2d012d100304666d1d78f4c35e5d616503c241be819292eca5", func := "varve/varvelaw21.CommitVersions", spec := "commitVersions", unfollowed := true, recurses := true, plainKeys := false, apart := false }
def CommitVersionsSaid : Prop := commitVersionsRow.holds Tryz.pinned (OpenSpec.ofChange commitVersionsSpec)

/-- ITS FALSE NEIGHBOUR: 'it returns false'. Refute it at one input. -/
def commitVersionsWrong : ChangeSpec := { name := "commitVersions", fn := fun _ => fun
  | [d1, d2, d3] => { results := [.lit (.bool false)], args := [d1, d2, d3] }
  | _ => none }
def CommitVersionsWrongFalsely : Prop := commitVersionsRow.holds Tryz.pinned (OpenSpec.ofChange commitVersionsWrong)

/-- 'varvelaw21.CommitPops': WHATEVER THE INPUT: true; the input reads as it did. -/
def commitPopsSpec : ChangeSpec := { name := "commitPops", fn := fun _ => fun
  | [d1, d2, d3, d4] => { results := [.lit (.bool true)], args := [d1, d2, d3, d4] }
  | _ => none }
def commitPopsRow : OpenClaim := { program := "ytdbgifdfdhhjcaagreat", sum := "217b8542c502fc2d012d100304666d1d78f4c35e5d616503c241be819292eca5", func := "varve/varvelaw21.CommitPops", spec := "commitPops", unfollowed := true, recurses := true, plainKeys := false, apart := false }
def CommitPopsSaid : Prop := commitPopsRow.holds Tryz.pinned (OpenSpec.ofChange commitPopsSpec)

/-- ITS FALSE NEIGHBOUR: 'it returns false'. Refute it at one input. -/
def commitPopsWrong : ChangeSpec := { name := "commitPops", fn := fun _ => fun
  | [d1, d2, d3, d4] => { results := [.lit (.bool false)], args := [d1, d2, d3, d4] }
  | _ => none }
def CommitPopsWrongFalsely : Prop := commitPopsRow.holds Tryz.pinned (OpenSpec.ofChange commitPopsWrong)

/-- 'varvelaw21.CommitFull': WHATEVER THE INPUT: true; the input reads as it did. -/
def commitFullSpec : ChangeSpec := { name := "commitFull", fn := fun _ => fun
  | [d] => { results := [.lit (.bool true)], args := [d] }
  | _ => none }
def commitFullRow : OpenClaim := { program := "ytdbgifdfdhhjcaagreat", sum := "217b8542c502fc2d012d100304666d1d78f4c35e5d616503c241be819292eca5", func := "varve/varvelaw21.CommitFull", spec := "commitFull", unfollowed := true, recurses := true, plainKeys := false, apart := false }
def CommitFullSaid : Prop := commitFullRow.holds Tryz.pinned (OpenSpec.ofChange commitFullSpec)

/-- ITS FALSE NEIGHBOUR: 'it returns false'. Refute it at one input. -/
def commitFullWrong : ChangeSpec := { name := "commitFull", fn := fun _ => fun
  | [d] => { results := [.lit (.bool false)], args := [d] }
  | _ => none }
def CommitFullWrongFalsely : Prop := commitFullRow.holds Tryz.pinned (OpenSpec.ofChange commitFullWrong)

/-- 'varvelaw21.CommitFails': WHATEVER THE INPUT: true; the input reads as it did. -/
def commitFailsSpec : ChangeSpec := { name := "commitFails", fn := fun _ => fun
  | [d1, d2, d3, d4] => { results := [.lit (.bool true)], args := [d1, d2, d3, d4] }
  | _ => none }
def commitFailsRow : OpenClaim := { program := "ytdbgifdfdhhjcaagreat", sum := "217b8542c502fc2d012d100304666d1d78f4c35e5d616503c241be819292eca5", func := "varve/varvelaw21.CommitFails", spec := "commitFails", unfollowed := true, recurses := true, plainKeys := false, apart := false }
def CommitFailsSaid : Prop := commitFailsRow.holds Tryz.pinned (OpenSpec.ofChange commitFailsSpec)

/-- ITS FALSE NEIGHBOUR: 'it returns false'. Refute it at one input. -/
def commitFailsWrong : ChangeSpec := { name := "commitFails", fn := fun _ => fun
  | [d1, d2, d3, d4] => { results := [.lit (.bool false)], args := [d1, d2, d3, d4] }
  | _ => none }
def CommitFailsWrongFalsely : Prop := commitFailsRow.holds Tryz.pinned (OpenSpec.ofChange commitFailsWrong)

/-- 'varvelaw20.BaseImages': WHATEVER THE INPUT: true; the input reads as it did. -/
def baseImagesSpec : ChangeSpec := { name := "baseImages", fn := fun _ => fun
  | [d] => { results := [.lit (.bool true)], args := [d] }
  | _ => none }
def baseImagesRow : OpenClaim := { program := "ytdbgifdfdhhjcaagreat", sum := "217b8542c502fc2d012d100304666d1d78f4c35e5d616503c241be819292eca5", func := "varve/varvelaw20.BaseImages", spec := "baseImages", unfollowed := true, recurses := true, plainKeys := false, apart := false }
def BaseImagesSaid : Prop := baseImagesRow.holds Tryz.pinned (OpenSpec.ofChange baseImagesSpec)

/-- ITS FALSE NEIGHBOUR: 'it returns false'. Refute it at one input. -/
def baseImagesWrong : ChangeSpec := { name := "baseImages", fn := fun _ => fun
  | [d] => { results := [.lit (.bool false)], args := [d] }
  | _ => none }
def BaseImagesWrongFalsely : Prop := baseImagesRow.holds Tryz.pinned (OpenSpec.ofChange baseImagesWrong)

/-- 'varvelaw20.BaseCrash': WHATEVER THE INPUT: true; the input reads as it did. -/
def baseCrashSpec : ChangeSpec := { name := "baseCrash", fn := fun _ => fun
  | [d1, d2, d3] => { results := [.lit (.bool true)], args := [d1, d2, d3] }
  | _ => none }
def baseCrashRow : OpenClaim := { program := "ytdbgifdfdhhjcaagreat", sum := "217b8542c502fc2d012d100304666d1d78f4c35e5d616503c241be819292eca5", func := "varve/varvelaw20.BaseCrash", spec := "baseCrash", unfollowed := true, recurses := true, plainKeys := false, apart := false }
def BaseCrashSaid : Prop := baseCrashRow.holds Tryz.pinned (OpenSpec.ofChange baseCrashSpec)

/-- ITS FALSE NEIGHBOUR: 'it returns false'. Refute it at one input. -/
def baseCrashWrong : ChangeSpec := { name := "baseCrash", fn := fun _ => fun
  | [d1, d2, d3] => { results := [.lit (.bool false)], args := [d1, d2, d3] }
  | _ => none }
def BaseCrashWrongFalsely : Prop := baseCrashRow.holds Tryz.pinned (OpenSpec.ofChange baseCrashWrong)

/-- 'varvelaw20.BaseLasts': WHATEVER THE INPUT: true; the input reads as it did. -/
def baseLastsSpec : ChangeSpec := { name := "baseLasts", fn := fun _ => fun
  | [d1, d2, d3, d4] => { results := [.lit (.bool true)], args := [d1, d2, d3, d4] }
  | _ => none }
def baseLastsRow : OpenClaim := { program := "ytdbgifdfdhhjcaagreat", sum := "217b8542c502fc2d012d100304666d1d78f4c35e5d616503c241be819292eca5", func := "varve/varvelaw20.BaseLasts", spec := "baseLasts", unfollowed := true, recurses := true, plainKeys := false, apart := false }
def BaseLastsSaid : Prop := baseLastsRow.holds Tryz.pinned (OpenSpec.ofChange baseLastsSpec)

/-- ITS FALSE NEIGHBOUR: 'it returns false'. Refute it at one input. -/
def baseLastsWrong : ChangeSpec := { name := "baseLasts", fn := fun _ => fun
  | [d1, d2, d3, d4] => { results := [.lit (.bool false)], args := [d1, d2, d3, d4] }
  | _ => none }
def BaseLastsWrongFalsely : Prop := baseLastsRow.holds Tryz.pinned (OpenSpec.ofChange baseLastsWrong)

/- THE SECOND FORM. 'bulk': how many values and letters a reading holds, each counted each time it is reached (what is shared counts as often as it is met; a slice's spare places count too). A statement '..UptoSaid' is the law's where the arguments, and the package variables that the reading takes, are together of bulk at most 1048576: NARROWER than '..Said'. Prove '..Said' where nothing that the law and all that it calls make is longer than what came in: it says more and counts as full. Else prove '..UptoSaid'. A law counts once. -/
mutual
def uptoBulk {H : Type} : DataW H → Nat
  | .lit (.string bytes) => bytes.length + 1
  | .lit _ => 1
  | .nil => 1
  | .ptr d => uptoBulk d + 1
  | .slice elems spare => uptoBulkAll elems + uptoBulkAll spare + 1
  | .agg parts => uptoBulkAll parts + 1
  | .iface _ d => uptoBulk d + 1
  | .map entries => uptoBulkEntries entries + 1
  | .held _ => 1
def uptoBulkAll {H : Type} : List (DataW H) → Nat
  | [] => 0
  | d :: r => uptoBulk d + uptoBulkAll r
def uptoBulkEntries {H : Type} : List (Lit × DataW H) → Nat
  | [] => 0
  | x :: r => uptoBulkEntry x + uptoBulkEntries r
def uptoBulkEntry {H : Type} : Lit × DataW H → Nat
  | (.string bytes, d) => bytes.length + uptoBulk d + 1
  | (_, d) => uptoBulk d + 1
 end
def uptoSmall : (H : Type) → List (DataW H) → Bool := fun _ ds => decide (uptoBulkAll ds ≤ 1048576)
def OpenSpec.upto (s : _root_.Go.ChangeSpec) : _root_.Go.OpenSpec := { _root_.Go.OpenSpec.ofChange s with cond := some uptoSmall }

/-- 'varvelaw20.BaseChanges', WHERE WHAT IT READS IS OF BULK AT MOST 1048576: true; the input reads as it did. -/
def baseChangesUptoRow : OpenClaim := { program := "ytdbgifdfdhhjcaagreat", sum := "217b8542c502fc2d012d100304666d1d78f4c35e5d616503c241be819292eca5", func := "varve/varvelaw20.BaseChanges", spec := "baseChanges", unfollowed := true, recurses := true, plainKeys := false, apart := false, narrowed := true }
def BaseChangesUptoSaid : Prop := baseChangesUptoRow.holds Tryz.pinned (OpenSpec.upto baseChangesSpec)

/-- 'varvelaw21.CommitVersions', WHERE WHAT IT READS IS OF BULK AT MOST 1048576: true; the input reads as it did. -/
def commitVersionsUptoRow : OpenClaim := { program := "ytdbgifdfdhhjcaagreat", sum := "217b8542c502fc2d012d100304666d1d78f4c35e5d616503c241be819292eca5", func := "varve/varvelaw21.CommitVersions", spec := "commitVersions", unfollowed := true, recurses := true, plainKeys := false, apart := false, narrowed := true }
def CommitVersionsUptoSaid : Prop := commitVersionsUptoRow.holds Tryz.pinned (OpenSpec.upto commitVersionsSpec)

/-- 'varvelaw21.CommitPops', WHERE WHAT IT READS IS OF BULK AT MOST 1048576: true; the input reads as it did. -/
def commitPopsUptoRow : OpenClaim := { program := "ytdbgifdfdhhjcaagreat", sum := "217b8542c502fc2d012d100304666d1d78f4c35e5d616503c241be819292eca5", func := "varve/varvelaw21.CommitPops", spec := "commitPops", unfollowed := true, recurses := true, plainKeys := false, apart := false, narrowed := true }
def CommitPopsUptoSaid : Prop := commitPopsUptoRow.holds Tryz.pinned (OpenSpec.upto commitPopsSpec)

/-- 'varvelaw21.CommitFull', WHERE WHAT IT READS IS OF BULK AT MOST 1048576: true; the input reads as it did. -/
def commitFullUptoRow : OpenClaim := { program := "ytdbgifdfdhhjcaagreat", sum := "217b8542c502fc2d012d100304666d1d78f4c35e5d616503c241be819292eca5", func := "varve/varvelaw21.CommitFull", spec := "commitFull", unfollowed := true, recurses := true, plainKeys := false, apart := false, narrowed := true }
def CommitFullUptoSaid : Prop := commitFullUptoRow.holds Tryz.pinned (OpenSpec.upto commitFullSpec)

/-- 'varvelaw21.CommitFails', WHERE WHAT IT READS IS OF BULK AT MOST 1048576: true; the input reads as it did. -/
def commitFailsUptoRow : OpenClaim := { program := "ytdbgifdfdhhjcaagreat", sum := "217b8542c502fc2d012d100304666d1d78f4c35e5d616503c241be819292eca5", func := "varve/varvelaw21.CommitFails", spec := "commitFails", unfollowed := true, recurses := true, plainKeys := false, apart := false, narrowed := true }
def CommitFailsUptoSaid : Prop := commitFailsUptoRow.holds Tryz.pinned (OpenSpec.upto commitFailsSpec)

/-- 'varvelaw20.BaseImages', WHERE WHAT IT READS IS OF BULK AT MOST 1048576: true; the input reads as it did. -/
def baseImagesUptoRow : OpenClaim := { program := "ytdbgifdfdhhjcaagreat", sum := "217b8542c502fc2d012d100304666d1d78f4c35e5d616503c241be819292eca5", func := "varve/varvelaw20.BaseImages", spec := "baseImages", unfollowed := true, recurses := true, plainKeys := false, apart := false, narrowed := true }
def BaseImagesUptoSaid : Prop := baseImagesUptoRow.holds Tryz.pinned (OpenSpec.upto baseImagesSpec)

/-- 'varvelaw20.BaseCrash', WHERE WHAT IT READS IS OF BULK AT MOST 1048576: true; the input reads as it did. -/
def baseCrashUptoRow : OpenClaim := { program := "ytdbgifdfdhhjcaagreat", sum := "217b8542c502fc2d012d100304666d1d78f4c35e5d616503c241be819292eca5", func := "varve/varvelaw20.BaseCrash", spec := "baseCrash", unfollowed := true, recurses := true, plainKeys := false, apart := false, narrowed := true }
def BaseCrashUptoSaid : Prop := baseCrashUptoRow.holds Tryz.pinned (OpenSpec.upto baseCrashSpec)

/-- 'varvelaw20.BaseLasts', WHERE WHAT IT READS IS OF BULK AT MOST 1048576: true; the input reads as it did. -/
def baseLastsUptoRow : OpenClaim := { program := "ytdbgifdfdhhjcaagreat", sum := "217b8542c502fc2d012d100304666d1d78f4c35e5d616503c241be819292eca5", func := "varve/varvelaw20.BaseLasts", spec := "baseLasts", unfollowed := true, recurses := true, plainKeys := false, apart := false, narrowed := true }
def BaseLastsUptoSaid : Prop := baseLastsUptoRow.holds Tryz.pinned (OpenSpec.upto baseLastsSpec)

end Rows
end Go.Proofs.YtdbgifdfdhhjcaaGreat
