/-
  No cell of these rows narrows 'for every input' (looked for: loops, veiled, ifaces, maps, wideKeys, modest, calm, conditions, laid).
  DERIVED. THE GIVEN ROWS OF THIS SEAT. 12 by the template 'for every input the law returns true; each argument reads behind the call as it read before'; 0 by the template 'total and deterministic' (their statements: YtdhlolcpcgpcnaaTotals.lean).
  GIVEN WITH THE SEED: the statements are not yours to turn. If you find one false, say at which input.
  Laid BY PROGRAM, IN A SANDBOX (cutbox-rows.mjs): the forced cells as the released guide's own fill.sh prints them over the translation 2e36da8f91f6d725… (all of the seat's roots in one cut). By AI agents, Wed Nov 11 2026. No macro, syntax, notation, axiom, sorry.
-/
import Derived.Test.YtdhlolcpcgpcnaaChecked
import GoSem.Claim
import GoSem.ClaimJoined
import GoSem.ClaimMapViews
import Derived.JoinedTies
import Derived.KernelRfl
namespace Go.Proofs.Ytdhlolcpcgpcnaa
/- THE CELL 'sum', in the pinned program and in every row, IS THE sha256 OF THE DUMP (.gsa) THAT YtdhlolcpcgpcnaaProg.lean LOADS. Nothing in Lean hashes anything: it is a label: what it is worth is what the hold of that sum in a sandbox is worth. -/
noncomputable def Try.pinned : Pinned := { name := "ytdhlolcpcgpcnaa", sum := "2e36da8f91f6d725faabc0822df1bea30963a9bf1fdd4ae6c9501e6ec68af89b", checked := Try.checked }
namespace Rows
def none {H : Type} : Left H := { results := [], args := [] }

/-- 'varvelaw01.WordZigs': WHATEVER THE INPUT: true; the input reads as it did. -/
def wordZigsSpec : ChangeSpec := { name := "wordZigs", fn := fun _ => fun
  | [d1, d2] => { results := [.lit (.bool true)], args := [d1, d2] }
  | _ => none }
def wordZigsRow : OpenClaim := { program := "ytdhlolcpcgpcnaa", sum := "2e36da8f91f6d725faabc0822df1bea30963a9bf1fdd4ae6c9501e6ec68af89b", func := "varve/varvelaw01.WordZigs", spec := "wordZigs", apart := false }
def WordZigsSaid : Prop := wordZigsRow.holds Try.pinned (OpenSpec.ofChange wordZigsSpec)

/-- ITS FALSE NEIGHBOUR: 'it returns false'. Refute it at one input. -/
def wordZigsWrong : ChangeSpec := { name := "wordZigs", fn := fun _ => fun
  | [d1, d2] => { results := [.lit (.bool false)], args := [d1, d2] }
  | _ => none }
def WordZigsWrongFalsely : Prop := wordZigsRow.holds Try.pinned (OpenSpec.ofChange wordZigsWrong)

/-- 'varvelaw01.WordGets': WHATEVER THE INPUT: true; the input reads as it did. -/
def wordGetsSpec : ChangeSpec := { name := "wordGets", fn := fun _ => fun
  | [d1, d2, d3] => { results := [.lit (.bool true)], args := [d1, d2, d3] }
  | _ => none }
def wordGetsRow : OpenClaim := { program := "ytdhlolcpcgpcnaa", sum := "2e36da8f91f6d725faabc0822df1bea30963a9bf1fdd4ae6c9501e6ec68af89b", func := "varve/varvelaw01.WordGets", spec := "wordGets", apart := false }
def WordGetsSaid : Prop := wordGetsRow.holds Try.pinned (OpenSpec.ofChange wordGetsSpec)

/-- ITS FALSE NEIGHBOUR: 'it returns false'. Refute it at one input. -/
def wordGetsWrong : ChangeSpec := { name := "wordGets", fn := fun _ => fun
  | [d1, d2, d3] => { results := [.lit (.bool false)], args := [d1, d2, d3] }
  | _ => none }
def WordGetsWrongFalsely : Prop := wordGetsRow.holds Try.pinned (OpenSpec.ofChange wordGetsWrong)

/-- 'varvelaw01.WordShort': WHATEVER THE INPUT: true; the input reads as it did. -/
def wordShortSpec : ChangeSpec := { name := "wordShort", fn := fun _ => fun
  | [d1, d2] => { results := [.lit (.bool true)], args := [d1, d2] }
  | _ => none }
def wordShortRow : OpenClaim := { program := "ytdhlolcpcgpcnaa", sum := "2e36da8f91f6d725faabc0822df1bea30963a9bf1fdd4ae6c9501e6ec68af89b", func := "varve/varvelaw01.WordShort", spec := "wordShort", apart := false }
def WordShortSaid : Prop := wordShortRow.holds Try.pinned (OpenSpec.ofChange wordShortSpec)

/-- ITS FALSE NEIGHBOUR: 'it returns false'. Refute it at one input. -/
def wordShortWrong : ChangeSpec := { name := "wordShort", fn := fun _ => fun
  | [d1, d2] => { results := [.lit (.bool false)], args := [d1, d2] }
  | _ => none }
def WordShortWrongFalsely : Prop := wordShortRow.holds Try.pinned (OpenSpec.ofChange wordShortWrong)

/-- 'varvelaw01.WordPuts': WHATEVER THE INPUT: true; the input reads as it did. -/
def wordPutsSpec : ChangeSpec := { name := "wordPuts", fn := fun _ => fun
  | [d1, d2] => { results := [.lit (.bool true)], args := [d1, d2] }
  | _ => none }
def wordPutsRow : OpenClaim := { program := "ytdhlolcpcgpcnaa", sum := "2e36da8f91f6d725faabc0822df1bea30963a9bf1fdd4ae6c9501e6ec68af89b", func := "varve/varvelaw01.WordPuts", spec := "wordPuts", apart := false }
def WordPutsSaid : Prop := wordPutsRow.holds Try.pinned (OpenSpec.ofChange wordPutsSpec)

/-- ITS FALSE NEIGHBOUR: 'it returns false'. Refute it at one input. -/
def wordPutsWrong : ChangeSpec := { name := "wordPuts", fn := fun _ => fun
  | [d1, d2] => { results := [.lit (.bool false)], args := [d1, d2] }
  | _ => none }
def WordPutsWrongFalsely : Prop := wordPutsRow.holds Try.pinned (OpenSpec.ofChange wordPutsWrong)

/-- 'varvelaw01.WordVars': WHATEVER THE INPUT: true; the input reads as it did. -/
def wordVarsSpec : ChangeSpec := { name := "wordVars", fn := fun _ => fun
  | [d1, d2, d3] => { results := [.lit (.bool true)], args := [d1, d2, d3] }
  | _ => none }
def wordVarsRow : OpenClaim := { program := "ytdhlolcpcgpcnaa", sum := "2e36da8f91f6d725faabc0822df1bea30963a9bf1fdd4ae6c9501e6ec68af89b", func := "varve/varvelaw01.WordVars", spec := "wordVars", recurses := true, apart := false }
def WordVarsSaid : Prop := wordVarsRow.holds Try.pinned (OpenSpec.ofChange wordVarsSpec)

/-- ITS FALSE NEIGHBOUR: 'it returns false'. Refute it at one input. -/
def wordVarsWrong : ChangeSpec := { name := "wordVars", fn := fun _ => fun
  | [d1, d2, d3] => { results := [.lit (.bool false)], args := [d1, d2, d3] }
  | _ => none }
def WordVarsWrongFalsely : Prop := wordVarsRow.holds Try.pinned (OpenSpec.ofChange wordVarsWrong)

/-- 'varvelaw01.WordJoined': WHATEVER THE INPUT: true; the input reads as it did. -/
def wordJoinedSpec : ChangeSpec := { name := "wordJoined", fn := fun _ => fun
  | [d1, d2, d3] => { results := [.lit (.bool true)], args := [d1, d2, d3] }
  | _ => none }
def wordJoinedRow : OpenClaim := { program := "ytdhlolcpcgpcnaa", sum := "2e36da8f91f6d725faabc0822df1bea30963a9bf1fdd4ae6c9501e6ec68af89b", func := "varve/varvelaw01.WordJoined", spec := "wordJoined", apart := false }
def WordJoinedSaid : Prop := wordJoinedRow.holds Try.pinned (OpenSpec.ofChange wordJoinedSpec)

/-- ITS FALSE NEIGHBOUR: 'it returns false'. Refute it at one input. -/
def wordJoinedWrong : ChangeSpec := { name := "wordJoined", fn := fun _ => fun
  | [d1, d2, d3] => { results := [.lit (.bool false)], args := [d1, d2, d3] }
  | _ => none }
def WordJoinedWrongFalsely : Prop := wordJoinedRow.holds Try.pinned (OpenSpec.ofChange wordJoinedWrong)

/-- 'varvelaw01.WordBack': WHATEVER THE INPUT: true; the input reads as it did. -/
def wordBackSpec : ChangeSpec := { name := "wordBack", fn := fun _ => fun
  | [d1, d2, d3, d4] => { results := [.lit (.bool true)], args := [d1, d2, d3, d4] }
  | _ => none }
def wordBackRow : OpenClaim := { program := "ytdhlolcpcgpcnaa", sum := "2e36da8f91f6d725faabc0822df1bea30963a9bf1fdd4ae6c9501e6ec68af89b", func := "varve/varvelaw01.WordBack", spec := "wordBack", apart := false }
def WordBackSaid : Prop := wordBackRow.holds Try.pinned (OpenSpec.ofChange wordBackSpec)

/-- ITS FALSE NEIGHBOUR: 'it returns false'. Refute it at one input. -/
def wordBackWrong : ChangeSpec := { name := "wordBack", fn := fun _ => fun
  | [d1, d2, d3, d4] => { results := [.lit (.bool false)], args := [d1, d2, d3, d4] }
  | _ => none }
def WordBackWrongFalsely : Prop := wordBackRow.holds Try.pinned (OpenSpec.ofChange wordBackWrong)

/-- 'varvelaw08.RecEncodes': WHATEVER THE INPUT: true; the input reads as it did. -/
def recEncodesSpec : ChangeSpec := { name := "recEncodes", fn := fun _ => fun
  | [d] => { results := [.lit (.bool true)], args := [d] }
  | _ => none }
def recEncodesRow : OpenClaim := { program := "ytdhlolcpcgpcnaa", sum := "2e36da8f91f6d725faabc0822df1bea30963a9bf1fdd4ae6c9501e6ec68af89b", func := "varve/varvelaw08.RecEncodes", spec := "recEncodes", apart := false }
def RecEncodesSaid : Prop := recEncodesRow.holds Try.pinned (OpenSpec.ofChange recEncodesSpec)

/-- ITS FALSE NEIGHBOUR: 'it returns false'. Refute it at one input. -/
def recEncodesWrong : ChangeSpec := { name := "recEncodes", fn := fun _ => fun
  | [d] => { results := [.lit (.bool false)], args := [d] }
  | _ => none }
def RecEncodesWrongFalsely : Prop := recEncodesRow.holds Try.pinned (OpenSpec.ofChange recEncodesWrong)

/-- 'varvelaw08.RecUnlike': WHATEVER THE INPUT: true; the input reads as it did. -/
def recUnlikeSpec : ChangeSpec := { name := "recUnlike", fn := fun _ => fun
  | [d1, d2] => { results := [.lit (.bool true)], args := [d1, d2] }
  | _ => none }
def recUnlikeRow : OpenClaim := { program := "ytdhlolcpcgpcnaa", sum := "2e36da8f91f6d725faabc0822df1bea30963a9bf1fdd4ae6c9501e6ec68af89b", func := "varve/varvelaw08.RecUnlike", spec := "recUnlike", apart := false }
def RecUnlikeSaid : Prop := recUnlikeRow.holds Try.pinned (OpenSpec.ofChange recUnlikeSpec)

/-- ITS FALSE NEIGHBOUR: 'it returns false'. Refute it at one input. -/
def recUnlikeWrong : ChangeSpec := { name := "recUnlike", fn := fun _ => fun
  | [d1, d2] => { results := [.lit (.bool false)], args := [d1, d2] }
  | _ => none }
def RecUnlikeWrongFalsely : Prop := recUnlikeRow.holds Try.pinned (OpenSpec.ofChange recUnlikeWrong)

/-- 'varvelaw08.RecDecodes': WHATEVER THE INPUT: true; the input reads as it did. -/
def recDecodesSpec : ChangeSpec := { name := "recDecodes", fn := fun _ => fun
  | [d] => { results := [.lit (.bool true)], args := [d] }
  | _ => none }
def recDecodesRow : OpenClaim := { program := "ytdhlolcpcgpcnaa", sum := "2e36da8f91f6d725faabc0822df1bea30963a9bf1fdd4ae6c9501e6ec68af89b", func := "varve/varvelaw08.RecDecodes", spec := "recDecodes", unfollowed := true, recurses := true, apart := false }
def RecDecodesSaid : Prop := recDecodesRow.holds Try.pinned (OpenSpec.ofChange recDecodesSpec)

/-- ITS FALSE NEIGHBOUR: 'it returns false'. Refute it at one input. -/
def recDecodesWrong : ChangeSpec := { name := "recDecodes", fn := fun _ => fun
  | [d] => { results := [.lit (.bool false)], args := [d] }
  | _ => none }
def RecDecodesWrongFalsely : Prop := recDecodesRow.holds Try.pinned (OpenSpec.ofChange recDecodesWrong)

/-- 'varvelaw08.RecBack': WHATEVER THE INPUT: true; the input reads as it did. -/
def recBackSpec : ChangeSpec := { name := "recBack", fn := fun _ => fun
  | [d1, d2] => { results := [.lit (.bool true)], args := [d1, d2] }
  | _ => none }
def recBackRow : OpenClaim := { program := "ytdhlolcpcgpcnaa", sum := "2e36da8f91f6d725faabc0822df1bea30963a9bf1fdd4ae6c9501e6ec68af89b", func := "varve/varvelaw08.RecBack", spec := "recBack", unfollowed := true, recurses := true, apart := false }
def RecBackSaid : Prop := recBackRow.holds Try.pinned (OpenSpec.ofChange recBackSpec)

/-- ITS FALSE NEIGHBOUR: 'it returns false'. Refute it at one input. -/
def recBackWrong : ChangeSpec := { name := "recBack", fn := fun _ => fun
  | [d1, d2] => { results := [.lit (.bool false)], args := [d1, d2] }
  | _ => none }
def RecBackWrongFalsely : Prop := recBackRow.holds Try.pinned (OpenSpec.ofChange recBackWrong)

/-- 'varvelaw08.RecCut': WHATEVER THE INPUT: true; the input reads as it did. -/
def recCutSpec : ChangeSpec := { name := "recCut", fn := fun _ => fun
  | [d1, d2, d3] => { results := [.lit (.bool true)], args := [d1, d2, d3] }
  | _ => none }
def recCutRow : OpenClaim := { program := "ytdhlolcpcgpcnaa", sum := "2e36da8f91f6d725faabc0822df1bea30963a9bf1fdd4ae6c9501e6ec68af89b", func := "varve/varvelaw08.RecCut", spec := "recCut", unfollowed := true, recurses := true, apart := false }
def RecCutSaid : Prop := recCutRow.holds Try.pinned (OpenSpec.ofChange recCutSpec)

/-- ITS FALSE NEIGHBOUR: 'it returns false'. Refute it at one input. -/
def recCutWrong : ChangeSpec := { name := "recCut", fn := fun _ => fun
  | [d1, d2, d3] => { results := [.lit (.bool false)], args := [d1, d2, d3] }
  | _ => none }
def RecCutWrongFalsely : Prop := recCutRow.holds Try.pinned (OpenSpec.ofChange recCutWrong)

/- THE SECOND FORM. 'bulk': how many values and letters a reading holds, each counted each time it is reached (what is shared counts as often as it is met; a slice's spare places count too). A statement '..UptoSaid' is the law's where the arguments, and the package variables that the reading takes, are together of bulk at most 1048576: NARROWER than '..Said'. Prove '..Said' where nothing that the law and all that it calls make is longer than what came in: it says more and counts as full. Else prove '..UptoSaid'. A law counts once. -/
mutual
def uptoBulk {H : Type} : DataW H → Nat
  | .lit (.string bytes) => bytes.length + 1
  | .lit _ => 1
  | .nil => 1
  | .ptr d => uptoBulk d + 1
  | .slice elems spare => uptoBulkAll elems + uptoBulkAll spare + 1
  | .agg parts => uptoBulkAll parts + 1
  | .iface _ d => uptoBulk d + 1
  | .map entries => uptoBulkEntries entries + 1
  | .held _ => 1
def uptoBulkAll {H : Type} : List (DataW H) → Nat
  | [] => 0
  | d :: r => uptoBulk d + uptoBulkAll r
def uptoBulkEntries {H : Type} : List (Lit × DataW H) → Nat
  | [] => 0
  | x :: r => uptoBulkEntry x + uptoBulkEntries r
def uptoBulkEntry {H : Type} : Lit × DataW H → Nat
  | (.string bytes, d) => bytes.length + uptoBulk d + 1
  | (_, d) => uptoBulk d + 1
 end
def uptoSmall : (H : Type) → List (DataW H) → Bool := fun _ ds => decide (uptoBulkAll ds ≤ 1048576)
def OpenSpec.upto (s : _root_.Go.ChangeSpec) : _root_.Go.OpenSpec := { _root_.Go.OpenSpec.ofChange s with cond := some uptoSmall }

/-- 'varvelaw01.WordZigs', WHERE WHAT IT READS IS OF BULK AT MOST 1048576: true; the input reads as it did. -/
def wordZigsUptoRow : OpenClaim := { program := "ytdhlolcpcgpcnaa", sum := "2e36da8f91f6d725faabc0822df1bea30963a9bf1fdd4ae6c9501e6ec68af89b", func := "varve/varvelaw01.WordZigs", spec := "wordZigs", apart := false, narrowed := true }
def WordZigsUptoSaid : Prop := wordZigsUptoRow.holds Try.pinned (OpenSpec.upto wordZigsSpec)

/-- 'varvelaw01.WordGets', WHERE WHAT IT READS IS OF BULK AT MOST 1048576: true; the input reads as it did. -/
def wordGetsUptoRow : OpenClaim := { program := "ytdhlolcpcgpcnaa", sum := "2e36da8f91f6d725faabc0822df1bea30963a9bf1fdd4ae6c9501e6ec68af89b", func := "varve/varvelaw01.WordGets", spec := "wordGets", apart := false, narrowed := true }
def WordGetsUptoSaid : Prop := wordGetsUptoRow.holds Try.pinned (OpenSpec.upto wordGetsSpec)

/-- 'varvelaw01.WordShort', WHERE WHAT IT READS IS OF BULK AT MOST 1048576: true; the input reads as it did. -/
def wordShortUptoRow : OpenClaim := { program := "ytdhlolcpcgpcnaa", sum := "2e36da8f91f6d725faabc0822df1bea30963a9bf1fdd4ae6c9501e6ec68af89b", func := "varve/varvelaw01.WordShort", spec := "wordShort", apart := false, narrowed := true }
def WordShortUptoSaid : Prop := wordShortUptoRow.holds Try.pinned (OpenSpec.upto wordShortSpec)

/-- 'varvelaw01.WordPuts', WHERE WHAT IT READS IS OF BULK AT MOST 1048576: true; the input reads as it did. -/
def wordPutsUptoRow : OpenClaim := { program := "ytdhlolcpcgpcnaa", sum := "2e36da8f91f6d725faabc0822df1bea30963a9bf1fdd4ae6c9501e6ec68af89b", func := "varve/varvelaw01.WordPuts", spec := "wordPuts", apart := false, narrowed := true }
def WordPutsUptoSaid : Prop := wordPutsUptoRow.holds Try.pinned (OpenSpec.upto wordPutsSpec)

/-- 'varvelaw01.WordVars', WHERE WHAT IT READS IS OF BULK AT MOST 1048576: true; the input reads as it did. -/
def wordVarsUptoRow : OpenClaim := { program := "ytdhlolcpcgpcnaa", sum := "2e36da8f91f6d725faabc0822df1bea30963a9bf1fdd4ae6c9501e6ec68af89b", func := "varve/varvelaw01.WordVars", spec := "wordVars", recurses := true, apart := false, narrowed := true }
def WordVarsUptoSaid : Prop := wordVarsUptoRow.holds Try.pinned (OpenSpec.upto wordVarsSpec)

/-- 'varvelaw01.WordJoined', WHERE WHAT IT READS IS OF BULK AT MOST 1048576: true; the input reads as it did. -/
def wordJoinedUptoRow : OpenClaim := { program := "ytdhlolcpcgpcnaa", sum := "2e36da8f91f6d725faabc0822df1bea30963a9bf1fdd4ae6c9501e6ec68af89b", func := "varve/varvelaw01.WordJoined", spec := "wordJoined", apart := false, narrowed := true }
def WordJoinedUptoSaid : Prop := wordJoinedUptoRow.holds Try.pinned (OpenSpec.upto wordJoinedSpec)

/-- 'varvelaw01.WordBack', WHERE WHAT IT READS IS OF BULK AT MOST 1048576: true; the input reads as it did. -/
def wordBackUptoRow : OpenClaim := { program := "ytdhlolcpcgpcnaa", sum := "2e36da8f91f6d725faabc0822df1bea30963a9bf1fdd4ae6c9501e6ec68af89b", func := "varve/varvelaw01.WordBack", spec := "wordBack", apart := false, narrowed := true }
def WordBackUptoSaid : Prop := wordBackUptoRow.holds Try.pinned (OpenSpec.upto wordBackSpec)

/-- 'varvelaw08.RecEncodes', WHERE WHAT IT READS IS OF BULK AT MOST 1048576: true; the input reads as it did. -/
def recEncodesUptoRow : OpenClaim := { program := "ytdhlolcpcgpcnaa", sum := "2e36da8f91f6d725faabc0822df1bea30963a9bf1fdd4ae6c9501e6ec68af89b", func := "varve/varvelaw08.RecEncodes", spec := "recEncodes", apart := false, narrowed := true }
def RecEncodesUptoSaid : Prop := recEncodesUptoRow.holds Try.pinned (OpenSpec.upto recEncodesSpec)

/-- 'varvelaw08.RecUnlike', WHERE WHAT IT READS IS OF BULK AT MOST 1048576: true; the input reads as it did. -/
def recUnlikeUptoRow : OpenClaim := { program := "ytdhlolcpcgpcnaa", sum := "2e36da8f91f6d725faabc0822df1bea30963a9bf1fdd4ae6c9501e6ec68af89b", func := "varve/varvelaw08.RecUnlike", spec := "recUnlike", apart := false, narrowed := true }
def RecUnlikeUptoSaid : Prop := recUnlikeUptoRow.holds Try.pinned (OpenSpec.upto recUnlikeSpec)

/-- 'varvelaw08.RecDecodes', WHERE WHAT IT READS IS OF BULK AT MOST 1048576: true; the input reads as it did. -/
def recDecodesUptoRow : OpenClaim := { program := "ytdhlolcpcgpcnaa", sum := "2e36da8f91f6d725faabc0822df1bea30963a9bf1fdd4ae6c9501e6ec68af89b", func := "varve/varvelaw08.RecDecodes", spec := "recDecodes", unfollowed := true, recurses := true, apart := false, narrowed := true }
def RecDecodesUptoSaid : Prop := recDecodesUptoRow.holds Try.pinned (OpenSpec.upto recDecodesSpec)

/-- 'varvelaw08.RecBack', WHERE WHAT IT READS IS OF BULK AT MOST 1048576: true; the input reads as it did. -/
def recBackUptoRow : OpenClaim := { program := "ytdhlolcpcgpcnaa", sum := "2e36da8f91f6d725faabc0822df1bea30963a9bf1fdd4ae6c9501e6ec68af89b", func := "varve/varvelaw08.RecBack", spec := "recBack", unfollowed := true, recurses := true, apart := false, narrowed := true }
def RecBackUptoSaid : Prop := recBackUptoRow.holds Try.pinned (OpenSpec.upto recBackSpec)

/-- 'varvelaw08.RecCut', WHERE WHAT IT READS IS OF BULK AT MOST 1048576: true; the input reads as it did. -/
def recCutUptoRow : OpenClaim := { program := "ytdhlolcpcgpcnaa", sum := "2e36da8f91f6d725faabc0822df1bea30963a9bf1fdd4ae6c9501e6ec68af89b", func := "varve/varvelaw08.RecCut", spec := "recCut", unfollowed := true, recurses := true, apart := false, narrowed := true }
def RecCutUptoSaid : Prop := recCutUptoRow.holds Try.pinned (OpenSpec.upto recCutSpec)

end Rows
end Go.Proofs.Ytdhlolcpcgpcnaa
