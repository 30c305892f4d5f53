/-
  No cell of these rows narrows 'for every input' (looked for: loops, veiled, ifaces, maps, wideKeys, modest, calm, conditions, laid).
  DERIVED. THE GIVEN ROWS OF THIS SEAT. 14 by the template 'for every input the law returns true; each argument reads behind the call as it read before'; 0 by the template 'total and deterministic' (their statements: YtngajodhbioheaaTotals.lean).
  GIVEN WITH THE SEED: the statements are not yours to turn. If you find one false, say at which input.
  Laid BY PROGRAM, IN A SANDBOX (cutbox-rows.mjs): the forced cells as the released guide's own fill.sh prints them over the translation f61f4df03428d8b9… (all of the seat's roots in one cut). By AI agents, Wed Nov 11 2026. No macro, syntax, notation, axiom, sorry.
-/
import Derived.Test.YtngajodhbioheaaChecked
import GoSem.Claim
import GoSem.ClaimJoined
import GoSem.ClaimMapViews
import Derived.JoinedTies
import Derived.KernelRfl
namespace Go.Proofs.Ytngajodhbioheaa
/- THE CELL 'sum', in the pinned program and in every row, IS THE sha256 OF THE DUMP (.gsa) THAT YtngajodhbioheaaProg.lean LOADS. Nothing in Lean hashes anything: it is a label: what it is worth is what the hold of that sum in a sandbox is worth. -/
noncomputable def Try.pinned : Pinned := { name := "ytngajodhbioheaa", sum := "f61f4df03428d8b992b977cd6c7d5a004088d2b326146577b53f50cdce598fc7", checked := Try.checked }
namespace Rows
def none {H : Type} : Left H := { results := [], args := [] }

/-- 'ferrymanlaw10.DeltaDiffs': WHATEVER THE INPUT: true; the input reads as it did. -/
def deltaDiffsSpec : ChangeSpec := { name := "deltaDiffs", fn := fun _ => fun
  | [d1, d2] => { results := [.lit (.bool true)], args := [d1, d2] }
  | _ => none }
def deltaDiffsRow : OpenClaim := { program := "ytngajodhbioheaa", sum := "f61f4df03428d8b992b977cd6c7d5a004088d2b326146577b53f50cdce598fc7", func := "ferryman/ferrymanlaw10.DeltaDiffs", spec := "deltaDiffs", inPlace := ["slices.overlaps[ferryman/api.Entry]"], unfollowed := true, recurses := true, apart := false }
def DeltaDiffsSaid : Prop := deltaDiffsRow.holds Try.pinned (OpenSpec.ofChange deltaDiffsSpec)

/-- ITS FALSE NEIGHBOUR: 'it returns false'. Refute it at one input. -/
def deltaDiffsWrong : ChangeSpec := { name := "deltaDiffs", fn := fun _ => fun
  | [d1, d2] => { results := [.lit (.bool false)], args := [d1, d2] }
  | _ => none }
def DeltaDiffsWrongFalsely : Prop := deltaDiffsRow.holds Try.pinned (OpenSpec.ofChange deltaDiffsWrong)

/-- 'ferrymanlaw10.DeltaParts': WHATEVER THE INPUT: true; the input reads as it did. -/
def deltaPartsSpec : ChangeSpec := { name := "deltaParts", fn := fun _ => fun
  | [d1, d2] => { results := [.lit (.bool true)], args := [d1, d2] }
  | _ => none }
def deltaPartsRow : OpenClaim := { program := "ytngajodhbioheaa", sum := "f61f4df03428d8b992b977cd6c7d5a004088d2b326146577b53f50cdce598fc7", func := "ferryman/ferrymanlaw10.DeltaParts", spec := "deltaParts", inPlace := ["slices.overlaps[ferryman/api.Entry]"], unfollowed := true, recurses := true, apart := false }
def DeltaPartsSaid : Prop := deltaPartsRow.holds Try.pinned (OpenSpec.ofChange deltaPartsSpec)

/-- ITS FALSE NEIGHBOUR: 'it returns false'. Refute it at one input. -/
def deltaPartsWrong : ChangeSpec := { name := "deltaParts", fn := fun _ => fun
  | [d1, d2] => { results := [.lit (.bool false)], args := [d1, d2] }
  | _ => none }
def DeltaPartsWrongFalsely : Prop := deltaPartsRow.holds Try.pinned (OpenSpec.ofChange deltaPartsWrong)

/-- 'ferrymanlaw10.DeltaTakes': WHATEVER THE INPUT: true; the input reads as it did. -/
def deltaTakesSpec : ChangeSpec := { name := "deltaTakes", fn := fun _ => fun
  | [d1, d2] => { results := [.lit (.bool true)], args := [d1, d2] }
  | _ => none }
def deltaTakesRow : OpenClaim := { program := "ytngajodhbioheaa", sum := "f61f4df03428d8b992b977cd6c7d5a004088d2b326146577b53f50cdce598fc7", func := "ferryman/ferrymanlaw10.DeltaTakes", spec := "deltaTakes", inPlace := ["slices.overlaps[ferryman/api.Entry]", "slices.overlaps[int]"], unfollowed := true, recurses := true, apart := false }
def DeltaTakesSaid : Prop := deltaTakesRow.holds Try.pinned (OpenSpec.ofChange deltaTakesSpec)

/-- ITS FALSE NEIGHBOUR: 'it returns false'. Refute it at one input. -/
def deltaTakesWrong : ChangeSpec := { name := "deltaTakes", fn := fun _ => fun
  | [d1, d2] => { results := [.lit (.bool false)], args := [d1, d2] }
  | _ => none }
def DeltaTakesWrongFalsely : Prop := deltaTakesRow.holds Try.pinned (OpenSpec.ofChange deltaTakesWrong)

/-- 'ferrymanlaw10.DeltaOnce': WHATEVER THE INPUT: true; the input reads as it did. -/
def deltaOnceSpec : ChangeSpec := { name := "deltaOnce", fn := fun _ => fun
  | [d] => { results := [.lit (.bool true)], args := [d] }
  | _ => none }
def deltaOnceRow : OpenClaim := { program := "ytngajodhbioheaa", sum := "f61f4df03428d8b992b977cd6c7d5a004088d2b326146577b53f50cdce598fc7", func := "ferryman/ferrymanlaw10.DeltaOnce", spec := "deltaOnce", inPlace := ["slices.overlaps[ferryman/api.Entry]"], unfollowed := true, recurses := true, apart := false }
def DeltaOnceSaid : Prop := deltaOnceRow.holds Try.pinned (OpenSpec.ofChange deltaOnceSpec)

/-- ITS FALSE NEIGHBOUR: 'it returns false'. Refute it at one input. -/
def deltaOnceWrong : ChangeSpec := { name := "deltaOnce", fn := fun _ => fun
  | [d] => { results := [.lit (.bool false)], args := [d] }
  | _ => none }
def DeltaOnceWrongFalsely : Prop := deltaOnceRow.holds Try.pinned (OpenSpec.ofChange deltaOnceWrong)

/-- 'ferrymanlaw09.SnapshotTakes': WHATEVER THE INPUT: true; the input reads as it did. -/
def snapshotTakesSpec : ChangeSpec := { name := "snapshotTakes", fn := fun _ => fun
  | [d1, d2, d3] => { results := [.lit (.bool true)], args := [d1, d2, d3] }
  | _ => none }
def snapshotTakesRow : OpenClaim := { program := "ytngajodhbioheaa", sum := "f61f4df03428d8b992b977cd6c7d5a004088d2b326146577b53f50cdce598fc7", func := "ferryman/ferrymanlaw09.SnapshotTakes", spec := "snapshotTakes", inPlace := ["slices.overlaps[int]", "slices.overlaps[ferryman/api.Entry]"], unfollowed := true, recurses := true, apart := false }
def SnapshotTakesSaid : Prop := snapshotTakesRow.holds Try.pinned (OpenSpec.ofChange snapshotTakesSpec)

/-- ITS FALSE NEIGHBOUR: 'it returns false'. Refute it at one input. -/
def snapshotTakesWrong : ChangeSpec := { name := "snapshotTakes", fn := fun _ => fun
  | [d1, d2, d3] => { results := [.lit (.bool false)], args := [d1, d2, d3] }
  | _ => none }
def SnapshotTakesWrongFalsely : Prop := snapshotTakesRow.holds Try.pinned (OpenSpec.ofChange snapshotTakesWrong)

/-- 'ferrymanlaw10.DeltaCodes': WHATEVER THE INPUT: true; the input reads as it did. -/
def deltaCodesSpec : ChangeSpec := { name := "deltaCodes", fn := fun _ => fun
  | [d1, d2] => { results := [.lit (.bool true)], args := [d1, d2] }
  | _ => none }
def deltaCodesRow : OpenClaim := { program := "ytngajodhbioheaa", sum := "f61f4df03428d8b992b977cd6c7d5a004088d2b326146577b53f50cdce598fc7", func := "ferryman/ferrymanlaw10.DeltaCodes", spec := "deltaCodes", inPlace := ["slices.overlaps[ferryman/api.Entry]"], unfollowed := true, recurses := true, apart := false }
def DeltaCodesSaid : Prop := deltaCodesRow.holds Try.pinned (OpenSpec.ofChange deltaCodesSpec)

/-- ITS FALSE NEIGHBOUR: 'it returns false'. Refute it at one input. -/
def deltaCodesWrong : ChangeSpec := { name := "deltaCodes", fn := fun _ => fun
  | [d1, d2] => { results := [.lit (.bool false)], args := [d1, d2] }
  | _ => none }
def DeltaCodesWrongFalsely : Prop := deltaCodesRow.holds Try.pinned (OpenSpec.ofChange deltaCodesWrong)

/-- 'ferrymanlaw10.DeltaBack': WHATEVER THE INPUT: true; the input reads as it did. -/
def deltaBackSpec : ChangeSpec := { name := "deltaBack", fn := fun _ => fun
  | [d1, d2] => { results := [.lit (.bool true)], args := [d1, d2] }
  | _ => none }
def deltaBackRow : OpenClaim := { program := "ytngajodhbioheaa", sum := "f61f4df03428d8b992b977cd6c7d5a004088d2b326146577b53f50cdce598fc7", func := "ferryman/ferrymanlaw10.DeltaBack", spec := "deltaBack", inPlace := ["slices.overlaps[ferryman/api.Entry]"], unfollowed := true, recurses := true, apart := false }
def DeltaBackSaid : Prop := deltaBackRow.holds Try.pinned (OpenSpec.ofChange deltaBackSpec)

/-- ITS FALSE NEIGHBOUR: 'it returns false'. Refute it at one input. -/
def deltaBackWrong : ChangeSpec := { name := "deltaBack", fn := fun _ => fun
  | [d1, d2] => { results := [.lit (.bool false)], args := [d1, d2] }
  | _ => none }
def DeltaBackWrongFalsely : Prop := deltaBackRow.holds Try.pinned (OpenSpec.ofChange deltaBackWrong)

/-- 'ferrymanlaw09.SnapshotEncodes': WHATEVER THE INPUT: true; the input reads as it did. -/
def snapshotEncodesSpec : ChangeSpec := { name := "snapshotEncodes", fn := fun _ => fun
  | [d1, d2] => { results := [.lit (.bool true)], args := [d1, d2] }
  | _ => none }
def snapshotEncodesRow : OpenClaim := { program := "ytngajodhbioheaa", sum := "f61f4df03428d8b992b977cd6c7d5a004088d2b326146577b53f50cdce598fc7", func := "ferryman/ferrymanlaw09.SnapshotEncodes", spec := "snapshotEncodes", inPlace := ["slices.overlaps[int]", "slices.overlaps[ferryman/api.Entry]"], unfollowed := true, recurses := true, apart := false }
def SnapshotEncodesSaid : Prop := snapshotEncodesRow.holds Try.pinned (OpenSpec.ofChange snapshotEncodesSpec)

/-- ITS FALSE NEIGHBOUR: 'it returns false'. Refute it at one input. -/
def snapshotEncodesWrong : ChangeSpec := { name := "snapshotEncodes", fn := fun _ => fun
  | [d1, d2] => { results := [.lit (.bool false)], args := [d1, d2] }
  | _ => none }
def SnapshotEncodesWrongFalsely : Prop := snapshotEncodesRow.holds Try.pinned (OpenSpec.ofChange snapshotEncodesWrong)

/-- 'ferrymanlaw09.SnapshotNotes': WHATEVER THE INPUT: true; the input reads as it did. -/
def snapshotNotesSpec : ChangeSpec := { name := "snapshotNotes", fn := fun _ => fun
  | [d1, d2, d3] => { results := [.lit (.bool true)], args := [d1, d2, d3] }
  | _ => none }
def snapshotNotesRow : OpenClaim := { program := "ytngajodhbioheaa", sum := "f61f4df03428d8b992b977cd6c7d5a004088d2b326146577b53f50cdce598fc7", func := "ferryman/ferrymanlaw09.SnapshotNotes", spec := "snapshotNotes", inPlace := ["slices.overlaps[int]", "slices.overlaps[ferryman/api.Entry]"], unfollowed := true, recurses := true, apart := false }
def SnapshotNotesSaid : Prop := snapshotNotesRow.holds Try.pinned (OpenSpec.ofChange snapshotNotesSpec)

/-- ITS FALSE NEIGHBOUR: 'it returns false'. Refute it at one input. -/
def snapshotNotesWrong : ChangeSpec := { name := "snapshotNotes", fn := fun _ => fun
  | [d1, d2, d3] => { results := [.lit (.bool false)], args := [d1, d2, d3] }
  | _ => none }
def SnapshotNotesWrongFalsely : Prop := snapshotNotesRow.holds Try.pinned (OpenSpec.ofChange snapshotNotesWrong)

/-- 'ferrymanlaw09.SnapshotOwn': WHATEVER THE INPUT: true; the input reads as it did. -/
def snapshotOwnSpec : ChangeSpec := { name := "snapshotOwn", fn := fun _ => fun
  | [d1, d2] => { results := [.lit (.bool true)], args := [d1, d2] }
  | _ => none }
def snapshotOwnRow : OpenClaim := { program := "ytngajodhbioheaa", sum := "f61f4df03428d8b992b977cd6c7d5a004088d2b326146577b53f50cdce598fc7", func := "ferryman/ferrymanlaw09.SnapshotOwn", spec := "snapshotOwn", inPlace := ["slices.overlaps[int]", "slices.overlaps[ferryman/api.Entry]"], unfollowed := true, recurses := true, apart := false }
def SnapshotOwnSaid : Prop := snapshotOwnRow.holds Try.pinned (OpenSpec.ofChange snapshotOwnSpec)

/-- ITS FALSE NEIGHBOUR: 'it returns false'. Refute it at one input. -/
def snapshotOwnWrong : ChangeSpec := { name := "snapshotOwn", fn := fun _ => fun
  | [d1, d2] => { results := [.lit (.bool false)], args := [d1, d2] }
  | _ => none }
def SnapshotOwnWrongFalsely : Prop := snapshotOwnRow.holds Try.pinned (OpenSpec.ofChange snapshotOwnWrong)

/-- 'ferrymanlaw09.SnapshotParts': WHATEVER THE INPUT: true; the input reads as it did. -/
def snapshotPartsSpec : ChangeSpec := { name := "snapshotParts", fn := fun _ => fun
  | [d1, d2, d3] => { results := [.lit (.bool true)], args := [d1, d2, d3] }
  | _ => none }
def snapshotPartsRow : OpenClaim := { program := "ytngajodhbioheaa", sum := "f61f4df03428d8b992b977cd6c7d5a004088d2b326146577b53f50cdce598fc7", func := "ferryman/ferrymanlaw09.SnapshotParts", spec := "snapshotParts", inPlace := ["slices.overlaps[int]", "slices.overlaps[ferryman/api.Entry]"], unfollowed := true, recurses := true, apart := false }
def SnapshotPartsSaid : Prop := snapshotPartsRow.holds Try.pinned (OpenSpec.ofChange snapshotPartsSpec)

/-- ITS FALSE NEIGHBOUR: 'it returns false'. Refute it at one input. -/
def snapshotPartsWrong : ChangeSpec := { name := "snapshotParts", fn := fun _ => fun
  | [d1, d2, d3] => { results := [.lit (.bool false)], args := [d1, d2, d3] }
  | _ => none }
def SnapshotPartsWrongFalsely : Prop := snapshotPartsRow.holds Try.pinned (OpenSpec.ofChange snapshotPartsWrong)

/-- 'ferrymanlaw09.SnapshotOnce': WHATEVER THE INPUT: true; the input reads as it did. -/
def snapshotOnceSpec : ChangeSpec := { name := "snapshotOnce", fn := fun _ => fun
  | [d] => { results := [.lit (.bool true)], args := [d] }
  | _ => none }
def snapshotOnceRow : OpenClaim := { program := "ytngajodhbioheaa", sum := "f61f4df03428d8b992b977cd6c7d5a004088d2b326146577b53f50cdce598fc7", func := "ferryman/ferrymanlaw09.SnapshotOnce", spec := "snapshotOnce", inPlace := ["slices.overlaps[int]", "slices.overlaps[ferryman/api.Entry]"], unfollowed := true, recurses := true, apart := false }
def SnapshotOnceSaid : Prop := snapshotOnceRow.holds Try.pinned (OpenSpec.ofChange snapshotOnceSpec)

/-- ITS FALSE NEIGHBOUR: 'it returns false'. Refute it at one input. -/
def snapshotOnceWrong : ChangeSpec := { name := "snapshotOnce", fn := fun _ => fun
  | [d] => { results := [.lit (.bool false)], args := [d] }
  | _ => none }
def SnapshotOnceWrongFalsely : Prop := snapshotOnceRow.holds Try.pinned (OpenSpec.ofChange snapshotOnceWrong)

/-- 'ferrymanlaw09.SnapshotCuts': WHATEVER THE INPUT: true; the input reads as it did. -/
def snapshotCutsSpec : ChangeSpec := { name := "snapshotCuts", fn := fun _ => fun
  | [d1, d2, d3] => { results := [.lit (.bool true)], args := [d1, d2, d3] }
  | _ => none }
def snapshotCutsRow : OpenClaim := { program := "ytngajodhbioheaa", sum := "f61f4df03428d8b992b977cd6c7d5a004088d2b326146577b53f50cdce598fc7", func := "ferryman/ferrymanlaw09.SnapshotCuts", spec := "snapshotCuts", inPlace := ["slices.overlaps[int]", "slices.overlaps[ferryman/api.Entry]"], unfollowed := true, recurses := true, apart := false }
def SnapshotCutsSaid : Prop := snapshotCutsRow.holds Try.pinned (OpenSpec.ofChange snapshotCutsSpec)

/-- ITS FALSE NEIGHBOUR: 'it returns false'. Refute it at one input. -/
def snapshotCutsWrong : ChangeSpec := { name := "snapshotCuts", fn := fun _ => fun
  | [d1, d2, d3] => { results := [.lit (.bool false)], args := [d1, d2, d3] }
  | _ => none }
def SnapshotCutsWrongFalsely : Prop := snapshotCutsRow.holds Try.pinned (OpenSpec.ofChange snapshotCutsWrong)

/-- 'ferrymanlaw09.SnapshotBack': WHATEVER THE INPUT: true; the input reads as it did. -/
def snapshotBackSpec : ChangeSpec := { name := "snapshotBack", fn := fun _ => fun
  | [d] => { results := [.lit (.bool true)], args := [d] }
  | _ => none }
def snapshotBackRow : OpenClaim := { program := "ytngajodhbioheaa", sum := "f61f4df03428d8b992b977cd6c7d5a004088d2b326146577b53f50cdce598fc7", func := "ferryman/ferrymanlaw09.SnapshotBack", spec := "snapshotBack", inPlace := ["slices.overlaps[int]", "slices.overlaps[ferryman/api.Entry]"], unfollowed := true, recurses := true, apart := false }
def SnapshotBackSaid : Prop := snapshotBackRow.holds Try.pinned (OpenSpec.ofChange snapshotBackSpec)

/-- ITS FALSE NEIGHBOUR: 'it returns false'. Refute it at one input. -/
def snapshotBackWrong : ChangeSpec := { name := "snapshotBack", fn := fun _ => fun
  | [d] => { results := [.lit (.bool false)], args := [d] }
  | _ => none }
def SnapshotBackWrongFalsely : Prop := snapshotBackRow.holds Try.pinned (OpenSpec.ofChange snapshotBackWrong)

/- THE SECOND FORM. 'bulk': how many values and letters a reading holds, each counted each time it is reached (what is shared counts as often as it is met; a slice's spare places count too). A statement '..UptoSaid' is the law's where the arguments, and the package variables that the reading takes, are together of bulk at most 1048576: NARROWER than '..Said'. Prove '..Said' where nothing that the law and all that it calls make is longer than what came in: it says more and counts as full. Else prove '..UptoSaid'. A law counts once. -/
mutual
def uptoBulk {H : Type} : DataW H → Nat
  | .lit (.string bytes) => bytes.length + 1
  | .lit _ => 1
  | .nil => 1
  | .ptr d => uptoBulk d + 1
  | .slice elems spare => uptoBulkAll elems + uptoBulkAll spare + 1
  | .agg parts => uptoBulkAll parts + 1
  | .iface _ d => uptoBulk d + 1
  | .map entries => uptoBulkEntries entries + 1
  | .held _ => 1
def uptoBulkAll {H : Type} : List (DataW H) → Nat
  | [] => 0
  | d :: r => uptoBulk d + uptoBulkAll r
def uptoBulkEntries {H : Type} : List (Lit × DataW H) → Nat
  | [] => 0
  | x :: r => uptoBulkEntry x + uptoBulkEntries r
def uptoBulkEntry {H : Type} : Lit × DataW H → Nat
  | (.string bytes, d) => bytes.length + uptoBulk d + 1
  | (_, d) => uptoBulk d + 1
 end
def uptoSmall : (H : Type) → List (DataW H) → Bool := fun _ ds => decide (uptoBulkAll ds ≤ 1048576)
def OpenSpec.upto (s : _root_.Go.ChangeSpec) : _root_.Go.OpenSpec := { _root_.Go.OpenSpec.ofChange s with cond := some uptoSmall }

/-- 'ferrymanlaw10.DeltaDiffs', WHERE WHAT IT READS IS OF BULK AT MOST 1048576: true; the input reads as it did. -/
def deltaDiffsUptoRow : OpenClaim := { program := "ytngajodhbioheaa", sum := "f61f4df03428d8b992b977cd6c7d5a004088d2b326146577b53f50cdce598fc7", func := "ferryman/ferrymanlaw10.DeltaDiffs", spec := "deltaDiffs", inPlace := ["slices.overlaps[ferryman/api.Entry]"], unfollowed := true, recurses := true, apart := false, narrowed := true }
def DeltaDiffsUptoSaid : Prop := deltaDiffsUptoRow.holds Try.pinned (OpenSpec.upto deltaDiffsSpec)

/-- 'ferrymanlaw10.DeltaParts', WHERE WHAT IT READS IS OF BULK AT MOST 1048576: true; the input reads as it did. -/
def deltaPartsUptoRow : OpenClaim := { program := "ytngajodhbioheaa", sum := "f61f4df03428d8b992b977cd6c7d5a004088d2b326146577b53f50cdce598fc7", func := "ferryman/ferrymanlaw10.DeltaParts", spec := "deltaParts", inPlace := ["slices.overlaps[ferryman/api.Entry]"], unfollowed := true, recurses := true, apart := false, narrowed := true }
def DeltaPartsUptoSaid : Prop := deltaPartsUptoRow.holds Try.pinned (OpenSpec.upto deltaPartsSpec)

/-- 'ferrymanlaw10.DeltaTakes', WHERE WHAT IT READS IS OF BULK AT MOST 1048576: true; the input reads as it did. -/
def deltaTakesUptoRow : OpenClaim := { program := "ytngajodhbioheaa", sum := "f61f4df03428d8b992b977cd6c7d5a004088d2b326146577b53f50cdce598fc7", func := "ferryman/ferrymanlaw10.DeltaTakes", spec := "deltaTakes", inPlace := ["slices.overlaps[ferryman/api.Entry]", "slices.overlaps[int]"], unfollowed := true, recurses := true, apart := false, narrowed := true }
def DeltaTakesUptoSaid : Prop := deltaTakesUptoRow.holds Try.pinned (OpenSpec.upto deltaTakesSpec)

/-- 'ferrymanlaw10.DeltaOnce', WHERE WHAT IT READS IS OF BULK AT MOST 1048576: true; the input reads as it did. -/
def deltaOnceUptoRow : OpenClaim := { program := "ytngajodhbioheaa", sum := "f61f4df03428d8b992b977cd6c7d5a004088d2b326146577b53f50cdce598fc7", func := "ferryman/ferrymanlaw10.DeltaOnce", spec := "deltaOnce", inPlace := ["slices.overlaps[ferryman/api.Entry]"], unfollowed := true, recurses := true, apart := false, narrowed := true }
def DeltaOnceUptoSaid : Prop := deltaOnceUptoRow.holds Try.pinned (OpenSpec.upto deltaOnceSpec)

/-- 'ferrymanlaw09.SnapshotTakes', WHERE WHAT IT READS IS OF BULK AT MOST 1048576: true; the input reads as it did. -/
def snapshotTakesUptoRow : OpenClaim := { program := "ytngajodhbioheaa", sum := "f61f4df03428d8b992b977cd6c7d5a004088d2b326146577b53f50cdce598fc7", func := "ferryman/ferrymanlaw09.SnapshotTakes", spec := "snapshotTakes", inPlace := ["slices.overlaps[int]", "slices.overlaps[ferryman/api.Entry]"], unfollowed := true, recurses := true, apart := false, narrowed := true }
def SnapshotTakesUptoSaid : Prop := snapshotTakesUptoRow.holds Try.pinned (OpenSpec.upto snapshotTakesSpec)

/-- 'ferrymanlaw10.DeltaCodes', WHERE WHAT IT READS IS OF BULK AT MOST 1048576: true; the input reads as it did. -/
def deltaCodesUptoRow : OpenClaim := { program := "ytngajodhbioheaa", sum := "f61f4df03428d8b992b977cd6c7d5a004088d2b326146577b53f50cdce598fc7", func := "ferryman/ferrymanlaw10.DeltaCodes", spec := "deltaCodes", inPlace := ["slices.overlaps[ferryman/api.Entry]"], unfollowed := true, recurses := true, apart := false, narrowed := true }
def DeltaCodesUptoSaid : Prop := deltaCodesUptoRow.holds Try.pinned (OpenSpec.upto deltaCodesSpec)

/-- 'ferrymanlaw10.DeltaBack', WHERE WHAT IT READS IS OF BULK AT MOST 1048576: true; the input reads as it did. -/
def deltaBackUptoRow : OpenClaim := { program := "ytngajodhbioheaa", sum := "f61f4df03428d8b992b977cd6c7d5a004088d2b326146577b53f50cdce598fc7", func := "ferryman/ferrymanlaw10.DeltaBack", spec := "deltaBack", inPlace := ["slices.overlaps[ferryman/api.Entry]"], unfollowed := true, recurses := true, apart := false, narrowed := true }
def DeltaBackUptoSaid : Prop := deltaBackUptoRow.holds Try.pinned (OpenSpec.upto deltaBackSpec)

/-- 'ferrymanlaw09.SnapshotEncodes', WHERE WHAT IT READS IS OF BULK AT MOST 1048576: true; the input reads as it did. -/
def snapshotEncodesUptoRow : OpenClaim := { program := "ytngajodhbioheaa", sum := "f61f4df03428d8b992b977cd6c7d5a004088d2b326146577b53f50cdce598fc7", func := "ferryman/ferrymanlaw09.SnapshotEncodes", spec := "snapshotEncodes", inPlace := ["slices.overlaps[int]", "slices.overlaps[ferryman/api.Entry]"], unfollowed := true, recurses := true, apart := false, narrowed := true }
def SnapshotEncodesUptoSaid : Prop := snapshotEncodesUptoRow.holds Try.pinned (OpenSpec.upto snapshotEncodesSpec)

/-- 'ferrymanlaw09.SnapshotNotes', WHERE WHAT IT READS IS OF BULK AT MOST 1048576: true; the input reads as it did. -/
def snapshotNotesUptoRow : OpenClaim := { program := "ytngajodhbioheaa", sum := "f61f4df03428d8b992b977cd6c7d5a004088d2b326146577b53f50cdce598fc7", func := "ferryman/ferrymanlaw09.SnapshotNotes", spec := "snapshotNotes", inPlace := ["slices.overlaps[int]", "slices.overlaps[ferryman/api.Entry]"], unfollowed := true, recurses := true, apart := false, narrowed := true }
def SnapshotNotesUptoSaid : Prop := snapshotNotesUptoRow.holds Try.pinned (OpenSpec.upto snapshotNotesSpec)

/-- 'ferrymanlaw09.SnapshotOwn', WHERE WHAT IT READS IS OF BULK AT MOST 1048576: true; the input reads as it did. -/
def snapshotOwnUptoRow : OpenClaim := { program := "ytngajodhbioheaa", sum := "f61f4df03428d8b992b977cd6c7d5a004088d2b326146577b53f50cdce598fc7", func := "ferryman/ferrymanlaw09.SnapshotOwn", spec := "snapshotOwn", inPlace := ["slices.overlaps[int]", "slices.overlaps[ferryman/api.Entry]"], unfollowed := true, recurses := true, apart := false, narrowed := true }
def SnapshotOwnUptoSaid : Prop := snapshotOwnUptoRow.holds Try.pinned (OpenSpec.upto snapshotOwnSpec)

/-- 'ferrymanlaw09.SnapshotParts', WHERE WHAT IT READS IS OF BULK AT MOST 1048576: true; the input reads as it did. -/
def snapshotPartsUptoRow : OpenClaim := { program := "ytngajodhbioheaa", sum := "f61f4df03428d8b992b977cd6c7d5a004088d2b326146577b53f50cdce598fc7", func := "ferryman/ferrymanlaw09.SnapshotParts", spec := "snapshotParts", inPlace := ["slices.overlaps[int]", "slices.overlaps[ferryman/api.Entry]"], unfollowed := true, recurses := true, apart := false, narrowed := true }
def SnapshotPartsUptoSaid : Prop := snapshotPartsUptoRow.holds Try.pinned (OpenSpec.upto snapshotPartsSpec)

/-- 'ferrymanlaw09.SnapshotOnce', WHERE WHAT IT READS IS OF BULK AT MOST 1048576: true; the input reads as it did. -/
def snapshotOnceUptoRow : OpenClaim := { program := "ytngajodhbioheaa", sum := "f61f4df03428d8b992b977cd6c7d5a004088d2b326146577b53f50cdce598fc7", func := "ferryman/ferrymanlaw09.SnapshotOnce", spec := "snapshotOnce", inPlace := ["slices.overlaps[int]", "slices.overlaps[ferryman/api.Entry]"], unfollowed := true, recurses := true, apart := false, narrowed := true }
def SnapshotOnceUptoSaid : Prop := snapshotOnceUptoRow.holds Try.pinned (OpenSpec.upto snapshotOnceSpec)

/-- 'ferrymanlaw09.SnapshotCuts', WHERE WHAT IT READS IS OF BULK AT MOST 1048576: true; the input reads as it did. -/
def snapshotCutsUptoRow : OpenClaim := { program := "ytngajodhbioheaa", sum := "f61f4df03428d8b992b977cd6c7d5a004088d2b326146577b53f50cdce598fc7", func := "ferryman/ferrymanlaw09.SnapshotCuts", spec := "snapshotCuts", inPlace := ["slices.overlaps[int]", "slices.overlaps[ferryman/api.Entry]"], unfollowed := true, recurses := true, apart := false, narrowed := true }
def SnapshotCutsUptoSaid : Prop := snapshotCutsUptoRow.holds Try.pinned (OpenSpec.upto snapshotCutsSpec)

/-- 'ferrymanlaw09.SnapshotBack', WHERE WHAT IT READS IS OF BULK AT MOST 1048576: true; the input reads as it did. -/
def snapshotBackUptoRow : OpenClaim := { program := "ytngajodhbioheaa", sum := "f61f4df03428d8b992b977cd6c7d5a004088d2b326146577b53f50cdce598fc7", func := "ferryman/ferrymanlaw09.SnapshotBack", spec := "snapshotBack", inPlace := ["slices.overlaps[int]", "slices.overlaps[ferryman/api.Entry]"], unfollowed := true, recurses := true, apart := false, narrowed := true }
def SnapshotBackUptoSaid : Prop := snapshotBackUptoRow.holds Try.pinned (OpenSpec.upto snapshotBackSpec)

end Rows
end Go.Proofs.Ytngajodhbioheaa
