/-
  No cell of these rows narrows 'for every input' (looked for: loops, veiled, ifaces, maps, wideKeys, modest, calm, conditions, laid).
  DERIVED. THE GIVEN ROWS OF THIS SEAT. 6 by the template 'for every input the law returns true; each argument reads behind the call as it read before'; 0 by the template 'total and deterministic' (their statements: YtlcndafgippgjaaTotals.lean).
  GIVEN WITH THE SEED: the statements are not yours to turn. If you find one false, say at which input.
  Laid BY PROGRAM, IN A SANDBOX (cutbox-rows.mjs): the forced cells as the released guide's own fill.sh prints them over the translation 792443186109e444… (all of the seat's roots in one cut). By AI agents, Wed Nov 11 2026. No macro, syntax, notation, axiom, sorry.
-/
import Derived.Test.YtlcndafgippgjaaChecked
import GoSem.Claim
import GoSem.ClaimJoined
import GoSem.ClaimMapViews
import Derived.JoinedTies
import Derived.KernelRfl
namespace Go.Proofs.Ytlcndafgippgjaa
/- THE CELL 'sum', in the pinned program and in every row, IS THE sha256 OF THE DUMP (.gsa) THAT YtlcndafgippgjaaProg.lean LOADS. Nothing in Lean hashes anything: it is a label: what it is worth is what the hold of that sum in a sandbox is worth. -/
noncomputable def Try.pinned : Pinned := { name := "ytlcndafgippgjaa", sum := "792443186109e444545a975b602265a644befb9c8b6249380912d5456f06c43f", checked := Try.checked }
namespace Rows
def none {H : Type} : Left H := { results := [], args := [] }

/-- 'ferrymanlaw08.SegmentEncodes': WHATEVER THE INPUT: true; the input reads as it did. -/
def segmentEncodesSpec : ChangeSpec := { name := "segmentEncodes", fn := fun _ => fun
  | [d1, d2] => { results := [.lit (.bool true)], args := [d1, d2] }
  | _ => none }
def segmentEncodesRow : OpenClaim := { program := "ytlcndafgippgjaa", sum := "792443186109e444545a975b602265a644befb9c8b6249380912d5456f06c43f", func := "ferryman/ferrymanlaw08.SegmentEncodes", spec := "segmentEncodes", apart := false }
def SegmentEncodesSaid : Prop := segmentEncodesRow.holds Try.pinned (OpenSpec.ofChange segmentEncodesSpec)

/-- ITS FALSE NEIGHBOUR: 'it returns false'. Refute it at one input. -/
def segmentEncodesWrong : ChangeSpec := { name := "segmentEncodes", fn := fun _ => fun
  | [d1, d2] => { results := [.lit (.bool false)], args := [d1, d2] }
  | _ => none }
def SegmentEncodesWrongFalsely : Prop := segmentEncodesRow.holds Try.pinned (OpenSpec.ofChange segmentEncodesWrong)

/-- 'ferrymanlaw08.SegmentParts': WHATEVER THE INPUT: true; the input reads as it did. -/
def segmentPartsSpec : ChangeSpec := { name := "segmentParts", fn := fun _ => fun
  | [d1, d2, d3] => { results := [.lit (.bool true)], args := [d1, d2, d3] }
  | _ => none }
def segmentPartsRow : OpenClaim := { program := "ytlcndafgippgjaa", sum := "792443186109e444545a975b602265a644befb9c8b6249380912d5456f06c43f", func := "ferryman/ferrymanlaw08.SegmentParts", spec := "segmentParts", apart := false }
def SegmentPartsSaid : Prop := segmentPartsRow.holds Try.pinned (OpenSpec.ofChange segmentPartsSpec)

/-- ITS FALSE NEIGHBOUR: 'it returns false'. Refute it at one input. -/
def segmentPartsWrong : ChangeSpec := { name := "segmentParts", fn := fun _ => fun
  | [d1, d2, d3] => { results := [.lit (.bool false)], args := [d1, d2, d3] }
  | _ => none }
def SegmentPartsWrongFalsely : Prop := segmentPartsRow.holds Try.pinned (OpenSpec.ofChange segmentPartsWrong)

/-- 'ferrymanlaw08.SegmentGrows': WHATEVER THE INPUT: true; the input reads as it did. -/
def segmentGrowsSpec : ChangeSpec := { name := "segmentGrows", fn := fun _ => fun
  | [d1, d2, d3] => { results := [.lit (.bool true)], args := [d1, d2, d3] }
  | _ => none }
def segmentGrowsRow : OpenClaim := { program := "ytlcndafgippgjaa", sum := "792443186109e444545a975b602265a644befb9c8b6249380912d5456f06c43f", func := "ferryman/ferrymanlaw08.SegmentGrows", spec := "segmentGrows", unfollowed := true, recurses := true, apart := false }
def SegmentGrowsSaid : Prop := segmentGrowsRow.holds Try.pinned (OpenSpec.ofChange segmentGrowsSpec)

/-- ITS FALSE NEIGHBOUR: 'it returns false'. Refute it at one input. -/
def segmentGrowsWrong : ChangeSpec := { name := "segmentGrows", fn := fun _ => fun
  | [d1, d2, d3] => { results := [.lit (.bool false)], args := [d1, d2, d3] }
  | _ => none }
def SegmentGrowsWrongFalsely : Prop := segmentGrowsRow.holds Try.pinned (OpenSpec.ofChange segmentGrowsWrong)

/-- 'ferrymanlaw08.SegmentBack': WHATEVER THE INPUT: true; the input reads as it did. -/
def segmentBackSpec : ChangeSpec := { name := "segmentBack", fn := fun _ => fun
  | [d1, d2] => { results := [.lit (.bool true)], args := [d1, d2] }
  | _ => none }
def segmentBackRow : OpenClaim := { program := "ytlcndafgippgjaa", sum := "792443186109e444545a975b602265a644befb9c8b6249380912d5456f06c43f", func := "ferryman/ferrymanlaw08.SegmentBack", spec := "segmentBack", unfollowed := true, recurses := true, apart := false }
def SegmentBackSaid : Prop := segmentBackRow.holds Try.pinned (OpenSpec.ofChange segmentBackSpec)

/-- ITS FALSE NEIGHBOUR: 'it returns false'. Refute it at one input. -/
def segmentBackWrong : ChangeSpec := { name := "segmentBack", fn := fun _ => fun
  | [d1, d2] => { results := [.lit (.bool false)], args := [d1, d2] }
  | _ => none }
def SegmentBackWrongFalsely : Prop := segmentBackRow.holds Try.pinned (OpenSpec.ofChange segmentBackWrong)

/-- 'ferrymanlaw08.SegmentOnce': WHATEVER THE INPUT: true; the input reads as it did. -/
def segmentOnceSpec : ChangeSpec := { name := "segmentOnce", fn := fun _ => fun
  | [d] => { results := [.lit (.bool true)], args := [d] }
  | _ => none }
def segmentOnceRow : OpenClaim := { program := "ytlcndafgippgjaa", sum := "792443186109e444545a975b602265a644befb9c8b6249380912d5456f06c43f", func := "ferryman/ferrymanlaw08.SegmentOnce", spec := "segmentOnce", unfollowed := true, recurses := true, apart := false }
def SegmentOnceSaid : Prop := segmentOnceRow.holds Try.pinned (OpenSpec.ofChange segmentOnceSpec)

/-- ITS FALSE NEIGHBOUR: 'it returns false'. Refute it at one input. -/
def segmentOnceWrong : ChangeSpec := { name := "segmentOnce", fn := fun _ => fun
  | [d] => { results := [.lit (.bool false)], args := [d] }
  | _ => none }
def SegmentOnceWrongFalsely : Prop := segmentOnceRow.holds Try.pinned (OpenSpec.ofChange segmentOnceWrong)

/-- 'ferrymanlaw08.SegmentCuts': WHATEVER THE INPUT: true; the input reads as it did. -/
def segmentCutsSpec : ChangeSpec := { name := "segmentCuts", fn := fun _ => fun
  | [d1, d2, d3] => { results := [.lit (.bool true)], args := [d1, d2, d3] }
  | _ => none }
def segmentCutsRow : OpenClaim := { program := "ytlcndafgippgjaa", sum := "792443186109e444545a975b602265a644befb9c8b6249380912d5456f06c43f", func := "ferryman/ferrymanlaw08.SegmentCuts", spec := "segmentCuts", unfollowed := true, recurses := true, apart := false }
def SegmentCutsSaid : Prop := segmentCutsRow.holds Try.pinned (OpenSpec.ofChange segmentCutsSpec)

/-- ITS FALSE NEIGHBOUR: 'it returns false'. Refute it at one input. -/
def segmentCutsWrong : ChangeSpec := { name := "segmentCuts", fn := fun _ => fun
  | [d1, d2, d3] => { results := [.lit (.bool false)], args := [d1, d2, d3] }
  | _ => none }
def SegmentCutsWrongFalsely : Prop := segmentCutsRow.holds Try.pinned (OpenSpec.ofChange segmentCutsWrong)

/- THE SECOND FORM. 'bulk': how many values and letters a reading holds, each counted each time it is reached (what is shared counts as often as it is met; a slice's spare places count too). A statement '..UptoSaid' is the law's where the arguments, and the package variables that the reading takes, are together of bulk at most 1048576: NARROWER than '..Said'. Prove '..Said' where nothing that the law and all that it calls make is longer than what came in: it says more and counts as full. Else prove '..UptoSaid'. A law counts once. -/
mutual
def uptoBulk {H : Type} : DataW H → Nat
  | .lit (.string bytes) => bytes.length + 1
  | .lit _ => 1
  | .nil => 1
  | .ptr d => uptoBulk d + 1
  | .slice elems spare => uptoBulkAll elems + uptoBulkAll spare + 1
  | .agg parts => uptoBulkAll parts + 1
  | .iface _ d => uptoBulk d + 1
  | .map entries => uptoBulkEntries entries + 1
  | .held _ => 1
def uptoBulkAll {H : Type} : List (DataW H) → Nat
  | [] => 0
  | d :: r => uptoBulk d + uptoBulkAll r
def uptoBulkEntries {H : Type} : List (Lit × DataW H) → Nat
  | [] => 0
  | x :: r => uptoBulkEntry x + uptoBulkEntries r
def uptoBulkEntry {H : Type} : Lit × DataW H → Nat
  | (.string bytes, d) => bytes.length + uptoBulk d + 1
  | (_, d) => uptoBulk d + 1
 end
def uptoSmall : (H : Type) → List (DataW H) → Bool := fun _ ds => decide (uptoBulkAll ds ≤ 1048576)
def OpenSpec.upto (s : _root_.Go.ChangeSpec) : _root_.Go.OpenSpec := { _root_.Go.OpenSpec.ofChange s with cond := some uptoSmall }

/-- 'ferrymanlaw08.SegmentEncodes', WHERE WHAT IT READS IS OF BULK AT MOST 1048576: true; the input reads as it did. -/
def segmentEncodesUptoRow : OpenClaim := { program := "ytlcndafgippgjaa", sum := "792443186109e444545a975b602265a644befb9c8b6249380912d5456f06c43f", func := "ferryman/ferrymanlaw08.SegmentEncodes", spec := "segmentEncodes", apart := false, narrowed := true }
def SegmentEncodesUptoSaid : Prop := segmentEncodesUptoRow.holds Try.pinned (OpenSpec.upto segmentEncodesSpec)

/-- 'ferrymanlaw08.SegmentParts', WHERE WHAT IT READS IS OF BULK AT MOST 1048576: true; the input reads as it did. -/
def segmentPartsUptoRow : OpenClaim := { program := "ytlcndafgippgjaa", sum := "792443186109e444545a975b602265a644befb9c8b6249380912d5456f06c43f", func := "ferryman/ferrymanlaw08.SegmentParts", spec := "segmentParts", apart := false, narrowed := true }
def SegmentPartsUptoSaid : Prop := segmentPartsUptoRow.holds Try.pinned (OpenSpec.upto segmentPartsSpec)

/-- 'ferrymanlaw08.SegmentGrows', WHERE WHAT IT READS IS OF BULK AT MOST 1048576: true; the input reads as it did. -/
def segmentGrowsUptoRow : OpenClaim := { program := "ytlcndafgippgjaa", sum := "792443186109e444545a975b602265a644befb9c8b6249380912d5456f06c43f", func := "ferryman/ferrymanlaw08.SegmentGrows", spec := "segmentGrows", unfollowed := true, recurses := true, apart := false, narrowed := true }
def SegmentGrowsUptoSaid : Prop := segmentGrowsUptoRow.holds Try.pinned (OpenSpec.upto segmentGrowsSpec)

/-- 'ferrymanlaw08.SegmentBack', WHERE WHAT IT READS IS OF BULK AT MOST 1048576: true; the input reads as it did. -/
def segmentBackUptoRow : OpenClaim := { program := "ytlcndafgippgjaa", sum := "792443186109e444545a975b602265a644befb9c8b6249380912d5456f06c43f", func := "ferryman/ferrymanlaw08.SegmentBack", spec := "segmentBack", unfollowed := true, recurses := true, apart := false, narrowed := true }
def SegmentBackUptoSaid : Prop := segmentBackUptoRow.holds Try.pinned (OpenSpec.upto segmentBackSpec)

/-- 'ferrymanlaw08.SegmentOnce', WHERE WHAT IT READS IS OF BULK AT MOST 1048576: true; the input reads as it did. -/
def segmentOnceUptoRow : OpenClaim := { program := "ytlcndafgippgjaa", sum := "792443186109e444545a975b602265a644befb9c8b6249380912d5456f06c43f", func := "ferryman/ferrymanlaw08.SegmentOnce", spec := "segmentOnce", unfollowed := true, recurses := true, apart := false, narrowed := true }
def SegmentOnceUptoSaid : Prop := segmentOnceUptoRow.holds Try.pinned (OpenSpec.upto segmentOnceSpec)

/-- 'ferrymanlaw08.SegmentCuts', WHERE WHAT IT READS IS OF BULK AT MOST 1048576: true; the input reads as it did. -/
def segmentCutsUptoRow : OpenClaim := { program := "ytlcndafgippgjaa", sum := "792443186109e444545a975b602265a644befb9c8b6249380912d5456f06c43f", func := "ferryman/ferrymanlaw08.SegmentCuts", spec := "segmentCuts", unfollowed := true, recurses := true, apart := false, narrowed := true }
def SegmentCutsUptoSaid : Prop := segmentCutsUptoRow.holds Try.pinned (OpenSpec.upto segmentCutsSpec)

end Rows
end Go.Proofs.Ytlcndafgippgjaa
