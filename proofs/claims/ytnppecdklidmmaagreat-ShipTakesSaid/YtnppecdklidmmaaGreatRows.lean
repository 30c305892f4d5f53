/-
  No cell of these rows narrows 'for every input' (looked for: loops, veiled, ifaces, maps, wideKeys, modest, calm, conditions, laid).
  DERIVED. THE GIVEN ROWS OF THIS SEAT. 3 by the template 'for every input the law returns true; each argument reads behind the call as it read before'; 0 by the template 'total and deterministic' (their statements: YtnppecdklidmmaaGreatTotals.lean).
  GIVEN WITH THE SEED: the statements are not yours to turn. If you find one false, say at which input.
  Laid BY PROGRAM, IN A SANDBOX (cutbox-rows.mjs): the forced cells as the released guide's own fill.sh prints them over the translation 1f64c5b4297a6161… (all of the seat's roots in one cut). By AI agents, Wed Nov 11 2026. No macro, syntax, notation, axiom, sorry.
-/
import Derived.Test.YtnppecdklidmmaaGreatChecked
import GoSem.Claim
import GoSem.ClaimJoined
import GoSem.ClaimMapViews
import Derived.JoinedTies
import Derived.KernelRfl
namespace Go.Proofs.YtnppecdklidmmaaGreat
/- THE CELL 'sum', in the pinned program and in every row, IS THE sha256 OF THE DUMP (.gsa) THAT YtnppecdklidmmaaGreatProg.lean LOADS. Nothing in Lean hashes anything: it is a label: what it is worth is what the hold of that sum in a sandbox is worth. -/
noncomputable def Tryz.pinned : Pinned := { name := "ytnppecdklidmmaagreat", sum := "1f64c5b4297a6161c2f51fc02102417636ccea8ad6b1f6c8fcd8329dfe86e26b", checked := Tryz.checked }
namespace Rows
def none {H : Type} : Left H := { results := [], args := [] }

/-- 'ferrymantop.TopDeltas': WHATEVER THE INPUT: true; the input reads as it did. -/
def topDeltasSpec : ChangeSpec := { name := "topDeltas", fn := fun _ => fun
  | [d1, d2, d3] => { results := [.lit (.bool true)], args := [d1, d2, d3] }
  | _ => none }
def topDeltasRow : OpenClaim := { program := "ytnppecdklidmmaagreat", sum := "1f64c5b4297a6161c2f51fc02102417636ccea8ad6b1f6c8fcd8329dfe86e26b", func := "ferryman/ferrymantop.TopDeltas", spec := "topDeltas", inPlace := ["slices.overlaps[int]", "slices.overlaps[ferryman/api.Entry]", "maps.clone"], unfollowed := true, recurses := true, apart := false }
def TopDeltasSaid : Prop := topDeltasRow.holds Tryz.pinned (OpenSpec.ofChange topDeltasSpec)

/-- ITS FALSE NEIGHBOUR: 'it returns false'. Refute it at one input. -/
def topDeltasWrong : ChangeSpec := { name := "topDeltas", fn := fun _ => fun
  | [d1, d2, d3] => { results := [.lit (.bool false)], args := [d1, d2, d3] }
  | _ => none }
def TopDeltasWrongFalsely : Prop := topDeltasRow.holds Tryz.pinned (OpenSpec.ofChange topDeltasWrong)

/-- 'ferrymanlaw21.ShipTakes': WHATEVER THE INPUT: true; the input reads as it did. -/
def shipTakesSpec : ChangeSpec := { name := "shipTakes", fn := fun _ => fun
  | [d1, d2, d3] => { results := [.lit (.bool true)], args := [d1, d2, d3] }
  | _ => none }
def shipTakesRow : OpenClaim := { program := "ytnppecdklidmmaagreat", sum := "1f64c5b4297a6161c2f51fc02102417636ccea8ad6b1f6c8fcd8329dfe86e26b", func := "ferryman/ferrymanlaw21.ShipTakes", spec := "shipTakes", inPlace := ["slices.overlaps[int]", "slices.overlaps[ferryman/api.Entry]", "maps.clone"], unfollowed := true, recurses := true, apart := false }
def ShipTakesSaid : Prop := shipTakesRow.holds Tryz.pinned (OpenSpec.ofChange shipTakesSpec)

/-- ITS FALSE NEIGHBOUR: 'it returns false'. Refute it at one input. -/
def shipTakesWrong : ChangeSpec := { name := "shipTakes", fn := fun _ => fun
  | [d1, d2, d3] => { results := [.lit (.bool false)], args := [d1, d2, d3] }
  | _ => none }
def ShipTakesWrongFalsely : Prop := shipTakesRow.holds Tryz.pinned (OpenSpec.ofChange shipTakesWrong)

/-- 'ferrymanlaw21.ShipIdle': WHATEVER THE INPUT: true; the input reads as it did. -/
def shipIdleSpec : ChangeSpec := { name := "shipIdle", fn := fun _ => fun
  | [d1, d2, d3, d4] => { results := [.lit (.bool true)], args := [d1, d2, d3, d4] }
  | _ => none }
def shipIdleRow : OpenClaim := { program := "ytnppecdklidmmaagreat", sum := "1f64c5b4297a6161c2f51fc02102417636ccea8ad6b1f6c8fcd8329dfe86e26b", func := "ferryman/ferrymanlaw21.ShipIdle", spec := "shipIdle", inPlace := ["slices.overlaps[int]", "slices.overlaps[ferryman/api.Entry]", "maps.clone"], unfollowed := true, recurses := true, apart := false }
def ShipIdleSaid : Prop := shipIdleRow.holds Tryz.pinned (OpenSpec.ofChange shipIdleSpec)

/-- ITS FALSE NEIGHBOUR: 'it returns false'. Refute it at one input. -/
def shipIdleWrong : ChangeSpec := { name := "shipIdle", fn := fun _ => fun
  | [d1, d2, d3, d4] => { results := [.lit (.bool false)], args := [d1, d2, d3, d4] }
  | _ => none }
def ShipIdleWrongFalsely : Prop := shipIdleRow.holds Tryz.pinned (OpenSpec.ofChange shipIdleWrong)

/- THE SECOND FORM. 'bulk': how many values and letters a reading holds, each counted each time it is reached (what is shared counts as often as it is met; a slice's spare places count too). A statement '..UptoSaid' is the law's where the arguments, and the package variables that the reading takes, are together of bulk at most 1048576: NARROWER than '..Said'. Prove '..Said' where nothing that the law and all that it calls make is longer than what came in: it says more and counts as full. Else prove '..UptoSaid'. A law counts once. -/
mutual
def uptoBulk {H : Type} : DataW H → Nat
  | .lit (.string bytes) => bytes.length + 1
  | .lit _ => 1
  | .nil => 1
  | .ptr d => uptoBulk d + 1
  | .slice elems spare => uptoBulkAll elems + uptoBulkAll spare + 1
  | .agg parts => uptoBulkAll parts + 1
  | .iface _ d => uptoBulk d + 1
  | .map entries => uptoBulkEntries entries + 1
  | .held _ => 1
def uptoBulkAll {H : Type} : List (DataW H) → Nat
  | [] => 0
  | d :: r => uptoBulk d + uptoBulkAll r
def uptoBulkEntries {H : Type} : List (Lit × DataW H) → Nat
  | [] => 0
  | x :: r => uptoBulkEntry x + uptoBulkEntries r
def uptoBulkEntry {H : Type} : Lit × DataW H → Nat
  | (.string bytes, d) => bytes.length + uptoBulk d + 1
  | (_, d) => uptoBulk d + 1
 end
def uptoSmall : (H : Type) → List (DataW H) → Bool := fun _ ds => decide (uptoBulkAll ds ≤ 1048576)
def OpenSpec.upto (s : _root_.Go.ChangeSpec) : _root_.Go.OpenSpec := { _root_.Go.OpenSpec.ofChange s with cond := some uptoSmall }

/-- 'ferrymantop.TopDeltas', WHERE WHAT IT READS IS OF BULK AT MOST 1048576: true; the input reads as it did. -/
def topDeltasUptoRow : OpenClaim := { program := "ytnppecdklidmmaagreat", sum := "1f64c5b4297a6161c2f51fc02102417636ccea8ad6b1f6c8fcd8329dfe86e26b", func := "ferryman/ferrymantop.TopDeltas", spec := "topDeltas", inPlace := ["slices.overlaps[int]", "slices.overlaps[ferryman/api.Entry]", "maps.clone"], unfollowed := true, recurses := true, apart := false, narrowed := true }
def TopDeltasUptoSaid : Prop := topDeltasUptoRow.holds Tryz.pinned (OpenSpec.upto topDeltasSpec)

/-- 'ferrymanlaw21.ShipTakes', WHERE WHAT IT READS IS OF BULK AT MOST 1048576: true; the input reads as it did. -/
def shipTakesUptoRow : OpenClaim := { program := "ytnppecdklidmmaagreat", sum := "1f64c5b4297a6161c2f51fc02102417636ccea8ad6b1f6c8fcd8329dfe86e26b", func := "ferryman/ferrymanlaw21.ShipTakes", spec := "shipTakes", inPlace := ["slices.overlaps[int]", "slices.overlaps[ferryman/api.Entry]", "maps.clone"], unfollowed := true, recurses := true, apart := false, narrowed := true }
def ShipTakesUptoSaid : Prop := shipTakesUptoRow.holds Tryz.pinned (OpenSpec.upto shipTakesSpec)

/-- 'ferrymanlaw21.ShipIdle', WHERE WHAT IT READS IS OF BULK AT MOST 1048576: true; the input reads as it did. -/
def shipIdleUptoRow : OpenClaim := { program := "ytnppecdklidmmaagreat", sum := "1f64c5b4297a6161c2f51fc02102417636ccea8ad6b1f6c8fcd8329dfe86e26b", func := "ferryman/ferrymanlaw21.ShipIdle", spec := "shipIdle", inPlace := ["slices.overlaps[int]", "slices.overlaps[ferryman/api.Entry]", "maps.clone"], unfollowed := true, recurses := true, apart := false, narrowed := true }
def ShipIdleUptoSaid : Prop := shipIdleUptoRow.holds Tryz.pinned (OpenSpec.upto shipIdleSpec)

end Rows
end Go.Proofs.YtnppecdklidmmaaGreat
