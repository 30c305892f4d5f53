/-
  No cell of these rows narrows 'for every input' (looked for: loops, veiled, ifaces, maps, wideKeys, modest, calm, conditions, laid).
  DERIVED. THE GIVEN ROWS OF THIS SEAT. 9 by the template 'for every input the law returns true; each argument reads behind the call as it read before'; 0 by the template 'total and deterministic' (their statements: YtfefdjloogcapaaGreatTotals.lean).
  GIVEN WITH THE SEED: the statements are not yours to turn. If you find one false, say at which input.
  Laid BY PROGRAM, IN A SANDBOX (cutbox-rows.mjs): the forced cells as the released guide's own fill.sh prints them over the translation 9ea3aba5a8cbb742… (all of the seat's roots in one cut). By AI agents, Wed Nov 11 2026. No macro, syntax, notation, axiom, sorry.
-/
import Derived.Test.YtfefdjloogcapaaGreatChecked
import GoSem.Claim
import GoSem.ClaimJoined
import GoSem.ClaimMapViews
import Derived.JoinedTies
import Derived.KernelRfl
namespace Go.Proofs.YtfefdjloogcapaaGreat
/- THE CELL 'sum', in the pinned program and in every row, IS THE sha256 OF THE DUMP (.gsa) THAT YtfefdjloogcapaaGreatProg.lean LOADS. Nothing in Lean hashes anything: it is a label: what it is worth is what the hold of that sum in a sandbox is worth. -/
noncomputable def Tryz.pinned : Pinned := { name := "ytfefdjloogcapaagreat", sum := "9ea3aba5a8cbb742854382cb31d52fa257ba2368812484570103998be6e1fa1e", checked := Tryz.checked }
namespace Rows
def none {H : Type} : Left H := { results := [], args := [] }

/-- 'ferrymanlaw12.StoreParts': WHATEVER THE INPUT: true; the input reads as it did. -/
def storePartsSpec : ChangeSpec := { name := "storeParts", fn := fun _ => fun
  | [d1, d2] => { results := [.lit (.bool true)], args := [d1, d2] }
  | _ => none }
def storePartsRow : OpenClaim := { program := "ytfefdjloogcapaagreat", sum := "9ea3aba5a8cbb742854382cb31d52fa257ba2368812484570103998be6e1fa1e", func := "ferryman/ferrymanlaw12.StoreParts", spec := "storeParts", inPlace := ["slices.overlaps[int]", "slices.overlaps[ferryman/api.Entry]", "maps.clone"], unfollowed := true, recurses := true, apart := false }
def StorePartsSaid : Prop := storePartsRow.holds Tryz.pinned (OpenSpec.ofChange storePartsSpec)

/-- ITS FALSE NEIGHBOUR: 'it returns false'. Refute it at one input. -/
def storePartsWrong : ChangeSpec := { name := "storeParts", fn := fun _ => fun
  | [d1, d2] => { results := [.lit (.bool false)], args := [d1, d2] }
  | _ => none }
def StorePartsWrongFalsely : Prop := storePartsRow.holds Tryz.pinned (OpenSpec.ofChange storePartsWrong)

/-- 'ferrymanlaw12.StoreReads': WHATEVER THE INPUT: true; the input reads as it did. -/
def storeReadsSpec : ChangeSpec := { name := "storeReads", fn := fun _ => fun
  | [d1, d2, d3, d4] => { results := [.lit (.bool true)], args := [d1, d2, d3, d4] }
  | _ => none }
def storeReadsRow : OpenClaim := { program := "ytfefdjloogcapaagreat", sum := "9ea3aba5a8cbb742854382cb31d52fa257ba2368812484570103998be6e1fa1e", func := "ferryman/ferrymanlaw12.StoreReads", spec := "storeReads", inPlace := ["slices.overlaps[int]", "slices.overlaps[ferryman/api.Entry]", "maps.clone"], unfollowed := true, recurses := true, apart := false }
def StoreReadsSaid : Prop := storeReadsRow.holds Tryz.pinned (OpenSpec.ofChange storeReadsSpec)

/-- ITS FALSE NEIGHBOUR: 'it returns false'. Refute it at one input. -/
def storeReadsWrong : ChangeSpec := { name := "storeReads", fn := fun _ => fun
  | [d1, d2, d3, d4] => { results := [.lit (.bool false)], args := [d1, d2, d3, d4] }
  | _ => none }
def StoreReadsWrongFalsely : Prop := storeReadsRow.holds Tryz.pinned (OpenSpec.ofChange storeReadsWrong)

/-- 'ferrymanlaw12.StoreOpens': WHATEVER THE INPUT: true; the input reads as it did. -/
def storeOpensSpec : ChangeSpec := { name := "storeOpens", fn := fun _ => fun
  | [d1, d2] => { results := [.lit (.bool true)], args := [d1, d2] }
  | _ => none }
def storeOpensRow : OpenClaim := { program := "ytfefdjloogcapaagreat", sum := "9ea3aba5a8cbb742854382cb31d52fa257ba2368812484570103998be6e1fa1e", func := "ferryman/ferrymanlaw12.StoreOpens", spec := "storeOpens", inPlace := ["slices.overlaps[int]", "slices.overlaps[ferryman/api.Entry]", "maps.clone"], unfollowed := true, recurses := true, apart := false }
def StoreOpensSaid : Prop := storeOpensRow.holds Tryz.pinned (OpenSpec.ofChange storeOpensSpec)

/-- ITS FALSE NEIGHBOUR: 'it returns false'. Refute it at one input. -/
def storeOpensWrong : ChangeSpec := { name := "storeOpens", fn := fun _ => fun
  | [d1, d2] => { results := [.lit (.bool false)], args := [d1, d2] }
  | _ => none }
def StoreOpensWrongFalsely : Prop := storeOpensRow.holds Tryz.pinned (OpenSpec.ofChange storeOpensWrong)

/-- 'ferrymanlaw13.RestoreFolds': WHATEVER THE INPUT: true; the input reads as it did. -/
def restoreFoldsSpec : ChangeSpec := { name := "restoreFolds", fn := fun _ => fun
  | [d1, d2, d3] => { results := [.lit (.bool true)], args := [d1, d2, d3] }
  | _ => none }
def restoreFoldsRow : OpenClaim := { program := "ytfefdjloogcapaagreat", sum := "9ea3aba5a8cbb742854382cb31d52fa257ba2368812484570103998be6e1fa1e", func := "ferryman/ferrymanlaw13.RestoreFolds", spec := "restoreFolds", inPlace := ["slices.overlaps[int]", "slices.overlaps[ferryman/api.Entry]", "maps.clone"], unfollowed := true, recurses := true, apart := false }
def RestoreFoldsSaid : Prop := restoreFoldsRow.holds Tryz.pinned (OpenSpec.ofChange restoreFoldsSpec)

/-- ITS FALSE NEIGHBOUR: 'it returns false'. Refute it at one input. -/
def restoreFoldsWrong : ChangeSpec := { name := "restoreFolds", fn := fun _ => fun
  | [d1, d2, d3] => { results := [.lit (.bool false)], args := [d1, d2, d3] }
  | _ => none }
def RestoreFoldsWrongFalsely : Prop := restoreFoldsRow.holds Tryz.pinned (OpenSpec.ofChange restoreFoldsWrong)

/-- 'ferrymanlaw12.StoreFull': WHATEVER THE INPUT: true; the input reads as it did. -/
def storeFullSpec : ChangeSpec := { name := "storeFull", fn := fun _ => fun
  | [d1, d2, d3, d4] => { results := [.lit (.bool true)], args := [d1, d2, d3, d4] }
  | _ => none }
def storeFullRow : OpenClaim := { program := "ytfefdjloogcapaagreat", sum := "9ea3aba5a8cbb742854382cb31d52fa257ba2368812484570103998be6e1fa1e", func := "ferryman/ferrymanlaw12.StoreFull", spec := "storeFull", inPlace := ["slices.overlaps[int]", "slices.overlaps[ferryman/api.Entry]", "maps.clone"], unfollowed := true, recurses := true, apart := false }
def StoreFullSaid : Prop := storeFullRow.holds Tryz.pinned (OpenSpec.ofChange storeFullSpec)

/-- ITS FALSE NEIGHBOUR: 'it returns false'. Refute it at one input. -/
def storeFullWrong : ChangeSpec := { name := "storeFull", fn := fun _ => fun
  | [d1, d2, d3, d4] => { results := [.lit (.bool false)], args := [d1, d2, d3, d4] }
  | _ => none }
def StoreFullWrongFalsely : Prop := storeFullRow.holds Tryz.pinned (OpenSpec.ofChange storeFullWrong)

/-- 'ferrymanlaw12.StoreLasts': WHATEVER THE INPUT: true; the input reads as it did. -/
def storeLastsSpec : ChangeSpec := { name := "storeLasts", fn := fun _ => fun
  | [d1, d2, d3, d4, d5] => { results := [.lit (.bool true)], args := [d1, d2, d3, d4, d5] }
  | _ => none }
def storeLastsRow : OpenClaim := { program := "ytfefdjloogcapaagreat", sum := "9ea3aba5a8cbb742854382cb31d52fa257ba2368812484570103998be6e1fa1e", func := "ferryman/ferrymanlaw12.StoreLasts", spec := "storeLasts", inPlace := ["slices.overlaps[int]", "slices.overlaps[ferryman/api.Entry]", "maps.clone"], unfollowed := true, recurses := true, apart := false }
def StoreLastsSaid : Prop := storeLastsRow.holds Tryz.pinned (OpenSpec.ofChange storeLastsSpec)

/-- ITS FALSE NEIGHBOUR: 'it returns false'. Refute it at one input. -/
def storeLastsWrong : ChangeSpec := { name := "storeLasts", fn := fun _ => fun
  | [d1, d2, d3, d4, d5] => { results := [.lit (.bool false)], args := [d1, d2, d3, d4, d5] }
  | _ => none }
def StoreLastsWrongFalsely : Prop := storeLastsRow.holds Tryz.pinned (OpenSpec.ofChange storeLastsWrong)

/-- 'ferrymanlaw12.StoreTwice': WHATEVER THE INPUT: true; the input reads as it did. -/
def storeTwiceSpec : ChangeSpec := { name := "storeTwice", fn := fun _ => fun
  | [d1, d2, d3, d4, d5] => { results := [.lit (.bool true)], args := [d1, d2, d3, d4, d5] }
  | _ => none }
def storeTwiceRow : OpenClaim := { program := "ytfefdjloogcapaagreat", sum := "9ea3aba5a8cbb742854382cb31d52fa257ba2368812484570103998be6e1fa1e", func := "ferryman/ferrymanlaw12.StoreTwice", spec := "storeTwice", inPlace := ["slices.overlaps[int]", "slices.overlaps[ferryman/api.Entry]", "maps.clone"], unfollowed := true, recurses := true, apart := false }
def StoreTwiceSaid : Prop := storeTwiceRow.holds Tryz.pinned (OpenSpec.ofChange storeTwiceSpec)

/-- ITS FALSE NEIGHBOUR: 'it returns false'. Refute it at one input. -/
def storeTwiceWrong : ChangeSpec := { name := "storeTwice", fn := fun _ => fun
  | [d1, d2, d3, d4, d5] => { results := [.lit (.bool false)], args := [d1, d2, d3, d4, d5] }
  | _ => none }
def StoreTwiceWrongFalsely : Prop := storeTwiceRow.holds Tryz.pinned (OpenSpec.ofChange storeTwiceWrong)

/-- 'ferrymanlaw21.ShipPrefix': WHATEVER THE INPUT: true; the input reads as it did. -/
def shipPrefixSpec : ChangeSpec := { name := "shipPrefix", fn := fun _ => fun
  | [d1, d2] => { results := [.lit (.bool true)], args := [d1, d2] }
  | _ => none }
def shipPrefixRow : OpenClaim := { program := "ytfefdjloogcapaagreat", sum := "9ea3aba5a8cbb742854382cb31d52fa257ba2368812484570103998be6e1fa1e", func := "ferryman/ferrymanlaw21.ShipPrefix", spec := "shipPrefix", inPlace := ["slices.overlaps[int]", "slices.overlaps[ferryman/api.Entry]", "maps.clone"], unfollowed := true, recurses := true, apart := false }
def ShipPrefixSaid : Prop := shipPrefixRow.holds Tryz.pinned (OpenSpec.ofChange shipPrefixSpec)

/-- ITS FALSE NEIGHBOUR: 'it returns false'. Refute it at one input. -/
def shipPrefixWrong : ChangeSpec := { name := "shipPrefix", fn := fun _ => fun
  | [d1, d2] => { results := [.lit (.bool false)], args := [d1, d2] }
  | _ => none }
def ShipPrefixWrongFalsely : Prop := shipPrefixRow.holds Tryz.pinned (OpenSpec.ofChange shipPrefixWrong)

/-- 'ferrymanlaw21.ShipCatches': WHATEVER THE INPUT: true; the input reads as it did. -/
def shipCatchesSpec : ChangeSpec := { name := "shipCatches", fn := fun _ => fun
  | [d1, d2, d3] => { results := [.lit (.bool true)], args := [d1, d2, d3] }
  | _ => none }
def shipCatchesRow : OpenClaim := { program := "ytfefdjloogcapaagreat", sum := "9ea3aba5a8cbb742854382cb31d52fa257ba2368812484570103998be6e1fa1e", func := "ferryman/ferrymanlaw21.ShipCatches", spec := "shipCatches", inPlace := ["slices.overlaps[int]", "slices.overlaps[ferryman/api.Entry]", "maps.clone"], unfollowed := true, recurses := true, apart := false }
def ShipCatchesSaid : Prop := shipCatchesRow.holds Tryz.pinned (OpenSpec.ofChange shipCatchesSpec)

/-- ITS FALSE NEIGHBOUR: 'it returns false'. Refute it at one input. -/
def shipCatchesWrong : ChangeSpec := { name := "shipCatches", fn := fun _ => fun
  | [d1, d2, d3] => { results := [.lit (.bool false)], args := [d1, d2, d3] }
  | _ => none }
def ShipCatchesWrongFalsely : Prop := shipCatchesRow.holds Tryz.pinned (OpenSpec.ofChange shipCatchesWrong)

/- THE SECOND FORM. 'bulk': how many values and letters a reading holds, each counted each time it is reached (what is shared counts as often as it is met; a slice's spare places count too). A statement '..UptoSaid' is the law's where the arguments, and the package variables that the reading takes, are together of bulk at most 1048576: NARROWER than '..Said'. Prove '..Said' where nothing that the law and all that it calls make is longer than what came in: it says more and counts as full. Else prove '..UptoSaid'. A law counts once. -/
mutual
def uptoBulk {H : Type} : DataW H → Nat
  | .lit (.string bytes) => bytes.length + 1
  | .lit _ => 1
  | .nil => 1
  | .ptr d => uptoBulk d + 1
  | .slice elems spare => uptoBulkAll elems + uptoBulkAll spare + 1
  | .agg parts => uptoBulkAll parts + 1
  | .iface _ d => uptoBulk d + 1
  | .map entries => uptoBulkEntries entries + 1
  | .held _ => 1
def uptoBulkAll {H : Type} : List (DataW H) → Nat
  | [] => 0
  | d :: r => uptoBulk d + uptoBulkAll r
def uptoBulkEntries {H : Type} : List (Lit × DataW H) → Nat
  | [] => 0
  | x :: r => uptoBulkEntry x + uptoBulkEntries r
def uptoBulkEntry {H : Type} : Lit × DataW H → Nat
  | (.string bytes, d) => bytes.length + uptoBulk d + 1
  | (_, d) => uptoBulk d + 1
 end
def uptoSmall : (H : Type) → List (DataW H) → Bool := fun _ ds => decide (uptoBulkAll ds ≤ 1048576)
def OpenSpec.upto (s : _root_.Go.ChangeSpec) : _root_.Go.OpenSpec := { _root_.Go.OpenSpec.ofChange s with cond := some uptoSmall }

/-- 'ferrymanlaw12.StoreParts', WHERE WHAT IT READS IS OF BULK AT MOST 1048576: true; the input reads as it did. -/
def storePartsUptoRow : OpenClaim := { program := "ytfefdjloogcapaagreat", sum := "9ea3aba5a8cbb742854382cb31d52fa257ba2368812484570103998be6e1fa1e", func := "ferryman/ferrymanlaw12.StoreParts", spec := "storeParts", inPlace := ["slices.overlaps[int]", "slices.overlaps[ferryman/api.Entry]", "maps.clone"], unfollowed := true, recurses := true, apart := false, narrowed := true }
def StorePartsUptoSaid : Prop := storePartsUptoRow.holds Tryz.pinned (OpenSpec.upto storePartsSpec)

/-- 'ferrymanlaw12.StoreReads', WHERE WHAT IT READS IS OF BULK AT MOST 1048576: true; the input reads as it did. -/
def storeReadsUptoRow : OpenClaim := { program := "ytfefdjloogcapaagreat", sum := "9ea3aba5a8cbb742854382cb31d52fa257ba2368812484570103998be6e1fa1e", func := "ferryman/ferrymanlaw12.StoreReads", spec := "storeReads", inPlace := ["slices.overlaps[int]", "slices.overlaps[ferryman/api.Entry]", "maps.clone"], unfollowed := true, recurses := true, apart := false, narrowed := true }
def StoreReadsUptoSaid : Prop := storeReadsUptoRow.holds Tryz.pinned (OpenSpec.upto storeReadsSpec)

/-- 'ferrymanlaw12.StoreOpens', WHERE WHAT IT READS IS OF BULK AT MOST 1048576: true; the input reads as it did. -/
def storeOpensUptoRow : OpenClaim := { program := "ytfefdjloogcapaagreat", sum := "9ea3aba5a8cbb742854382cb31d52fa257ba2368812484570103998be6e1fa1e", func := "ferryman/ferrymanlaw12.StoreOpens", spec := "storeOpens", inPlace := ["slices.overlaps[int]", "slices.overlaps[ferryman/api.Entry]", "maps.clone"], unfollowed := true, recurses := true, apart := false, narrowed := true }
def StoreOpensUptoSaid : Prop := storeOpensUptoRow.holds Tryz.pinned (OpenSpec.upto storeOpensSpec)

/-- 'ferrymanlaw13.RestoreFolds', WHERE WHAT IT READS IS OF BULK AT MOST 1048576: true; the input reads as it did. -/
def restoreFoldsUptoRow : OpenClaim := { program := "ytfefdjloogcapaagreat", sum := "9ea3aba5a8cbb742854382cb31d52fa257ba2368812484570103998be6e1fa1e", func := "ferryman/ferrymanlaw13.RestoreFolds", spec := "restoreFolds", inPlace := ["slices.overlaps[int]", "slices.overlaps[ferryman/api.Entry]", "maps.clone"], unfollowed := true, recurses := true, apart := false, narrowed := true }
def RestoreFoldsUptoSaid : Prop := restoreFoldsUptoRow.holds Tryz.pinned (OpenSpec.upto restoreFoldsSpec)

/-- 'ferrymanlaw12.StoreFull', WHERE WHAT IT READS IS OF BULK AT MOST 1048576: true; the input reads as it did. -/
def storeFullUptoRow : OpenClaim := { program := "ytfefdjloogcapaagreat", sum := "9ea3aba5a8cbb742854382cb31d52fa257ba2368812484570103998be6e1fa1e", func := "ferryman/ferrymanlaw12.StoreFull", spec := "storeFull", inPlace := ["slices.overlaps[int]", "slices.overlaps[ferryman/api.Entry]", "maps.clone"], unfollowed := true, recurses := true, apart := false, narrowed := true }
def StoreFullUptoSaid : Prop := storeFullUptoRow.holds Tryz.pinned (OpenSpec.upto storeFullSpec)

/-- 'ferrymanlaw12.StoreLasts', WHERE WHAT IT READS IS OF BULK AT MOST 1048576: true; the input reads as it did. -/
def storeLastsUptoRow : OpenClaim := { program := "ytfefdjloogcapaagreat", sum := "9ea3aba5a8cbb742854382cb31d52fa257ba2368812484570103998be6e1fa1e", func := "ferryman/ferrymanlaw12.StoreLasts", spec := "storeLasts", inPlace := ["slices.overlaps[int]", "slices.overlaps[ferryman/api.Entry]", "maps.clone"], unfollowed := true, recurses := true, apart := false, narrowed := true }
def StoreLastsUptoSaid : Prop := storeLastsUptoRow.holds Tryz.pinned (OpenSpec.upto storeLastsSpec)

/-- 'ferrymanlaw12.StoreTwice', WHERE WHAT IT READS IS OF BULK AT MOST 1048576: true; the input reads as it did. -/
def storeTwiceUptoRow : OpenClaim := { program := "ytfefdjloogcapaagreat", sum := "9ea3aba5a8cbb742854382cb31d52fa257ba2368812484570103998be6e1fa1e", func := "ferryman/ferrymanlaw12.StoreTwice", spec := "storeTwice", inPlace := ["slices.overlaps[int]", "slices.overlaps[ferryman/api.Entry]", "maps.clone"], unfollowed := true, recurses := true, apart := false, narrowed := true }
def StoreTwiceUptoSaid : Prop := storeTwiceUptoRow.holds Tryz.pinned (OpenSpec.upto storeTwiceSpec)

/-- 'ferrymanlaw21.ShipPrefix', WHERE WHAT IT READS IS OF BULK AT MOST 1048576: true; the input reads as it did. -/
def shipPrefixUptoRow : OpenClaim := { program := "ytfefdjloogcapaagreat", sum := "9ea3aba5a8cbb742854382cb31d52fa257ba2368812484570103998be6e1fa1e", func := "ferryman/ferrymanlaw21.ShipPrefix", spec := "shipPrefix", inPlace := ["slices.overlaps[int]", "slices.overlaps[ferryman/api.Entry]", "maps.clone"], unfollowed := true, recurses := true, apart := false, narrowed := true }
def ShipPrefixUptoSaid : Prop := shipPrefixUptoRow.holds Tryz.pinned (OpenSpec.upto shipPrefixSpec)

/-- 'ferrymanlaw21.ShipCatches', WHERE WHAT IT READS IS OF BULK AT MOST 1048576: true; the input reads as it did. -/
def shipCatchesUptoRow : OpenClaim := { program := "ytfefdjloogcapaagreat", sum := "9ea3aba5a8cbb742854382cb31d52fa257ba2368812484570103998be6e1fa1e", func := "ferryman/ferrymanlaw21.ShipCatches", spec := "shipCatches", inPlace := ["slices.overlaps[int]", "slices.overlaps[ferryman/api.Entry]", "maps.clone"], unfollowed := true, recurses := true, apart := false, narrowed := true }
def ShipCatchesUptoSaid : Prop := shipCatchesUptoRow.holds Tryz.pinned (OpenSpec.upto shipCatchesSpec)

end Rows
end Go.Proofs.YtfefdjloogcapaaGreat
