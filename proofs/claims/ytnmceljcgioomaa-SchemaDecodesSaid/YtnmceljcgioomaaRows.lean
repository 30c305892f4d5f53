/-
  No cell of these rows narrows 'for every input' (looked for: loops, veiled, ifaces, maps, wideKeys, modest, calm, conditions, laid).
  DERIVED. THE GIVEN ROWS OF THIS SEAT. 15 by the template 'for every input the law returns true; each argument reads behind the call as it read before'; 0 by the template 'total and deterministic' (their statements: YtnmceljcgioomaaTotals.lean).
  GIVEN WITH THE SEED: the statements are not yours to turn. If you find one false, say at which input.
  Laid BY PROGRAM, IN A SANDBOX (cutbox-rows.mjs): the forced cells as the released guide's own fill.sh prints them over the translation 46ff974b7e78bfad… (all of the seat's roots in one cut). By AI agents, Wed Nov 11 2026. No macro, syntax, notation, axiom, sorry.
-/
import Derived.Test.YtnmceljcgioomaaChecked
import GoSem.Claim
import GoSem.ClaimJoined
import GoSem.ClaimMapViews
import Derived.JoinedTies
import Derived.KernelRfl
namespace Go.Proofs.Ytnmceljcgioomaa
/- THE CELL 'sum', in the pinned program and in every row, IS THE sha256 OF THE DUMP (.gsa) THAT YtnmceljcgioomaaProg.lean LOADS. Nothing in Lean hashes anything: it is a label: what it is worth is what the hold of that sum in a sandbox is worth. -/
noncomputable def Try.pinned : Pinned := { name := "ytnmceljcgioomaa", sum := "46ff974b7e78bfad547a0f793b70f1ccab71a8cdaa7cd59c60731c20e8a4bbfe", checked := Try.checked }
namespace Rows
def none {H : Type} : Left H := { results := [], args := [] }

/-- 'ferrymanlaw06.SchemaEncodes': WHATEVER THE INPUT: true; the input reads as it did. -/
def schemaEncodesSpec : ChangeSpec := { name := "schemaEncodes", fn := fun _ => fun
  | [d1, d2] => { results := [.lit (.bool true)], args := [d1, d2] }
  | _ => none }
def schemaEncodesRow : OpenClaim := { program := "ytnmceljcgioomaa", sum := "46ff974b7e78bfad547a0f793b70f1ccab71a8cdaa7cd59c60731c20e8a4bbfe", func := "ferryman/ferrymanlaw06.SchemaEncodes", spec := "schemaEncodes", apart := false }
def SchemaEncodesSaid : Prop := schemaEncodesRow.holds Try.pinned (OpenSpec.ofChange schemaEncodesSpec)

/-- ITS FALSE NEIGHBOUR: 'it returns false'. Refute it at one input. -/
def schemaEncodesWrong : ChangeSpec := { name := "schemaEncodes", fn := fun _ => fun
  | [d1, d2] => { results := [.lit (.bool false)], args := [d1, d2] }
  | _ => none }
def SchemaEncodesWrongFalsely : Prop := schemaEncodesRow.holds Try.pinned (OpenSpec.ofChange schemaEncodesWrong)

/-- 'ferrymanlaw06.SchemaApart': WHATEVER THE INPUT: true; the input reads as it did. -/
def schemaApartSpec : ChangeSpec := { name := "schemaApart", fn := fun _ => fun
  | [d1, d2, d3] => { results := [.lit (.bool true)], args := [d1, d2, d3] }
  | _ => none }
def schemaApartRow : OpenClaim := { program := "ytnmceljcgioomaa", sum := "46ff974b7e78bfad547a0f793b70f1ccab71a8cdaa7cd59c60731c20e8a4bbfe", func := "ferryman/ferrymanlaw06.SchemaApart", spec := "schemaApart", apart := false }
def SchemaApartSaid : Prop := schemaApartRow.holds Try.pinned (OpenSpec.ofChange schemaApartSpec)

/-- ITS FALSE NEIGHBOUR: 'it returns false'. Refute it at one input. -/
def schemaApartWrong : ChangeSpec := { name := "schemaApart", fn := fun _ => fun
  | [d1, d2, d3] => { results := [.lit (.bool false)], args := [d1, d2, d3] }
  | _ => none }
def SchemaApartWrongFalsely : Prop := schemaApartRow.holds Try.pinned (OpenSpec.ofChange schemaApartWrong)

/-- 'ferrymanlaw06.SchemaAgain': WHATEVER THE INPUT: true; the input reads as it did. -/
def schemaAgainSpec : ChangeSpec := { name := "schemaAgain", fn := fun _ => fun
  | [d1, d2] => { results := [.lit (.bool true)], args := [d1, d2] }
  | _ => none }
def schemaAgainRow : OpenClaim := { program := "ytnmceljcgioomaa", sum := "46ff974b7e78bfad547a0f793b70f1ccab71a8cdaa7cd59c60731c20e8a4bbfe", func := "ferryman/ferrymanlaw06.SchemaAgain", spec := "schemaAgain", apart := false }
def SchemaAgainSaid : Prop := schemaAgainRow.holds Try.pinned (OpenSpec.ofChange schemaAgainSpec)

/-- ITS FALSE NEIGHBOUR: 'it returns false'. Refute it at one input. -/
def schemaAgainWrong : ChangeSpec := { name := "schemaAgain", fn := fun _ => fun
  | [d1, d2] => { results := [.lit (.bool false)], args := [d1, d2] }
  | _ => none }
def SchemaAgainWrongFalsely : Prop := schemaAgainRow.holds Try.pinned (OpenSpec.ofChange schemaAgainWrong)

/-- 'ferrymanlaw03.FrameEncodes': WHATEVER THE INPUT: true; the input reads as it did. -/
def frameEncodesSpec : ChangeSpec := { name := "frameEncodes", fn := fun _ => fun
  | [d1, d2] => { results := [.lit (.bool true)], args := [d1, d2] }
  | _ => none }
def frameEncodesRow : OpenClaim := { program := "ytnmceljcgioomaa", sum := "46ff974b7e78bfad547a0f793b70f1ccab71a8cdaa7cd59c60731c20e8a4bbfe", func := "ferryman/ferrymanlaw03.FrameEncodes", spec := "frameEncodes", unfollowed := true, recurses := true, apart := false }
def FrameEncodesSaid : Prop := frameEncodesRow.holds Try.pinned (OpenSpec.ofChange frameEncodesSpec)

/-- ITS FALSE NEIGHBOUR: 'it returns false'. Refute it at one input. -/
def frameEncodesWrong : ChangeSpec := { name := "frameEncodes", fn := fun _ => fun
  | [d1, d2] => { results := [.lit (.bool false)], args := [d1, d2] }
  | _ => none }
def FrameEncodesWrongFalsely : Prop := frameEncodesRow.holds Try.pinned (OpenSpec.ofChange frameEncodesWrong)

/-- 'ferrymanlaw03.FrameBack': WHATEVER THE INPUT: true; the input reads as it did. -/
def frameBackSpec : ChangeSpec := { name := "frameBack", fn := fun _ => fun
  | [d1, d2] => { results := [.lit (.bool true)], args := [d1, d2] }
  | _ => none }
def frameBackRow : OpenClaim := { program := "ytnmceljcgioomaa", sum := "46ff974b7e78bfad547a0f793b70f1ccab71a8cdaa7cd59c60731c20e8a4bbfe", func := "ferryman/ferrymanlaw03.FrameBack", spec := "frameBack", unfollowed := true, recurses := true, apart := false }
def FrameBackSaid : Prop := frameBackRow.holds Try.pinned (OpenSpec.ofChange frameBackSpec)

/-- ITS FALSE NEIGHBOUR: 'it returns false'. Refute it at one input. -/
def frameBackWrong : ChangeSpec := { name := "frameBack", fn := fun _ => fun
  | [d1, d2] => { results := [.lit (.bool false)], args := [d1, d2] }
  | _ => none }
def FrameBackWrongFalsely : Prop := frameBackRow.holds Try.pinned (OpenSpec.ofChange frameBackWrong)

/-- 'ferrymanlaw03.FrameOnce': WHATEVER THE INPUT: true; the input reads as it did. -/
def frameOnceSpec : ChangeSpec := { name := "frameOnce", fn := fun _ => fun
  | [d] => { results := [.lit (.bool true)], args := [d] }
  | _ => none }
def frameOnceRow : OpenClaim := { program := "ytnmceljcgioomaa", sum := "46ff974b7e78bfad547a0f793b70f1ccab71a8cdaa7cd59c60731c20e8a4bbfe", func := "ferryman/ferrymanlaw03.FrameOnce", spec := "frameOnce", unfollowed := true, recurses := true, apart := false }
def FrameOnceSaid : Prop := frameOnceRow.holds Try.pinned (OpenSpec.ofChange frameOnceSpec)

/-- ITS FALSE NEIGHBOUR: 'it returns false'. Refute it at one input. -/
def frameOnceWrong : ChangeSpec := { name := "frameOnce", fn := fun _ => fun
  | [d] => { results := [.lit (.bool false)], args := [d] }
  | _ => none }
def FrameOnceWrongFalsely : Prop := frameOnceRow.holds Try.pinned (OpenSpec.ofChange frameOnceWrong)

/-- 'ferrymanlaw03.FrameBursts': WHATEVER THE INPUT: true; the input reads as it did. -/
def frameBurstsSpec : ChangeSpec := { name := "frameBursts", fn := fun _ => fun
  | [d1, d2, d3] => { results := [.lit (.bool true)], args := [d1, d2, d3] }
  | _ => none }
def frameBurstsRow : OpenClaim := { program := "ytnmceljcgioomaa", sum := "46ff974b7e78bfad547a0f793b70f1ccab71a8cdaa7cd59c60731c20e8a4bbfe", func := "ferryman/ferrymanlaw03.FrameBursts", spec := "frameBursts", unfollowed := true, recurses := true, apart := false }
def FrameBurstsSaid : Prop := frameBurstsRow.holds Try.pinned (OpenSpec.ofChange frameBurstsSpec)

/-- ITS FALSE NEIGHBOUR: 'it returns false'. Refute it at one input. -/
def frameBurstsWrong : ChangeSpec := { name := "frameBursts", fn := fun _ => fun
  | [d1, d2, d3] => { results := [.lit (.bool false)], args := [d1, d2, d3] }
  | _ => none }
def FrameBurstsWrongFalsely : Prop := frameBurstsRow.holds Try.pinned (OpenSpec.ofChange frameBurstsWrong)

/-- 'ferrymanlaw03.FrameSizes': WHATEVER THE INPUT: true; the input reads as it did. -/
def frameSizesSpec : ChangeSpec := { name := "frameSizes", fn := fun _ => fun
  | [d1, d2] => { results := [.lit (.bool true)], args := [d1, d2] }
  | _ => none }
def frameSizesRow : OpenClaim := { program := "ytnmceljcgioomaa", sum := "46ff974b7e78bfad547a0f793b70f1ccab71a8cdaa7cd59c60731c20e8a4bbfe", func := "ferryman/ferrymanlaw03.FrameSizes", spec := "frameSizes", unfollowed := true, recurses := true, apart := false }
def FrameSizesSaid : Prop := frameSizesRow.holds Try.pinned (OpenSpec.ofChange frameSizesSpec)

/-- ITS FALSE NEIGHBOUR: 'it returns false'. Refute it at one input. -/
def frameSizesWrong : ChangeSpec := { name := "frameSizes", fn := fun _ => fun
  | [d1, d2] => { results := [.lit (.bool false)], args := [d1, d2] }
  | _ => none }
def FrameSizesWrongFalsely : Prop := frameSizesRow.holds Try.pinned (OpenSpec.ofChange frameSizesWrong)

/-- 'ferrymanlaw03.FrameDecodes': WHATEVER THE INPUT: true; the input reads as it did. -/
def frameDecodesSpec : ChangeSpec := { name := "frameDecodes", fn := fun _ => fun
  | [d] => { results := [.lit (.bool true)], args := [d] }
  | _ => none }
def frameDecodesRow : OpenClaim := { program := "ytnmceljcgioomaa", sum := "46ff974b7e78bfad547a0f793b70f1ccab71a8cdaa7cd59c60731c20e8a4bbfe", func := "ferryman/ferrymanlaw03.FrameDecodes", spec := "frameDecodes", unfollowed := true, recurses := true, apart := false }
def FrameDecodesSaid : Prop := frameDecodesRow.holds Try.pinned (OpenSpec.ofChange frameDecodesSpec)

/-- ITS FALSE NEIGHBOUR: 'it returns false'. Refute it at one input. -/
def frameDecodesWrong : ChangeSpec := { name := "frameDecodes", fn := fun _ => fun
  | [d] => { results := [.lit (.bool false)], args := [d] }
  | _ => none }
def FrameDecodesWrongFalsely : Prop := frameDecodesRow.holds Try.pinned (OpenSpec.ofChange frameDecodesWrong)

/-- 'ferrymanlaw03.FrameCuts': WHATEVER THE INPUT: true; the input reads as it did. -/
def frameCutsSpec : ChangeSpec := { name := "frameCuts", fn := fun _ => fun
  | [d1, d2] => { results := [.lit (.bool true)], args := [d1, d2] }
  | _ => none }
def frameCutsRow : OpenClaim := { program := "ytnmceljcgioomaa", sum := "46ff974b7e78bfad547a0f793b70f1ccab71a8cdaa7cd59c60731c20e8a4bbfe", func := "ferryman/ferrymanlaw03.FrameCuts", spec := "frameCuts", unfollowed := true, recurses := true, apart := false }
def FrameCutsSaid : Prop := frameCutsRow.holds Try.pinned (OpenSpec.ofChange frameCutsSpec)

/-- ITS FALSE NEIGHBOUR: 'it returns false'. Refute it at one input. -/
def frameCutsWrong : ChangeSpec := { name := "frameCuts", fn := fun _ => fun
  | [d1, d2] => { results := [.lit (.bool false)], args := [d1, d2] }
  | _ => none }
def FrameCutsWrongFalsely : Prop := frameCutsRow.holds Try.pinned (OpenSpec.ofChange frameCutsWrong)

/-- 'ferrymanlaw06.SchemaDecodes': WHATEVER THE INPUT: true; the input reads as it did. -/
def schemaDecodesSpec : ChangeSpec := { name := "schemaDecodes", fn := fun _ => fun
  | [d] => { results := [.lit (.bool true)], args := [d] }
  | _ => none }
def schemaDecodesRow : OpenClaim := { program := "ytnmceljcgioomaa", sum := "46ff974b7e78bfad547a0f793b70f1ccab71a8cdaa7cd59c60731c20e8a4bbfe", func := "ferryman/ferrymanlaw06.SchemaDecodes", spec := "schemaDecodes", unfollowed := true, recurses := true, apart := false }
def SchemaDecodesSaid : Prop := schemaDecodesRow.holds Try.pinned (OpenSpec.ofChange schemaDecodesSpec)

/-- ITS FALSE NEIGHBOUR: 'it returns false'. Refute it at one input. -/
def schemaDecodesWrong : ChangeSpec := { name := "schemaDecodes", fn := fun _ => fun
  | [d] => { results := [.lit (.bool false)], args := [d] }
  | _ => none }
def SchemaDecodesWrongFalsely : Prop := schemaDecodesRow.holds Try.pinned (OpenSpec.ofChange schemaDecodesWrong)

/-- 'ferrymanlaw06.SchemaOnce': WHATEVER THE INPUT: true; the input reads as it did. -/
def schemaOnceSpec : ChangeSpec := { name := "schemaOnce", fn := fun _ => fun
  | [d] => { results := [.lit (.bool true)], args := [d] }
  | _ => none }
def schemaOnceRow : OpenClaim := { program := "ytnmceljcgioomaa", sum := "46ff974b7e78bfad547a0f793b70f1ccab71a8cdaa7cd59c60731c20e8a4bbfe", func := "ferryman/ferrymanlaw06.SchemaOnce", spec := "schemaOnce", unfollowed := true, recurses := true, apart := false }
def SchemaOnceSaid : Prop := schemaOnceRow.holds Try.pinned (OpenSpec.ofChange schemaOnceSpec)

/-- ITS FALSE NEIGHBOUR: 'it returns false'. Refute it at one input. -/
def schemaOnceWrong : ChangeSpec := { name := "schemaOnce", fn := fun _ => fun
  | [d] => { results := [.lit (.bool false)], args := [d] }
  | _ => none }
def SchemaOnceWrongFalsely : Prop := schemaOnceRow.holds Try.pinned (OpenSpec.ofChange schemaOnceWrong)

/-- 'ferrymanlaw06.SchemaCuts': WHATEVER THE INPUT: true; the input reads as it did. -/
def schemaCutsSpec : ChangeSpec := { name := "schemaCuts", fn := fun _ => fun
  | [d1, d2, d3, d4] => { results := [.lit (.bool true)], args := [d1, d2, d3, d4] }
  | _ => none }
def schemaCutsRow : OpenClaim := { program := "ytnmceljcgioomaa", sum := "46ff974b7e78bfad547a0f793b70f1ccab71a8cdaa7cd59c60731c20e8a4bbfe", func := "ferryman/ferrymanlaw06.SchemaCuts", spec := "schemaCuts", unfollowed := true, recurses := true, apart := false }
def SchemaCutsSaid : Prop := schemaCutsRow.holds Try.pinned (OpenSpec.ofChange schemaCutsSpec)

/-- ITS FALSE NEIGHBOUR: 'it returns false'. Refute it at one input. -/
def schemaCutsWrong : ChangeSpec := { name := "schemaCuts", fn := fun _ => fun
  | [d1, d2, d3, d4] => { results := [.lit (.bool false)], args := [d1, d2, d3, d4] }
  | _ => none }
def SchemaCutsWrongFalsely : Prop := schemaCutsRow.holds Try.pinned (OpenSpec.ofChange schemaCutsWrong)

/-- 'ferrymanlaw06.SchemaBack': WHATEVER THE INPUT: true; the input reads as it did. -/
def schemaBackSpec : ChangeSpec := { name := "schemaBack", fn := fun _ => fun
  | [d1, d2] => { results := [.lit (.bool true)], args := [d1, d2] }
  | _ => none }
def schemaBackRow : OpenClaim := { program := "ytnmceljcgioomaa", sum := "46ff974b7e78bfad547a0f793b70f1ccab71a8cdaa7cd59c60731c20e8a4bbfe", func := "ferryman/ferrymanlaw06.SchemaBack", spec := "schemaBack", unfollowed := true, recurses := true, apart := false }
def SchemaBackSaid : Prop := schemaBackRow.holds Try.pinned (OpenSpec.ofChange schemaBackSpec)

/-- ITS FALSE NEIGHBOUR: 'it returns false'. Refute it at one input. -/
def schemaBackWrong : ChangeSpec := { name := "schemaBack", fn := fun _ => fun
  | [d1, d2] => { results := [.lit (.bool false)], args := [d1, d2] }
  | _ => none }
def SchemaBackWrongFalsely : Prop := schemaBackRow.holds Try.pinned (OpenSpec.ofChange schemaBackWrong)

/-- 'ferrymanlaw06.SchemaStrange': WHATEVER THE INPUT: true; the input reads as it did. -/
def schemaStrangeSpec : ChangeSpec := { name := "schemaStrange", fn := fun _ => fun
  | [d1, d2, d3, d4] => { results := [.lit (.bool true)], args := [d1, d2, d3, d4] }
  | _ => none }
def schemaStrangeRow : OpenClaim := { program := "ytnmceljcgioomaa", sum := "46ff974b7e78bfad547a0f793b70f1ccab71a8cdaa7cd59c60731c20e8a4bbfe", func := "ferryman/ferrymanlaw06.SchemaStrange", spec := "schemaStrange", unfollowed := true, recurses := true, apart := false }
def SchemaStrangeSaid : Prop := schemaStrangeRow.holds Try.pinned (OpenSpec.ofChange schemaStrangeSpec)

/-- ITS FALSE NEIGHBOUR: 'it returns false'. Refute it at one input. -/
def schemaStrangeWrong : ChangeSpec := { name := "schemaStrange", fn := fun _ => fun
  | [d1, d2, d3, d4] => { results := [.lit (.bool false)], args := [d1, d2, d3, d4] }
  | _ => none }
def SchemaStrangeWrongFalsely : Prop := schemaStrangeRow.holds Try.pinned (OpenSpec.ofChange schemaStrangeWrong)

/- THE SECOND FORM. 'bulk': how many values and letters a reading holds, each counted each time it is reached (what is shared counts as often as it is met; a slice's spare places count too). A statement '..UptoSaid' is the law's where the arguments, and the package variables that the reading takes, are together of bulk at most 1048576: NARROWER than '..Said'. Prove '..Said' where nothing that the law and all that it calls make is longer than what came in: it says more and counts as full. Else prove '..UptoSaid'. A law counts once. -/
mutual
def uptoBulk {H : Type} : DataW H → Nat
  | .lit (.string bytes) => bytes.length + 1
  | .lit _ => 1
  | .nil => 1
  | .ptr d => uptoBulk d + 1
  | .slice elems spare => uptoBulkAll elems + uptoBulkAll spare + 1
  | .agg parts => uptoBulkAll parts + 1
  | .iface _ d => uptoBulk d + 1
  | .map entries => uptoBulkEntries entries + 1
  | .held _ => 1
def uptoBulkAll {H : Type} : List (DataW H) → Nat
  | [] => 0
  | d :: r => uptoBulk d + uptoBulkAll r
def uptoBulkEntries {H : Type} : List (Lit × DataW H) → Nat
  | [] => 0
  | x :: r => uptoBulkEntry x + uptoBulkEntries r
def uptoBulkEntry {H : Type} : Lit × DataW H → Nat
  | (.string bytes, d) => bytes.length + uptoBulk d + 1
  | (_, d) => uptoBulk d + 1
 end
def uptoSmall : (H : Type) → List (DataW H) → Bool := fun _ ds => decide (uptoBulkAll ds ≤ 1048576)
def OpenSpec.upto (s : _root_.Go.ChangeSpec) : _root_.Go.OpenSpec := { _root_.Go.OpenSpec.ofChange s with cond := some uptoSmall }

/-- 'ferrymanlaw06.SchemaEncodes', WHERE WHAT IT READS IS OF BULK AT MOST 1048576: true; the input reads as it did. -/
def schemaEncodesUptoRow : OpenClaim := { program := "ytnmceljcgioomaa", sum := "46ff974b7e78bfad547a0f793b70f1ccab71a8cdaa7cd59c60731c20e8a4bbfe", func := "ferryman/ferrymanlaw06.SchemaEncodes", spec := "schemaEncodes", apart := false, narrowed := true }
def SchemaEncodesUptoSaid : Prop := schemaEncodesUptoRow.holds Try.pinned (OpenSpec.upto schemaEncodesSpec)

/-- 'ferrymanlaw06.SchemaApart', WHERE WHAT IT READS IS OF BULK AT MOST 1048576: true; the input reads as it did. -/
def schemaApartUptoRow : OpenClaim := { program := "ytnmceljcgioomaa", sum := "46ff974b7e78bfad547a0f793b70f1ccab71a8cdaa7cd59c60731c20e8a4bbfe", func := "ferryman/ferrymanlaw06.SchemaApart", spec := "schemaApart", apart := false, narrowed := true }
def SchemaApartUptoSaid : Prop := schemaApartUptoRow.holds Try.pinned (OpenSpec.upto schemaApartSpec)

/-- 'ferrymanlaw06.SchemaAgain', WHERE WHAT IT READS IS OF BULK AT MOST 1048576: true; the input reads as it did. -/
def schemaAgainUptoRow : OpenClaim := { program := "ytnmceljcgioomaa", sum := "46ff974b7e78bfad547a0f793b70f1ccab71a8cdaa7cd59c60731c20e8a4bbfe", func := "ferryman/ferrymanlaw06.SchemaAgain", spec := "schemaAgain", apart := false, narrowed := true }
def SchemaAgainUptoSaid : Prop := schemaAgainUptoRow.holds Try.pinned (OpenSpec.upto schemaAgainSpec)

/-- 'ferrymanlaw03.FrameEncodes', WHERE WHAT IT READS IS OF BULK AT MOST 1048576: true; the input reads as it did. -/
def frameEncodesUptoRow : OpenClaim := { program := "ytnmceljcgioomaa", sum := "46ff974b7e78bfad547a0f793b70f1ccab71a8cdaa7cd59c60731c20e8a4bbfe", func := "ferryman/ferrymanlaw03.FrameEncodes", spec := "frameEncodes", unfollowed := true, recurses := true, apart := false, narrowed := true }
def FrameEncodesUptoSaid : Prop := frameEncodesUptoRow.holds Try.pinned (OpenSpec.upto frameEncodesSpec)

/-- 'ferrymanlaw03.FrameBack', WHERE WHAT IT READS IS OF BULK AT MOST 1048576: true; the input reads as it did. -/
def frameBackUptoRow : OpenClaim := { program := "ytnmceljcgioomaa", sum := "46ff974b7e78bfad547a0f793b70f1ccab71a8cdaa7cd59c60731c20e8a4bbfe", func := "ferryman/ferrymanlaw03.FrameBack", spec := "frameBack", unfollowed := true, recurses := true, apart := false, narrowed := true }
def FrameBackUptoSaid : Prop := frameBackUptoRow.holds Try.pinned (OpenSpec.upto frameBackSpec)

/-- 'ferrymanlaw03.FrameOnce', WHERE WHAT IT READS IS OF BULK AT MOST 1048576: true; the input reads as it did. -/
def frameOnceUptoRow : OpenClaim := { program := "ytnmceljcgioomaa", sum := "46ff974b7e78bfad547a0f793b70f1ccab71a8cdaa7cd59c60731c20e8a4bbfe", func := "ferryman/ferrymanlaw03.FrameOnce", spec := "frameOnce", unfollowed := true, recurses := true, apart := false, narrowed := true }
def FrameOnceUptoSaid : Prop := frameOnceUptoRow.holds Try.pinned (OpenSpec.upto frameOnceSpec)

/-- 'ferrymanlaw03.FrameBursts', WHERE WHAT IT READS IS OF BULK AT MOST 1048576: true; the input reads as it did. -/
def frameBurstsUptoRow : OpenClaim := { program := "ytnmceljcgioomaa", sum := "46ff974b7e78bfad547a0f793b70f1ccab71a8cdaa7cd59c60731c20e8a4bbfe", func := "ferryman/ferrymanlaw03.FrameBursts", spec := "frameBursts", unfollowed := true, recurses := true, apart := false, narrowed := true }
def FrameBurstsUptoSaid : Prop := frameBurstsUptoRow.holds Try.pinned (OpenSpec.upto frameBurstsSpec)

/-- 'ferrymanlaw03.FrameSizes', WHERE WHAT IT READS IS OF BULK AT MOST 1048576: true; the input reads as it did. -/
def frameSizesUptoRow : OpenClaim := { program := "ytnmceljcgioomaa", sum := "46ff974b7e78bfad547a0f793b70f1ccab71a8cdaa7cd59c60731c20e8a4bbfe", func := "ferryman/ferrymanlaw03.FrameSizes", spec := "frameSizes", unfollowed := true, recurses := true, apart := false, narrowed := true }
def FrameSizesUptoSaid : Prop := frameSizesUptoRow.holds Try.pinned (OpenSpec.upto frameSizesSpec)

/-- 'ferrymanlaw03.FrameDecodes', WHERE WHAT IT READS IS OF BULK AT MOST 1048576: true; the input reads as it did. -/
def frameDecodesUptoRow : OpenClaim := { program := "ytnmceljcgioomaa", sum := "46ff974b7e78bfad547a0f793b70f1ccab71a8cdaa7cd59c60731c20e8a4bbfe", func := "ferryman/ferrymanlaw03.FrameDecodes", spec := "frameDecodes", unfollowed := true, recurses := true, apart := false, narrowed := true }
def FrameDecodesUptoSaid : Prop := frameDecodesUptoRow.holds Try.pinned (OpenSpec.upto frameDecodesSpec)

/-- 'ferrymanlaw03.FrameCuts', WHERE WHAT IT READS IS OF BULK AT MOST 1048576: true; the input reads as it did. -/
def frameCutsUptoRow : OpenClaim := { program := "ytnmceljcgioomaa", sum := "46ff974b7e78bfad547a0f793b70f1ccab71a8cdaa7cd59c60731c20e8a4bbfe", func := "ferryman/ferrymanlaw03.FrameCuts", spec := "frameCuts", unfollowed := true, recurses := true, apart := false, narrowed := true }
def FrameCutsUptoSaid : Prop := frameCutsUptoRow.holds Try.pinned (OpenSpec.upto frameCutsSpec)

/-- 'ferrymanlaw06.SchemaDecodes', WHERE WHAT IT READS IS OF BULK AT MOST 1048576: true; the input reads as it did. -/
def schemaDecodesUptoRow : OpenClaim := { program := "ytnmceljcgioomaa", sum := "46ff974b7e78bfad547a0f793b70f1ccab71a8cdaa7cd59c60731c20e8a4bbfe", func := "ferryman/ferrymanlaw06.SchemaDecodes", spec := "schemaDecodes", unfollowed := true, recurses := true, apart := false, narrowed := true }
def SchemaDecodesUptoSaid : Prop := schemaDecodesUptoRow.holds Try.pinned (OpenSpec.upto schemaDecodesSpec)

/-- 'ferrymanlaw06.SchemaOnce', WHERE WHAT IT READS IS OF BULK AT MOST 1048576: true; the input reads as it did. -/
def schemaOnceUptoRow : OpenClaim := { program := "ytnmceljcgioomaa", sum := "46ff974b7e78bfad547a0f793b70f1ccab71a8cdaa7cd59c60731c20e8a4bbfe", func := "ferryman/ferrymanlaw06.SchemaOnce", spec := "schemaOnce", unfollowed := true, recurses := true, apart := false, narrowed := true }
def SchemaOnceUptoSaid : Prop := schemaOnceUptoRow.holds Try.pinned (OpenSpec.upto schemaOnceSpec)

/-- 'ferrymanlaw06.SchemaCuts', WHERE WHAT IT READS IS OF BULK AT MOST 1048576: true; the input reads as it did. -/
def schemaCutsUptoRow : OpenClaim := { program := "ytnmceljcgioomaa", sum := "46ff974b7e78bfad547a0f793b70f1ccab71a8cdaa7cd59c60731c20e8a4bbfe", func := "ferryman/ferrymanlaw06.SchemaCuts", spec := "schemaCuts", unfollowed := true, recurses := true, apart := false, narrowed := true }
def SchemaCutsUptoSaid : Prop := schemaCutsUptoRow.holds Try.pinned (OpenSpec.upto schemaCutsSpec)

/-- 'ferrymanlaw06.SchemaBack', WHERE WHAT IT READS IS OF BULK AT MOST 1048576: true; the input reads as it did. -/
def schemaBackUptoRow : OpenClaim := { program := "ytnmceljcgioomaa", sum := "46ff974b7e78bfad547a0f793b70f1ccab71a8cdaa7cd59c60731c20e8a4bbfe", func := "ferryman/ferrymanlaw06.SchemaBack", spec := "schemaBack", unfollowed := true, recurses := true, apart := false, narrowed := true }
def SchemaBackUptoSaid : Prop := schemaBackUptoRow.holds Try.pinned (OpenSpec.upto schemaBackSpec)

/-- 'ferrymanlaw06.SchemaStrange', WHERE WHAT IT READS IS OF BULK AT MOST 1048576: true; the input reads as it did. -/
def schemaStrangeUptoRow : OpenClaim := { program := "ytnmceljcgioomaa", sum := "46ff974b7e78bfad547a0f793b70f1ccab71a8cdaa7cd59c60731c20e8a4bbfe", func := "ferryman/ferrymanlaw06.SchemaStrange", spec := "schemaStrange", unfollowed := true, recurses := true, apart := false, narrowed := true }
def SchemaStrangeUptoSaid : Prop := schemaStrangeUptoRow.holds Try.pinned (OpenSpec.upto schemaStrangeSpec)

end Rows
end Go.Proofs.Ytnmceljcgioomaa
