/- The law StoreParts holds for every input: called with any arguments that can be read as data, it answers true and leaves them as they were. -/
import Derived.Test.YtfefdjloogcapaaGreatQLw
import Derived.Test.YtfefdjloogcapaaGreatQLx
import Derived.Test.YtfefdjloogcapaaGreatRows
import Derived.Test.YtfefdjloogcapaaGreatQo
import Derived.Test.YtfefdjloogcapaaGreatQr1
import Derived.Test.YtfefdjloogcapaaGreatQp0
import Derived.WalkKit
import Derived.ProofKit
import Derived.OpenShut
import Derived.ChangeOld
import Derived.Below
import Derived.Carry
import Derived.SizedLaws
import Derived.RowKit
set_option linter.all false
set_option maxRecDepth 100000
set_option maxHeartbeats 4000000
namespace Go.Proofs.YtfefdjloogcapaaGreat.storeParts
open Go.ChangeShapes Go.WideShapes Go.ChangeAt Go.RowKit Go.Dvm Go.Dvm.C Go.Dvm.I
theorem over : Rows.storePartsRow.holds Tryz.pinned (OpenSpec.ofChange Rows.storePartsSpec) :=
 OpenClaim.holds_of_wide 3 Tryz.f3 rfl rfl rfl rfl rfl rfl rfl ⟨rfl, rfl, rfl, rfl, rfl⟩ rfl rfl rfl rfl rfl (by kernel_rfl) Tryz.func3 clad
  (of_decide_eq_true (by kernel_rfl)) (by unfold Func.isWrapper; first | (rw [if_pos (by decide +kernel)]; kernel_rfl) | (rw [if_neg (by decide +kernel)]; exact ⟨rfl, rfl⟩))
  (fun os started H enc _ => lifted os started H enc)
end Go.Proofs.YtfefdjloogcapaaGreat.storeParts
namespace Go.Proofs.YtfefdjloogcapaaGreat
/-- The row, under a short name, for the claim. -/
theorem storeParts_holds : Rows.StorePartsSaid := storeParts.over
end Go.Proofs.YtfefdjloogcapaaGreat
