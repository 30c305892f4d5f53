/- The closed facts of the law StoreParts. -/
import Derived.Test.YtfefdjloogcapaaGreatRows
import Derived.ProofKit
import Derived.KernelRfl
import Derived.RowKit
set_option linter.all false
set_option maxRecDepth 100000
set_option maxHeartbeats 4000000
namespace Go.Proofs.YtfefdjloogcapaaGreat.storeParts
open Go.ChangeShapes Go.WideShapes Go.ChangeAt Go.RowKit
theorem clad : joinedFacts Tryz.pinned.checked.prog 3 Tryz.f3 Rows.storePartsSpec Rows.storePartsRow = true := by kernel_rfl
end Go.Proofs.YtfefdjloogcapaaGreat.storeParts
