/- The code is the program's. -/
import Derived.Test.YtnppecdklidmmaaGreatProg
import Derived.Test.YtnppecdklidmmaaGreatQl0
import Derived.KernelRfl
import Derived.Test.YtnppecdklidmmaaGreatQg
import Derived.Test.YtnppecdklidmmaaGreatQh
set_option linter.all false
set_option maxRecDepth 100000
set_option maxHeartbeats 4000000
namespace Go.Dvm.C
open Go Go.Dvm
theorem okAll:okTab Go.Proofs.Tryz.prog tab=true:=by kernel_rfl
theorem mixed:Go.Proofs.Tryz.prog.follows .mixedOrders=true:=by kernel_rfl
theorem prims:PrimOk Go.Proofs.Tryz.prog tab:=⟨nq,nq,nq,nq,nq,nq,nq,nq,nq,nq,nq,nq,nq,nq,nq,nq,nq,nq,nq,nq,nq,nq,nq,nq,nq,nq,nq,nq,nq,nq,nq,nq,nq,nq,nq,nq,nq,nq,nq,nq,nq,nq,nq,nq,nq,nq,nq,nq,npd rfl rfl (fun ds rs h=>zbga ds rs h),nq,nq,nq,nq,nq,nq,nq,nq,nq,nq,nq,nq,nq,nq,nq,nq,nq,nq,nq,nq,nq,nq,nq,nq,nq,nq,nq,nq,nq,nq,nq,nq,nq,nq,nq,nq,nq,nq,nq,nq,nq,nq,nq,nq,nq,nq,nq,nq,nq,nq,nq,nq,nq,nq,nq,nq,nq,npi rfl rfl (zj3 zbgf),nq,nq,nq,nq,npi rfl rfl (zj4 Go.Proofs.zbgi),nq,nq,nq,nq,nq,nq,nq,nq,nq,nq,nq,nq,nq,nq,nq,nq,nq,nq,nq,nq,npi rfl rfl (zj2 Go.Proofs.zbgh),npd rfl rfl (fun ds rs h=>zbge ds rs h),nq,nq,nq,nq,nq,nq,nq,nq,nq,nq,nq,nq,nq,nq,nq,nq,nq,nq,nq,nq,nq,nq,nq,nq,nq,nq,nq,nq,nq,nq,nq,nq,nq,nq,nq,nq,nq,nq,nq,nq,nq,nq,nq,nq,nq,nq,nq,nq,nq,nq,nq,nq,nq,nq,nq,nq,nq,nq,nq,nq,nq,nq,nq,nq,nq,nq,nq,nq,nq,nq,trivial⟩
end Go.Dvm.C
