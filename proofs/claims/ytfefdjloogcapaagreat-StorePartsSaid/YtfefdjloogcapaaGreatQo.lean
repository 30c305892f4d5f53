/- The code is the program's. -/
import Derived.Test.YtfefdjloogcapaaGreatProg
import Derived.Test.YtfefdjloogcapaaGreatQl0
import Derived.KernelRfl
import Derived.Test.YtfefdjloogcapaaGreatQg
import Derived.Test.YtfefdjloogcapaaGreatQh
set_option linter.all false
set_option maxRecDepth 100000
set_option maxHeartbeats 4000000
namespace Go.Dvm.C
open Go Go.Dvm
theorem okAll:okTab Go.Proofs.Tryz.prog tab=true:=by kernel_rfl
theorem mixed:Go.Proofs.Tryz.prog.follows .mixedOrders=true:=by kernel_rfl
theorem prims:PrimOk Go.Proofs.Tryz.prog tab:=⟨nq,nq,nq,npi rfl rfl (zla W_pNew),nq,nq,nq,nq,nq,nq,nq,nq,nq,npi rfl rfl (zk8 W_pApp),nq,nq,nq,nq,nq,npi rfl rfl (zlb zx8),npi rfl rfl (pOn_ok W_pOn),nq,nq,nq,nq,nq,nq,nq,nq,nq,nq,npi rfl rfl (zk6 zx9),npi rfl rfl (zk7 zya),nq,nq,nq,nq,nq,nq,npi rfl rfl (zlc zx7),nq,nq,nq,nq,nq,nq,nq,nq,nq,nq,nq,nq,nq,nq,nq,nq,nq,nq,nq,nq,nq,nq,nq,nq,npd rfl rfl (fun ds rs h=>zxe ds rs h),nq,nq,nq,nq,nq,nq,nq,nq,nq,nq,nq,nq,nq,nq,nq,nq,npd rfl rfl (fun ds rs h=>zxi ds rs h),trivial⟩
end Go.Dvm.C
