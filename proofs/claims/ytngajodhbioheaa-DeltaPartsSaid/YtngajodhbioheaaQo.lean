/- The code is the program's. -/
import Derived.Test.YtngajodhbioheaaProg
import Derived.Test.YtngajodhbioheaaQl0
import Derived.KernelRfl
set_option linter.all false
set_option maxRecDepth 100000
set_option maxHeartbeats 4000000
namespace Go.Dvm.C
open Go Go.Dvm
theorem zxe : okFun Go.Proofs.Try.prog 4 zla = true := by kernel_rfl
theorem zxf : okFun Go.Proofs.Try.prog 17 zle = true := by kernel_rfl
theorem zxg : okFun Go.Proofs.Try.prog 18 zlg = true := by kernel_rfl
theorem zxh : okFun Go.Proofs.Try.prog 19 zmd = true := by kernel_rfl
theorem zxi : okFun Go.Proofs.Try.prog 22 zmf = true := by kernel_rfl
theorem zxj : okFun Go.Proofs.Try.prog 24 zm4 = true := by kernel_rfl
theorem zxk : okFun Go.Proofs.Try.prog 25 zm6 = true := by kernel_rfl
theorem zxl : okFun Go.Proofs.Try.prog 31 zna = true := by kernel_rfl
theorem zxm : okFun Go.Proofs.Try.prog 42 znc = true := by kernel_rfl
theorem zxn : okFun Go.Proofs.Try.prog 44 zne = true := by kernel_rfl
theorem zxo : okFun Go.Proofs.Try.prog 45 zng = true := by kernel_rfl
theorem zxp : okFun Go.Proofs.Try.prog 46 zni = true := by kernel_rfl
theorem zxq : okFun Go.Proofs.Try.prog 47 znk = true := by kernel_rfl
theorem zxr : okFun Go.Proofs.Try.prog 48 zno = true := by kernel_rfl
theorem zxs : okFun Go.Proofs.Try.prog 49 zns = true := by kernel_rfl
theorem zxt : okFun Go.Proofs.Try.prog 50 znu = true := by kernel_rfl
theorem zxu : okFun Go.Proofs.Try.prog 52 zof = true := by kernel_rfl
theorem zxv : okFun Go.Proofs.Try.prog 53 zop = true := by kernel_rfl
theorem zxw : okFun Go.Proofs.Try.prog 56 zpg = true := by kernel_rfl
theorem zxx : okFun Go.Proofs.Try.prog 57 zpu = true := by kernel_rfl
theorem zxy : okFun Go.Proofs.Try.prog 67 zqe = true := by kernel_rfl
theorem zxz : okFun Go.Proofs.Try.prog 68 zqg = true := by kernel_rfl
theorem zx0 : okFun Go.Proofs.Try.prog 69 zqi = true := by kernel_rfl
theorem zx1 : okFun Go.Proofs.Try.prog 70 zqs = true := by kernel_rfl
theorem zx2 : okFun Go.Proofs.Try.prog 71 zqu = true := by kernel_rfl
theorem zx3 : okFun Go.Proofs.Try.prog 72 zrk = true := by kernel_rfl
theorem zx4 : okFun Go.Proofs.Try.prog 79 zry = true := by kernel_rfl
theorem zx5 : okFun Go.Proofs.Try.prog 94 zr0 = true := by kernel_rfl
theorem zx6 : okFun Go.Proofs.Try.prog 95 zr2 = true := by kernel_rfl
theorem zx7 : okFun Go.Proofs.Try.prog 96 zr4 = true := by kernel_rfl
theorem zx8 : okFun Go.Proofs.Try.prog 97 zr6 = true := by kernel_rfl
theorem zx9 : okFun Go.Proofs.Try.prog 98 zsi = true := by kernel_rfl
theorem zya : okFun Go.Proofs.Try.prog 99 zsk = true := by kernel_rfl
theorem zyb : okFun Go.Proofs.Try.prog 105 zsy = true := by kernel_rfl
theorem zyc : okFun Go.Proofs.Try.prog 145 zth = true := by kernel_rfl
theorem okAll : okTab Go.Proofs.Try.prog tab = true := by
 simp only [tab, okTab, zxe, zxf, zxg, zxh, zxi, zxj, zxk, zxl, zxm, zxn, zxo, zxp, zxq, zxr, zxs, zxt, zxu, zxv, zxw, zxx, zxy, zxz, zx0, zx1, zx2, zx3, zx4, zx5, zx6, zx7, zx8, zx9, zya, zyb, zyc, Bool.and_self, Bool.and_true]
theorem mixed : Go.Proofs.Try.prog.follows .mixedOrders = true := by kernel_rfl
end Go.Dvm.C
