/- The code is the program's. -/
import Derived.Test.YtngajodhbioheaaProg
import Derived.Test.YtngajodhbioheaaQl0
import Derived.KernelRfl
set_option linter.all false
set_option maxRecDepth 100000
set_option maxHeartbeats 4000000
namespace Go.Dvm.C
open Go Go.Dvm
theorem zbkb : okFun Go.Proofs.Try.prog 10 zm5 = true := by kernel_rfl
theorem zbkc : okFun Go.Proofs.Try.prog 18 zm7 = true := by kernel_rfl
theorem zbkd : okFun Go.Proofs.Try.prog 22 zm9 = true := by kernel_rfl
theorem zbke : okFun Go.Proofs.Try.prog 23 znq = true := by kernel_rfl
theorem zbkf : okFun Go.Proofs.Try.prog 25 zns = true := by kernel_rfl
theorem zbkg : okFun Go.Proofs.Try.prog 28 znu = true := by kernel_rfl
theorem zbkh : okFun Go.Proofs.Try.prog 30 zn8 = true := by kernel_rfl
theorem zbki : okFun Go.Proofs.Try.prog 31 zoc = true := by kernel_rfl
theorem zbkj : okFun Go.Proofs.Try.prog 37 zos = true := by kernel_rfl
theorem zbkk : okFun Go.Proofs.Try.prog 38 zpo = true := by kernel_rfl
theorem zbkl : okFun Go.Proofs.Try.prog 39 zpq = true := by kernel_rfl
theorem zbkm : okFun Go.Proofs.Try.prog 40 zp0 = true := by kernel_rfl
theorem zbkn : okFun Go.Proofs.Try.prog 42 zp2 = true := by kernel_rfl
theorem zbko : okFun Go.Proofs.Try.prog 44 zp4 = true := by kernel_rfl
theorem zbkp : okFun Go.Proofs.Try.prog 50 zp6 = true := by kernel_rfl
theorem zbkq : okFun Go.Proofs.Try.prog 52 zqr = true := by kernel_rfl
theorem zbkr : okFun Go.Proofs.Try.prog 53 zq1 = true := by kernel_rfl
theorem zbks : okFun Go.Proofs.Try.prog 54 zq3 = true := by kernel_rfl
theorem zbkt : okFun Go.Proofs.Try.prog 55 zrv = true := by kernel_rfl
theorem zbku : okFun Go.Proofs.Try.prog 57 zr9 = true := by kernel_rfl
theorem zbkv : okFun Go.Proofs.Try.prog 62 zsb = true := by kernel_rfl
theorem zbkw : okFun Go.Proofs.Try.prog 63 zsd = true := by kernel_rfl
theorem zbkx : okFun Go.Proofs.Try.prog 66 zsp = true := by kernel_rfl
theorem zbky : okFun Go.Proofs.Try.prog 67 zs9 = true := by kernel_rfl
theorem zbkz : okFun Go.Proofs.Try.prog 68 ztb = true := by kernel_rfl
theorem zbk0 : okFun Go.Proofs.Try.prog 69 ztd = true := by kernel_rfl
theorem zbk1 : okFun Go.Proofs.Try.prog 70 ztn = true := by kernel_rfl
theorem zbk2 : okFun Go.Proofs.Try.prog 71 ztp = true := by kernel_rfl
theorem zbk3 : okFun Go.Proofs.Try.prog 72 zuf = true := by kernel_rfl
theorem zbk4 : okFun Go.Proofs.Try.prog 74 zuh = true := by kernel_rfl
theorem zbk5 : okFun Go.Proofs.Try.prog 75 zuj = true := by kernel_rfl
theorem zbk6 : okFun Go.Proofs.Try.prog 76 zur = true := by kernel_rfl
theorem zbk7 : okFun Go.Proofs.Try.prog 79 zu5 = true := by kernel_rfl
theorem zbk8 : okFun Go.Proofs.Try.prog 80 zvh = true := by kernel_rfl
theorem zbk9 : okFun Go.Proofs.Try.prog 81 zvj = true := by kernel_rfl
theorem zbla : okFun Go.Proofs.Try.prog 82 zvl = true := by kernel_rfl
theorem zblb : okFun Go.Proofs.Try.prog 83 zvn = true := by kernel_rfl
theorem zblc : okFun Go.Proofs.Try.prog 84 zvp = true := by kernel_rfl
theorem zbld : okFun Go.Proofs.Try.prog 85 zv7 = true := by kernel_rfl
theorem zble : okFun Go.Proofs.Try.prog 86 zwh = true := by kernel_rfl
theorem zblf : okFun Go.Proofs.Try.prog 87 zwj = true := by kernel_rfl
theorem zblg : okFun Go.Proofs.Try.prog 88 zw7 = true := by kernel_rfl
theorem zblh : okFun Go.Proofs.Try.prog 91 zxy = true := by kernel_rfl
theorem zbli : okFun Go.Proofs.Try.prog 95 zx0 = true := by kernel_rfl
theorem zblj : okFun Go.Proofs.Try.prog 96 zx2 = true := by kernel_rfl
theorem zblk : okFun Go.Proofs.Try.prog 97 zx4 = true := by kernel_rfl
theorem zbll : okFun Go.Proofs.Try.prog 98 zyg = true := by kernel_rfl
theorem zblm : okFun Go.Proofs.Try.prog 99 zyi = true := by kernel_rfl
theorem zbln : okFun Go.Proofs.Try.prog 100 zyn = true := by kernel_rfl
theorem zblo : okFun Go.Proofs.Try.prog 101 zy8 = true := by kernel_rfl
theorem zblp : okFun Go.Proofs.Try.prog 102 zz6 = true := by kernel_rfl
theorem zblq : okFun Go.Proofs.Try.prog 103 z06 = true := by kernel_rfl
theorem zblr : okFun Go.Proofs.Try.prog 104 z11 = true := by kernel_rfl
theorem zbls : okFun Go.Proofs.Try.prog 109 z16 = true := by kernel_rfl
theorem zblt : okFun Go.Proofs.Try.prog 116 z2j = true := by kernel_rfl
theorem zblu : okFun Go.Proofs.Try.prog 117 z2o = true := by kernel_rfl
theorem zblv : okFun Go.Proofs.Try.prog 126 z23 = true := by kernel_rfl
theorem zblw : okFun Go.Proofs.Try.prog 127 z3c = true := by kernel_rfl
theorem zblx : okFun Go.Proofs.Try.prog 128 z3t = true := by kernel_rfl
theorem zbly : okFun Go.Proofs.Try.prog 134 z4g = true := by kernel_rfl
theorem zblz : okFun Go.Proofs.Try.prog 135 z4z = true := by kernel_rfl
theorem zbl0 : okFun Go.Proofs.Try.prog 136 z5k = true := by kernel_rfl
theorem zbl1 : okFun Go.Proofs.Try.prog 137 z6h = true := by kernel_rfl
theorem zbl2 : okFun Go.Proofs.Try.prog 138 z62 = true := by kernel_rfl
theorem zbl3 : okFun Go.Proofs.Try.prog 139 z7f = true := by kernel_rfl
theorem zbl4 : okFun Go.Proofs.Try.prog 142 z7t = true := by kernel_rfl
theorem zbl5 : okFun Go.Proofs.Try.prog 145 z8c = true := by kernel_rfl
theorem zbl6 : okFun Go.Proofs.Try.prog 146 z8t = true := by kernel_rfl
theorem zbl7 : okFun Go.Proofs.Try.prog 147 z84 = true := by kernel_rfl
theorem zbl8 : okFun Go.Proofs.Try.prog 148 z9h = true := by kernel_rfl
theorem zbl9 : okFun Go.Proofs.Try.prog 150 z99 = true := by kernel_rfl
theorem zbma : okFun Go.Proofs.Try.prog 163 zbaw = true := by kernel_rfl
theorem zbmb : okFun Go.Proofs.Try.prog 166 zba5 = true := by kernel_rfl
theorem zbmc : okFun Go.Proofs.Try.prog 167 zbb2 = true := by kernel_rfl
theorem okAll : okTab Go.Proofs.Try.prog tab = true := by
 simp only [tab, okTab, zbkb, zbkc, zbkd, zbke, zbkf, zbkg, zbkh, zbki, zbkj, zbkk, zbkl, zbkm, zbkn, zbko, zbkp, zbkq, zbkr, zbks, zbkt, zbku, zbkv, zbkw, zbkx, zbky, zbkz, zbk0, zbk1, zbk2, zbk3, zbk4, zbk5, zbk6, zbk7, zbk8, zbk9, zbla, zblb, zblc, zbld, zble, zblf, zblg, zblh, zbli, zblj, zblk, zbll, zblm, zbln, zblo, zblp, zblq, zblr, zbls, zblt, zblu, zblv, zblw, zblx, zbly, zblz, zbl0, zbl1, zbl2, zbl3, zbl4, zbl5, zbl6, zbl7, zbl8, zbl9, zbma, zbmb, zbmc, Bool.and_self, Bool.and_true]
theorem mixed : Go.Proofs.Try.prog.follows .mixedOrders = true := by kernel_rfl
end Go.Dvm.C
