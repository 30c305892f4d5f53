/- The code is the program's. -/
import Derived.Test.YtlcndafgippgjaaProg
import Derived.Test.YtlcndafgippgjaaQl0
import Derived.KernelRfl
set_option linter.all false
set_option maxRecDepth 100000
set_option maxHeartbeats 4000000
namespace Go.Dvm.C
open Go Go.Dvm
theorem zbka : okFun Go.Proofs.Try.prog 8 znc = true := by kernel_rfl
theorem zbkb : okFun Go.Proofs.Try.prog 9 zne = true := by kernel_rfl
theorem zbkc : okFun Go.Proofs.Try.prog 10 znl = true := by kernel_rfl
theorem zbkd : okFun Go.Proofs.Try.prog 12 zno = true := by kernel_rfl
theorem zbke : okFun Go.Proofs.Try.prog 14 znr = true := by kernel_rfl
theorem zbkf : okFun Go.Proofs.Try.prog 16 zof = true := by kernel_rfl
theorem zbkg : okFun Go.Proofs.Try.prog 17 zoh = true := by kernel_rfl
theorem zbkh : okFun Go.Proofs.Try.prog 18 zor = true := by kernel_rfl
theorem zbki : okFun Go.Proofs.Try.prog 19 zot = true := by kernel_rfl
theorem zbkj : okFun Go.Proofs.Try.prog 20 zo3 = true := by kernel_rfl
theorem zbkk : okFun Go.Proofs.Try.prog 21 zpb = true := by kernel_rfl
theorem zbkl : okFun Go.Proofs.Try.prog 22 zp2 = true := by kernel_rfl
theorem zbkm : okFun Go.Proofs.Try.prog 23 zqc = true := by kernel_rfl
theorem zbkn : okFun Go.Proofs.Try.prog 29 zqe = true := by kernel_rfl
theorem zbko : okFun Go.Proofs.Try.prog 30 zqg = true := by kernel_rfl
theorem zbkp : okFun Go.Proofs.Try.prog 31 zqi = true := by kernel_rfl
theorem zbkq : okFun Go.Proofs.Try.prog 34 zqk = true := by kernel_rfl
theorem zbkr : okFun Go.Proofs.Try.prog 35 zq2 = true := by kernel_rfl
theorem zbks : okFun Go.Proofs.Try.prog 36 zq4 = true := by kernel_rfl
theorem zbkt : okFun Go.Proofs.Try.prog 37 zrg = true := by kernel_rfl
theorem zbku : okFun Go.Proofs.Try.prog 38 zro = true := by kernel_rfl
theorem zbkv : okFun Go.Proofs.Try.prog 39 zr9 = true := by kernel_rfl
theorem zbkw : okFun Go.Proofs.Try.prog 40 zsb = true := by kernel_rfl
theorem zbkx : okFun Go.Proofs.Try.prog 41 zst = true := by kernel_rfl
theorem zbky : okFun Go.Proofs.Try.prog 42 zsy = true := by kernel_rfl
theorem zbkz : okFun Go.Proofs.Try.prog 47 zs0 = true := by kernel_rfl
theorem zbk0 : okFun Go.Proofs.Try.prog 48 zs4 = true := by kernel_rfl
theorem zbk1 : okFun Go.Proofs.Try.prog 51 zte = true := by kernel_rfl
theorem zbk2 : okFun Go.Proofs.Try.prog 52 zue = true := by kernel_rfl
theorem zbk3 : okFun Go.Proofs.Try.prog 53 zuw = true := by kernel_rfl
theorem zbk4 : okFun Go.Proofs.Try.prog 54 zuy = true := by kernel_rfl
theorem zbk5 : okFun Go.Proofs.Try.prog 55 zu8 = true := by kernel_rfl
theorem zbk6 : okFun Go.Proofs.Try.prog 56 zva = true := by kernel_rfl
theorem zbk7 : okFun Go.Proofs.Try.prog 57 zvc = true := by kernel_rfl
theorem zbk8 : okFun Go.Proofs.Try.prog 58 zvy = true := by kernel_rfl
theorem zbk9 : okFun Go.Proofs.Try.prog 59 zwh = true := by kernel_rfl
theorem zbla : okFun Go.Proofs.Try.prog 63 zwj = true := by kernel_rfl
theorem zblb : okFun Go.Proofs.Try.prog 65 zw1 = true := by kernel_rfl
theorem zblc : okFun Go.Proofs.Try.prog 66 zw3 = true := by kernel_rfl
theorem zbld : okFun Go.Proofs.Try.prog 67 zx7 = true := by kernel_rfl
theorem zble : okFun Go.Proofs.Try.prog 68 zyn = true := by kernel_rfl
theorem zblf : okFun Go.Proofs.Try.prog 69 zyp = true := by kernel_rfl
theorem zblg : okFun Go.Proofs.Try.prog 70 zyz = true := by kernel_rfl
theorem zblh : okFun Go.Proofs.Try.prog 71 zy1 = true := by kernel_rfl
theorem zbli : okFun Go.Proofs.Try.prog 72 zy3 = true := by kernel_rfl
theorem zblj : okFun Go.Proofs.Try.prog 73 zy5 = true := by kernel_rfl
theorem zblk : okFun Go.Proofs.Try.prog 74 zzk = true := by kernel_rfl
theorem zbll : okFun Go.Proofs.Try.prog 80 zzm = true := by kernel_rfl
theorem zblm : okFun Go.Proofs.Try.prog 81 zzy = true := by kernel_rfl
theorem zbln : okFun Go.Proofs.Try.prog 82 zz0 = true := by kernel_rfl
theorem zblo : okFun Go.Proofs.Try.prog 84 zz2 = true := by kernel_rfl
theorem zblp : okFun Go.Proofs.Try.prog 85 z0g = true := by kernel_rfl
theorem zblq : okFun Go.Proofs.Try.prog 86 z0i = true := by kernel_rfl
theorem zblr : okFun Go.Proofs.Try.prog 87 z07 = true := by kernel_rfl
theorem zbls : okFun Go.Proofs.Try.prog 88 z1z = true := by kernel_rfl
theorem zblt : okFun Go.Proofs.Try.prog 89 z2e = true := by kernel_rfl
theorem zblu : okFun Go.Proofs.Try.prog 90 z2g = true := by kernel_rfl
theorem zblv : okFun Go.Proofs.Try.prog 92 z2q = true := by kernel_rfl
theorem zblw : okFun Go.Proofs.Try.prog 93 z3e = true := by kernel_rfl
theorem zblx : okFun Go.Proofs.Try.prog 94 z3g = true := by kernel_rfl
theorem zbly : okFun Go.Proofs.Try.prog 95 z3i = true := by kernel_rfl
theorem zblz : okFun Go.Proofs.Try.prog 96 z3k = true := by kernel_rfl
theorem zbl0 : okFun Go.Proofs.Try.prog 97 z3u = true := by kernel_rfl
theorem zbl1 : okFun Go.Proofs.Try.prog 98 z4x = true := by kernel_rfl
theorem zbl2 : okFun Go.Proofs.Try.prog 99 z47 = true := by kernel_rfl
theorem zbl3 : okFun Go.Proofs.Try.prog 100 z5c = true := by kernel_rfl
theorem zbl4 : okFun Go.Proofs.Try.prog 101 z5l = true := by kernel_rfl
theorem zbl5 : okFun Go.Proofs.Try.prog 102 z5u = true := by kernel_rfl
theorem zbl6 : okFun Go.Proofs.Try.prog 103 z6d = true := by kernel_rfl
theorem zbl7 : okFun Go.Proofs.Try.prog 104 z6u = true := by kernel_rfl
theorem zbl8 : okFun Go.Proofs.Try.prog 105 z7h = true := by kernel_rfl
theorem zbl9 : okFun Go.Proofs.Try.prog 106 z7s = true := by kernel_rfl
theorem zbma : okFun Go.Proofs.Try.prog 107 z73 = true := by kernel_rfl
theorem zbmb : okFun Go.Proofs.Try.prog 108 z78 = true := by kernel_rfl
theorem zbmc : okFun Go.Proofs.Try.prog 109 z8d = true := by kernel_rfl
theorem okAll : okTab Go.Proofs.Try.prog tab = true := by
 simp only [tab, okTab, zbka, zbkb, zbkc, zbkd, zbke, zbkf, zbkg, zbkh, zbki, zbkj, zbkk, zbkl, zbkm, zbkn, zbko, zbkp, zbkq, zbkr, zbks, zbkt, zbku, zbkv, zbkw, zbkx, zbky, zbkz, zbk0, zbk1, zbk2, zbk3, zbk4, zbk5, zbk6, zbk7, zbk8, zbk9, zbla, zblb, zblc, zbld, zble, zblf, zblg, zblh, zbli, zblj, zblk, zbll, zblm, zbln, zblo, zblp, zblq, zblr, zbls, zblt, zblu, zblv, zblw, zblx, zbly, zblz, zbl0, zbl1, zbl2, zbl3, zbl4, zbl5, zbl6, zbl7, zbl8, zbl9, zbma, zbmb, zbmc, Bool.and_self, Bool.and_true]
theorem mixed : Go.Proofs.Try.prog.follows .mixedOrders = true := by kernel_rfl
end Go.Dvm.C
