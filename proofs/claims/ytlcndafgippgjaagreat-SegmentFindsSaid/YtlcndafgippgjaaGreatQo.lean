/- The code is the program's. -/
import Derived.Test.YtlcndafgippgjaaGreatProg
import Derived.Test.YtlcndafgippgjaaGreatQl0
import Derived.KernelRfl
set_option linter.all false
set_option maxRecDepth 100000
set_option maxHeartbeats 4000000
namespace Go.Dvm.C
open Go Go.Dvm
theorem zbzj : okFun Go.Proofs.Tryz.prog 3 zoi = true := by kernel_rfl
theorem zbzk : okFun Go.Proofs.Tryz.prog 5 zok = true := by kernel_rfl
theorem zbzl : okFun Go.Proofs.Tryz.prog 6 zom = true := by kernel_rfl
theorem zbzm : okFun Go.Proofs.Tryz.prog 7 zoo = true := by kernel_rfl
theorem zbzn : okFun Go.Proofs.Tryz.prog 9 zoq = true := by kernel_rfl
theorem zbzo : okFun Go.Proofs.Tryz.prog 13 zox = true := by kernel_rfl
theorem zbzp : okFun Go.Proofs.Tryz.prog 14 zpi = true := by kernel_rfl
theorem zbzq : okFun Go.Proofs.Tryz.prog 15 zpk = true := by kernel_rfl
theorem zbzr : okFun Go.Proofs.Tryz.prog 16 zpu = true := by kernel_rfl
theorem zbzs : okFun Go.Proofs.Tryz.prog 17 zp2 = true := by kernel_rfl
theorem zbzt : okFun Go.Proofs.Tryz.prog 18 zqs = true := by kernel_rfl
theorem zbzu : okFun Go.Proofs.Tryz.prog 19 zq4 = true := by kernel_rfl
theorem zbzv : okFun Go.Proofs.Tryz.prog 21 zrm = true := by kernel_rfl
theorem zbzw : okFun Go.Proofs.Tryz.prog 23 zr0 = true := by kernel_rfl
theorem zbzx : okFun Go.Proofs.Tryz.prog 25 zr3 = true := by kernel_rfl
theorem zbzy : okFun Go.Proofs.Tryz.prog 26 zsd = true := by kernel_rfl
theorem zbzz : okFun Go.Proofs.Tryz.prog 27 zsl = true := by kernel_rfl
theorem zbz0 : okFun Go.Proofs.Tryz.prog 28 ztc = true := by kernel_rfl
theorem zbz1 : okFun Go.Proofs.Tryz.prog 29 ztm = true := by kernel_rfl
theorem zbz2 : okFun Go.Proofs.Tryz.prog 30 zto = true := by kernel_rfl
theorem zbz3 : okFun Go.Proofs.Tryz.prog 31 zty = true := by kernel_rfl
theorem zbz4 : okFun Go.Proofs.Tryz.prog 32 zt0 = true := by kernel_rfl
theorem zbz5 : okFun Go.Proofs.Tryz.prog 33 zt2 = true := by kernel_rfl
theorem zbz6 : okFun Go.Proofs.Tryz.prog 34 zua = true := by kernel_rfl
theorem zbz7 : okFun Go.Proofs.Tryz.prog 35 zuu = true := by kernel_rfl
theorem zbz8 : okFun Go.Proofs.Tryz.prog 36 zvf = true := by kernel_rfl
theorem zbz9 : okFun Go.Proofs.Tryz.prog 37 zvh = true := by kernel_rfl
theorem zb0a : okFun Go.Proofs.Tryz.prog 38 zvr = true := by kernel_rfl
theorem zb0b : okFun Go.Proofs.Tryz.prog 39 zwr = true := by kernel_rfl
theorem zb0c : okFun Go.Proofs.Tryz.prog 40 zw9 = true := by kernel_rfl
theorem zb0d : okFun Go.Proofs.Tryz.prog 41 zxb = true := by kernel_rfl
theorem zb0e : okFun Go.Proofs.Tryz.prog 42 zxz = true := by kernel_rfl
theorem zb0f : okFun Go.Proofs.Tryz.prog 43 zx1 = true := by kernel_rfl
theorem zb0g : okFun Go.Proofs.Tryz.prog 44 zx3 = true := by kernel_rfl
theorem zb0h : okFun Go.Proofs.Tryz.prog 45 zyl = true := by kernel_rfl
theorem zb0i : okFun Go.Proofs.Tryz.prog 46 zyq = true := by kernel_rfl
theorem zb0j : okFun Go.Proofs.Tryz.prog 47 zys = true := by kernel_rfl
theorem zb0k : okFun Go.Proofs.Tryz.prog 48 zy0 = true := by kernel_rfl
theorem zb0l : okFun Go.Proofs.Tryz.prog 49 zy2 = true := by kernel_rfl
theorem zb0m : okFun Go.Proofs.Tryz.prog 50 zzc = true := by kernel_rfl
theorem zb0n : okFun Go.Proofs.Tryz.prog 51 zze = true := by kernel_rfl
theorem zb0o : okFun Go.Proofs.Tryz.prog 52 zzw = true := by kernel_rfl
theorem zb0p : okFun Go.Proofs.Tryz.prog 53 z0u = true := by kernel_rfl
theorem zb0q : okFun Go.Proofs.Tryz.prog 54 z08 = true := by kernel_rfl
theorem zb0r : okFun Go.Proofs.Tryz.prog 55 z1e = true := by kernel_rfl
theorem zb0s : okFun Go.Proofs.Tryz.prog 56 z1w = true := by kernel_rfl
theorem zb0t : okFun Go.Proofs.Tryz.prog 57 z1y = true := by kernel_rfl
theorem zb0u : okFun Go.Proofs.Tryz.prog 58 z22 = true := by kernel_rfl
theorem zb0v : okFun Go.Proofs.Tryz.prog 59 z3i = true := by kernel_rfl
theorem zb0w : okFun Go.Proofs.Tryz.prog 60 z3m = true := by kernel_rfl
theorem zb0x : okFun Go.Proofs.Tryz.prog 61 z3u = true := by kernel_rfl
theorem zb0y : okFun Go.Proofs.Tryz.prog 62 z34 = true := by kernel_rfl
theorem zb0z : okFun Go.Proofs.Tryz.prog 63 z36 = true := by kernel_rfl
theorem zb00 : okFun Go.Proofs.Tryz.prog 64 z4s = true := by kernel_rfl
theorem zb01 : okFun Go.Proofs.Tryz.prog 65 z5b = true := by kernel_rfl
theorem zb02 : okFun Go.Proofs.Tryz.prog 66 z5d = true := by kernel_rfl
theorem zb03 : okFun Go.Proofs.Tryz.prog 67 z5r = true := by kernel_rfl
theorem zb04 : okFun Go.Proofs.Tryz.prog 68 z6h = true := by kernel_rfl
theorem zb05 : okFun Go.Proofs.Tryz.prog 69 z8f = true := by kernel_rfl
theorem zb06 : okFun Go.Proofs.Tryz.prog 70 z8x = true := by kernel_rfl
theorem zb07 : okFun Go.Proofs.Tryz.prog 71 z9j = true := by kernel_rfl
theorem zb08 : okFun Go.Proofs.Tryz.prog 72 z9l = true := by kernel_rfl
theorem zb09 : okFun Go.Proofs.Tryz.prog 73 z9n = true := by kernel_rfl
theorem zb1a : okFun Go.Proofs.Tryz.prog 74 z91 = true := by kernel_rfl
theorem zb1b : okFun Go.Proofs.Tryz.prog 75 z93 = true := by kernel_rfl
theorem zb1c : okFun Go.Proofs.Tryz.prog 76 zbas = true := by kernel_rfl
theorem zb1d : okFun Go.Proofs.Tryz.prog 77 zbbk = true := by kernel_rfl
theorem zb1e : okFun Go.Proofs.Tryz.prog 78 zbbz = true := by kernel_rfl
theorem zb1f : okFun Go.Proofs.Tryz.prog 79 zbb1 = true := by kernel_rfl
theorem zb1g : okFun Go.Proofs.Tryz.prog 80 zbcb = true := by kernel_rfl
theorem zb1h : okFun Go.Proofs.Tryz.prog 81 zbcd = true := by kernel_rfl
theorem zb1i : okFun Go.Proofs.Tryz.prog 82 zbcf = true := by kernel_rfl
theorem zb1j : okFun Go.Proofs.Tryz.prog 83 zbch = true := by kernel_rfl
theorem zb1k : okFun Go.Proofs.Tryz.prog 84 zbcw = true := by kernel_rfl
theorem zb1l : okFun Go.Proofs.Tryz.prog 85 zbcy = true := by kernel_rfl
theorem zb1m : okFun Go.Proofs.Tryz.prog 86 zbda = true := by kernel_rfl
theorem zb1n : okFun Go.Proofs.Tryz.prog 87 zbdc = true := by kernel_rfl
theorem zb1o : okFun Go.Proofs.Tryz.prog 88 zbde = true := by kernel_rfl
theorem zb1p : okFun Go.Proofs.Tryz.prog 89 zbd2 = true := by kernel_rfl
theorem zb1q : okFun Go.Proofs.Tryz.prog 90 zbd4 = true := by kernel_rfl
theorem zb1r : okFun Go.Proofs.Tryz.prog 91 zbee = true := by kernel_rfl
theorem zb1s : okFun Go.Proofs.Tryz.prog 92 zbem = true := by kernel_rfl
theorem zb1t : okFun Go.Proofs.Tryz.prog 93 zbe0 = true := by kernel_rfl
theorem zb1u : okFun Go.Proofs.Tryz.prog 94 zbe2 = true := by kernel_rfl
theorem zb1v : okFun Go.Proofs.Tryz.prog 95 zbfa = true := by kernel_rfl
theorem zb1w : okFun Go.Proofs.Tryz.prog 96 zbfc = true := by kernel_rfl
theorem zb1x : okFun Go.Proofs.Tryz.prog 97 zbfe = true := by kernel_rfl
theorem zb1y : okFun Go.Proofs.Tryz.prog 98 zbfg = true := by kernel_rfl
theorem zb1z : okFun Go.Proofs.Tryz.prog 99 zbfi = true := by kernel_rfl
theorem zb10 : okFun Go.Proofs.Tryz.prog 100 zbf1 = true := by kernel_rfl
theorem zb11 : okFun Go.Proofs.Tryz.prog 101 zbhd = true := by kernel_rfl
theorem zb12 : okFun Go.Proofs.Tryz.prog 102 zbhi = true := by kernel_rfl
theorem zb13 : okFun Go.Proofs.Tryz.prog 103 zbh1 = true := by kernel_rfl
theorem zb14 : okFun Go.Proofs.Tryz.prog 104 zbiy = true := by kernel_rfl
theorem zb15 : okFun Go.Proofs.Tryz.prog 105 zbi7 = true := by kernel_rfl
theorem zb16 : okFun Go.Proofs.Tryz.prog 106 zbjg = true := by kernel_rfl
theorem zb17 : okFun Go.Proofs.Tryz.prog 107 zbjt = true := by kernel_rfl
theorem zb18 : okFun Go.Proofs.Tryz.prog 108 zbkc = true := by kernel_rfl
theorem zb19 : okFun Go.Proofs.Tryz.prog 109 zbkh = true := by kernel_rfl
theorem zb2a : okFun Go.Proofs.Tryz.prog 110 zbkq = true := by kernel_rfl
theorem zb2b : okFun Go.Proofs.Tryz.prog 111 zbkz = true := by kernel_rfl
theorem zb2c : okFun Go.Proofs.Tryz.prog 112 zbli = true := by kernel_rfl
theorem zb2d : okFun Go.Proofs.Tryz.prog 113 zblz = true := by kernel_rfl
theorem zb2e : okFun Go.Proofs.Tryz.prog 114 zbmm = true := by kernel_rfl
theorem zb2f : okFun Go.Proofs.Tryz.prog 115 zbmx = true := by kernel_rfl
theorem zb2g : okFun Go.Proofs.Tryz.prog 116 zbm8 = true := by kernel_rfl
theorem zb2h : okFun Go.Proofs.Tryz.prog 117 zbnd = true := by kernel_rfl
theorem zb2i : okFun Go.Proofs.Tryz.prog 118 zbni = true := by kernel_rfl
theorem okAll : okTab Go.Proofs.Tryz.prog tab = true := by
 simp only [tab, okTab, zbzj, zbzk, zbzl, zbzm, zbzn, zbzo, zbzp, zbzq, zbzr, zbzs, zbzt, zbzu, zbzv, zbzw, zbzx, zbzy, zbzz, zbz0, zbz1, zbz2, zbz3, zbz4, zbz5, zbz6, zbz7, zbz8, zbz9, zb0a, zb0b, zb0c, zb0d, zb0e, zb0f, zb0g, zb0h, zb0i, zb0j, zb0k, zb0l, zb0m, zb0n, zb0o, zb0p, zb0q, zb0r, zb0s, zb0t, zb0u, zb0v, zb0w, zb0x, zb0y, zb0z, zb00, zb01, zb02, zb03, zb04, zb05, zb06, zb07, zb08, zb09, zb1a, zb1b, zb1c, zb1d, zb1e, zb1f, zb1g, zb1h, zb1i, zb1j, zb1k, zb1l, zb1m, zb1n, zb1o, zb1p, zb1q, zb1r, zb1s, zb1t, zb1u, zb1v, zb1w, zb1x, zb1y, zb1z, zb10, zb11, zb12, zb13, zb14, zb15, zb16, zb17, zb18, zb19, zb2a, zb2b, zb2c, zb2d, zb2e, zb2f, zb2g, zb2h, zb2i, Bool.and_self, Bool.and_true]
theorem mixed : Go.Proofs.Tryz.prog.follows .mixedOrders = true := by kernel_rfl
end Go.Dvm.C
