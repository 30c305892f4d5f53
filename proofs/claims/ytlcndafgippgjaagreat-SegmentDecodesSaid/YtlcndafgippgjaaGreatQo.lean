/- The code is the program's. -/
import Derived.Test.YtlcndafgippgjaaGreatProg
import Derived.Test.YtlcndafgippgjaaGreatQl0
import Derived.KernelRfl
set_option linter.all false
set_option maxRecDepth 100000
set_option maxHeartbeats 4000000
namespace Go.Dvm.C
open Go Go.Dvm
theorem zb1s : okFun Go.Proofs.Tryz.prog 4 zov = true := by kernel_rfl
theorem zb1t : okFun Go.Proofs.Tryz.prog 5 zox = true := by kernel_rfl
theorem zb1u : okFun Go.Proofs.Tryz.prog 8 zoz = true := by kernel_rfl
theorem zb1v : okFun Go.Proofs.Tryz.prog 9 zo1 = true := by kernel_rfl
theorem zb1w : okFun Go.Proofs.Tryz.prog 10 zpp = true := by kernel_rfl
theorem zb1x : okFun Go.Proofs.Tryz.prog 11 zpx = true := by kernel_rfl
theorem zb1y : okFun Go.Proofs.Tryz.prog 12 zpz = true := by kernel_rfl
theorem zb1z : okFun Go.Proofs.Tryz.prog 13 zp6 = true := by kernel_rfl
theorem zb10 : okFun Go.Proofs.Tryz.prog 14 zqr = true := by kernel_rfl
theorem zb11 : okFun Go.Proofs.Tryz.prog 15 zqt = true := by kernel_rfl
theorem zb12 : okFun Go.Proofs.Tryz.prog 16 zq3 = true := by kernel_rfl
theorem zb13 : okFun Go.Proofs.Tryz.prog 17 zrb = true := by kernel_rfl
theorem zb14 : okFun Go.Proofs.Tryz.prog 18 zr1 = true := by kernel_rfl
theorem zb15 : okFun Go.Proofs.Tryz.prog 19 zsd = true := by kernel_rfl
theorem zb16 : okFun Go.Proofs.Tryz.prog 20 zsf = true := by kernel_rfl
theorem zb17 : okFun Go.Proofs.Tryz.prog 21 zsx = true := by kernel_rfl
theorem zb18 : okFun Go.Proofs.Tryz.prog 22 zsz = true := by kernel_rfl
theorem zb19 : okFun Go.Proofs.Tryz.prog 23 ztd = true := by kernel_rfl
theorem zb2a : okFun Go.Proofs.Tryz.prog 24 ztp = true := by kernel_rfl
theorem zb2b : okFun Go.Proofs.Tryz.prog 25 zts = true := by kernel_rfl
theorem zb2c : okFun Go.Proofs.Tryz.prog 26 zt2 = true := by kernel_rfl
theorem zb2d : okFun Go.Proofs.Tryz.prog 27 zua = true := by kernel_rfl
theorem zb2e : okFun Go.Proofs.Tryz.prog 28 zu1 = true := by kernel_rfl
theorem zb2f : okFun Go.Proofs.Tryz.prog 29 zvb = true := by kernel_rfl
theorem zb2g : okFun Go.Proofs.Tryz.prog 30 zvd = true := by kernel_rfl
theorem zb2h : okFun Go.Proofs.Tryz.prog 31 zvn = true := by kernel_rfl
theorem zb2i : okFun Go.Proofs.Tryz.prog 32 zvp = true := by kernel_rfl
theorem zb2j : okFun Go.Proofs.Tryz.prog 33 zvr = true := by kernel_rfl
theorem zb2k : okFun Go.Proofs.Tryz.prog 34 zvz = true := by kernel_rfl
theorem zb2l : okFun Go.Proofs.Tryz.prog 35 zwj = true := by kernel_rfl
theorem zb2m : okFun Go.Proofs.Tryz.prog 36 zw4 = true := by kernel_rfl
theorem zb2n : okFun Go.Proofs.Tryz.prog 37 zw6 = true := by kernel_rfl
theorem zb2o : okFun Go.Proofs.Tryz.prog 38 zxg = true := by kernel_rfl
theorem zb2p : okFun Go.Proofs.Tryz.prog 39 zyg = true := by kernel_rfl
theorem zb2q : okFun Go.Proofs.Tryz.prog 40 zyy = true := by kernel_rfl
theorem zb2r : okFun Go.Proofs.Tryz.prog 41 zy0 = true := by kernel_rfl
theorem zb2s : okFun Go.Proofs.Tryz.prog 42 zzo = true := by kernel_rfl
theorem zb2t : okFun Go.Proofs.Tryz.prog 43 zzq = true := by kernel_rfl
theorem zb2u : okFun Go.Proofs.Tryz.prog 44 zzs = true := by kernel_rfl
theorem zb2v : okFun Go.Proofs.Tryz.prog 45 z0a = true := by kernel_rfl
theorem zb2w : okFun Go.Proofs.Tryz.prog 46 z0f = true := by kernel_rfl
theorem zb2x : okFun Go.Proofs.Tryz.prog 47 z0h = true := by kernel_rfl
theorem zb2y : okFun Go.Proofs.Tryz.prog 48 z0p = true := by kernel_rfl
theorem zb2z : okFun Go.Proofs.Tryz.prog 49 z0r = true := by kernel_rfl
theorem zb20 : okFun Go.Proofs.Tryz.prog 50 z01 = true := by kernel_rfl
theorem zb21 : okFun Go.Proofs.Tryz.prog 51 z03 = true := by kernel_rfl
theorem zb22 : okFun Go.Proofs.Tryz.prog 52 z1l = true := by kernel_rfl
theorem zb23 : okFun Go.Proofs.Tryz.prog 53 z2j = true := by kernel_rfl
theorem zb24 : okFun Go.Proofs.Tryz.prog 54 z2x = true := by kernel_rfl
theorem zb25 : okFun Go.Proofs.Tryz.prog 55 z23 = true := by kernel_rfl
theorem zb26 : okFun Go.Proofs.Tryz.prog 56 z3l = true := by kernel_rfl
theorem zb27 : okFun Go.Proofs.Tryz.prog 57 z3n = true := by kernel_rfl
theorem zb28 : okFun Go.Proofs.Tryz.prog 58 z4r = true := by kernel_rfl
theorem zb29 : okFun Go.Proofs.Tryz.prog 59 z47 = true := by kernel_rfl
theorem zb3a : okFun Go.Proofs.Tryz.prog 60 z5b = true := by kernel_rfl
theorem zb3b : okFun Go.Proofs.Tryz.prog 61 z5j = true := by kernel_rfl
theorem zb3c : okFun Go.Proofs.Tryz.prog 62 z5t = true := by kernel_rfl
theorem zb3d : okFun Go.Proofs.Tryz.prog 63 z5v = true := by kernel_rfl
theorem zb3e : okFun Go.Proofs.Tryz.prog 64 z6h = true := by kernel_rfl
theorem zb3f : okFun Go.Proofs.Tryz.prog 65 z60 = true := by kernel_rfl
theorem zb3g : okFun Go.Proofs.Tryz.prog 66 z62 = true := by kernel_rfl
theorem zb3h : okFun Go.Proofs.Tryz.prog 67 z7g = true := by kernel_rfl
theorem zb3i : okFun Go.Proofs.Tryz.prog 68 z76 = true := by kernel_rfl
theorem zb3j : okFun Go.Proofs.Tryz.prog 69 z94 = true := by kernel_rfl
theorem zb3k : okFun Go.Proofs.Tryz.prog 70 zbam = true := by kernel_rfl
theorem zb3l : okFun Go.Proofs.Tryz.prog 71 zba8 = true := by kernel_rfl
theorem zb3m : okFun Go.Proofs.Tryz.prog 72 zbba = true := by kernel_rfl
theorem zb3n : okFun Go.Proofs.Tryz.prog 73 zbbc = true := by kernel_rfl
theorem zb3o : okFun Go.Proofs.Tryz.prog 74 zbbq = true := by kernel_rfl
theorem zb3p : okFun Go.Proofs.Tryz.prog 75 zbbs = true := by kernel_rfl
theorem zb3q : okFun Go.Proofs.Tryz.prog 76 zbch = true := by kernel_rfl
theorem zb3r : okFun Go.Proofs.Tryz.prog 77 zbc9 = true := by kernel_rfl
theorem zb3s : okFun Go.Proofs.Tryz.prog 78 zbdo = true := by kernel_rfl
theorem zb3t : okFun Go.Proofs.Tryz.prog 79 zbdq = true := by kernel_rfl
theorem zb3u : okFun Go.Proofs.Tryz.prog 80 zbd0 = true := by kernel_rfl
theorem zb3v : okFun Go.Proofs.Tryz.prog 81 zbd2 = true := by kernel_rfl
theorem zb3w : okFun Go.Proofs.Tryz.prog 82 zbd4 = true := by kernel_rfl
theorem zb3x : okFun Go.Proofs.Tryz.prog 83 zbd6 = true := by kernel_rfl
theorem zb3y : okFun Go.Proofs.Tryz.prog 84 zbel = true := by kernel_rfl
theorem zb3z : okFun Go.Proofs.Tryz.prog 85 zben = true := by kernel_rfl
theorem zb30 : okFun Go.Proofs.Tryz.prog 86 zbez = true := by kernel_rfl
theorem zb31 : okFun Go.Proofs.Tryz.prog 87 zbe1 = true := by kernel_rfl
theorem zb32 : okFun Go.Proofs.Tryz.prog 88 zbe3 = true := by kernel_rfl
theorem zb33 : okFun Go.Proofs.Tryz.prog 89 zbfr = true := by kernel_rfl
theorem zb34 : okFun Go.Proofs.Tryz.prog 90 zbft = true := by kernel_rfl
theorem zb35 : okFun Go.Proofs.Tryz.prog 91 zbf3 = true := by kernel_rfl
theorem zb36 : okFun Go.Proofs.Tryz.prog 92 zbgb = true := by kernel_rfl
theorem zb37 : okFun Go.Proofs.Tryz.prog 93 zbgp = true := by kernel_rfl
theorem zb38 : okFun Go.Proofs.Tryz.prog 94 zbgr = true := by kernel_rfl
theorem zb39 : okFun Go.Proofs.Tryz.prog 95 zbgz = true := by kernel_rfl
theorem zb4a : okFun Go.Proofs.Tryz.prog 96 zbg1 = true := by kernel_rfl
theorem zb4b : okFun Go.Proofs.Tryz.prog 97 zbg3 = true := by kernel_rfl
theorem zb4c : okFun Go.Proofs.Tryz.prog 98 zbg5 = true := by kernel_rfl
theorem zb4d : okFun Go.Proofs.Tryz.prog 99 zbg7 = true := by kernel_rfl
theorem zb4e : okFun Go.Proofs.Tryz.prog 100 zbhq = true := by kernel_rfl
theorem zb4f : okFun Go.Proofs.Tryz.prog 101 zbi2 = true := by kernel_rfl
theorem zb4g : okFun Go.Proofs.Tryz.prog 102 zbi7 = true := by kernel_rfl
theorem zb4h : okFun Go.Proofs.Tryz.prog 103 zbjq = true := by kernel_rfl
theorem zb4i : okFun Go.Proofs.Tryz.prog 104 zbkn = true := by kernel_rfl
theorem zb4j : okFun Go.Proofs.Tryz.prog 105 zbkw = true := by kernel_rfl
theorem zb4k : okFun Go.Proofs.Tryz.prog 106 zbk5 = true := by kernel_rfl
theorem zb4l : okFun Go.Proofs.Tryz.prog 107 zbli = true := by kernel_rfl
theorem zb4m : okFun Go.Proofs.Tryz.prog 108 zbl1 = true := by kernel_rfl
theorem zb4n : okFun Go.Proofs.Tryz.prog 109 zbl6 = true := by kernel_rfl
theorem zb4o : okFun Go.Proofs.Tryz.prog 110 zbmf = true := by kernel_rfl
theorem zb4p : okFun Go.Proofs.Tryz.prog 111 zbmo = true := by kernel_rfl
theorem zb4q : okFun Go.Proofs.Tryz.prog 112 zbm7 = true := by kernel_rfl
theorem zb4r : okFun Go.Proofs.Tryz.prog 113 zbno = true := by kernel_rfl
theorem zb4s : okFun Go.Proofs.Tryz.prog 114 zbob = true := by kernel_rfl
theorem zb4t : okFun Go.Proofs.Tryz.prog 115 zbom = true := by kernel_rfl
theorem zb4u : okFun Go.Proofs.Tryz.prog 116 zbox = true := by kernel_rfl
theorem zb4v : okFun Go.Proofs.Tryz.prog 117 zbo2 = true := by kernel_rfl
theorem zb4w : okFun Go.Proofs.Tryz.prog 118 zbo7 = true := by kernel_rfl
theorem okAll : okTab Go.Proofs.Tryz.prog tab = true := by
 simp only [tab, okTab, zb1s, zb1t, zb1u, zb1v, zb1w, zb1x, zb1y, zb1z, zb10, zb11, zb12, zb13, zb14, zb15, zb16, zb17, zb18, zb19, zb2a, zb2b, zb2c, zb2d, zb2e, zb2f, zb2g, zb2h, zb2i, zb2j, zb2k, zb2l, zb2m, zb2n, zb2o, zb2p, zb2q, zb2r, zb2s, zb2t, zb2u, zb2v, zb2w, zb2x, zb2y, zb2z, zb20, zb21, zb22, zb23, zb24, zb25, zb26, zb27, zb28, zb29, zb3a, zb3b, zb3c, zb3d, zb3e, zb3f, zb3g, zb3h, zb3i, zb3j, zb3k, zb3l, zb3m, zb3n, zb3o, zb3p, zb3q, zb3r, zb3s, zb3t, zb3u, zb3v, zb3w, zb3x, zb3y, zb3z, zb30, zb31, zb32, zb33, zb34, zb35, zb36, zb37, zb38, zb39, zb4a, zb4b, zb4c, zb4d, zb4e, zb4f, zb4g, zb4h, zb4i, zb4j, zb4k, zb4l, zb4m, zb4n, zb4o, zb4p, zb4q, zb4r, zb4s, zb4t, zb4u, zb4v, zb4w, Bool.and_self, Bool.and_true]
theorem mixed : Go.Proofs.Tryz.prog.follows .mixedOrders = true := by kernel_rfl
end Go.Dvm.C
