/- The code is the program's. -/
import Derived.Test.YtngajodhbioheaaProg
import Derived.Test.YtngajodhbioheaaQl0
import Derived.KernelRfl
set_option linter.all false
set_option maxRecDepth 100000
set_option maxHeartbeats 4000000
namespace Go.Dvm.C
open Go Go.Dvm
theorem zbgm : okFun Go.Proofs.Try.prog 6 zn2 = true := by kernel_rfl
theorem zbgn : okFun Go.Proofs.Try.prog 17 zn6 = true := by kernel_rfl
theorem zbgo : okFun Go.Proofs.Try.prog 19 zo3 = true := by kernel_rfl
theorem zbgp : okFun Go.Proofs.Try.prog 22 zo5 = true := by kernel_rfl
theorem zbgq : okFun Go.Proofs.Try.prog 24 zpu = true := by kernel_rfl
theorem zbgr : okFun Go.Proofs.Try.prog 25 zpw = true := by kernel_rfl
theorem zbgs : okFun Go.Proofs.Try.prog 26 zqa = true := by kernel_rfl
theorem zbgt : okFun Go.Proofs.Try.prog 27 zq8 = true := by kernel_rfl
theorem zbgu : okFun Go.Proofs.Try.prog 31 zrc = true := by kernel_rfl
theorem zbgv : okFun Go.Proofs.Try.prog 42 zre = true := by kernel_rfl
theorem zbgw : okFun Go.Proofs.Try.prog 45 zrg = true := by kernel_rfl
theorem zbgx : okFun Go.Proofs.Try.prog 46 zri = true := by kernel_rfl
theorem zbgy : okFun Go.Proofs.Try.prog 47 zrk = true := by kernel_rfl
theorem zbgz : okFun Go.Proofs.Try.prog 48 zro = true := by kernel_rfl
theorem zbg0 : okFun Go.Proofs.Try.prog 49 zrs = true := by kernel_rfl
theorem zbg1 : okFun Go.Proofs.Try.prog 50 zru = true := by kernel_rfl
theorem zbg2 : okFun Go.Proofs.Try.prog 52 zsf = true := by kernel_rfl
theorem zbg3 : okFun Go.Proofs.Try.prog 53 zsp = true := by kernel_rfl
theorem zbg4 : okFun Go.Proofs.Try.prog 56 ztg = true := by kernel_rfl
theorem zbg5 : okFun Go.Proofs.Try.prog 57 ztu = true := by kernel_rfl
theorem zbg6 : okFun Go.Proofs.Try.prog 58 zuc = true := by kernel_rfl
theorem zbg7 : okFun Go.Proofs.Try.prog 59 zvg = true := by kernel_rfl
theorem zbg8 : okFun Go.Proofs.Try.prog 60 zvi = true := by kernel_rfl
theorem zbg9 : okFun Go.Proofs.Try.prog 61 zvq = true := by kernel_rfl
theorem zbha : okFun Go.Proofs.Try.prog 62 zvs = true := by kernel_rfl
theorem zbhb : okFun Go.Proofs.Try.prog 63 zvu = true := by kernel_rfl
theorem zbhc : okFun Go.Proofs.Try.prog 67 zwe = true := by kernel_rfl
theorem zbhd : okFun Go.Proofs.Try.prog 68 zwg = true := by kernel_rfl
theorem zbhe : okFun Go.Proofs.Try.prog 69 zwi = true := by kernel_rfl
theorem zbhf : okFun Go.Proofs.Try.prog 70 zws = true := by kernel_rfl
theorem zbhg : okFun Go.Proofs.Try.prog 71 zwu = true := by kernel_rfl
theorem zbhh : okFun Go.Proofs.Try.prog 72 zxk = true := by kernel_rfl
theorem zbhi : okFun Go.Proofs.Try.prog 79 zxy = true := by kernel_rfl
theorem zbhj : okFun Go.Proofs.Try.prog 81 zx0 = true := by kernel_rfl
theorem zbhk : okFun Go.Proofs.Try.prog 83 zx2 = true := by kernel_rfl
theorem zbhl : okFun Go.Proofs.Try.prog 84 zx4 = true := by kernel_rfl
theorem zbhm : okFun Go.Proofs.Try.prog 91 zyv = true := by kernel_rfl
theorem zbhn : okFun Go.Proofs.Try.prog 94 zyx = true := by kernel_rfl
theorem zbho : okFun Go.Proofs.Try.prog 95 zyz = true := by kernel_rfl
theorem zbhp : okFun Go.Proofs.Try.prog 96 zy1 = true := by kernel_rfl
theorem zbhq : okFun Go.Proofs.Try.prog 97 zy3 = true := by kernel_rfl
theorem zbhr : okFun Go.Proofs.Try.prog 98 zzf = true := by kernel_rfl
theorem zbhs : okFun Go.Proofs.Try.prog 99 zzh = true := by kernel_rfl
theorem zbht : okFun Go.Proofs.Try.prog 105 zzv = true := by kernel_rfl
theorem zbhu : okFun Go.Proofs.Try.prog 106 zz0 = true := by kernel_rfl
theorem zbhv : okFun Go.Proofs.Try.prog 107 z0b = true := by kernel_rfl
theorem zbhw : okFun Go.Proofs.Try.prog 108 z0y = true := by kernel_rfl
theorem zbhx : okFun Go.Proofs.Try.prog 109 z03 = true := by kernel_rfl
theorem zbhy : okFun Go.Proofs.Try.prog 110 z1c = true := by kernel_rfl
theorem zbhz : okFun Go.Proofs.Try.prog 111 z1p = true := by kernel_rfl
theorem zbh0 : okFun Go.Proofs.Try.prog 112 z1u = true := by kernel_rfl
theorem zbh1 : okFun Go.Proofs.Try.prog 113 z1z = true := by kernel_rfl
theorem zbh2 : okFun Go.Proofs.Try.prog 114 z14 = true := by kernel_rfl
theorem zbh3 : okFun Go.Proofs.Try.prog 115 z2n = true := by kernel_rfl
theorem zbh4 : okFun Go.Proofs.Try.prog 116 z20 = true := by kernel_rfl
theorem zbh5 : okFun Go.Proofs.Try.prog 117 z25 = true := by kernel_rfl
theorem zbh6 : okFun Go.Proofs.Try.prog 135 z3o = true := by kernel_rfl
theorem zbh7 : okFun Go.Proofs.Try.prog 136 z39 = true := by kernel_rfl
theorem zbh8 : okFun Go.Proofs.Try.prog 142 z4n = true := by kernel_rfl
theorem zbh9 : okFun Go.Proofs.Try.prog 145 z46 = true := by kernel_rfl
theorem zbia : okFun Go.Proofs.Try.prog 151 z5b = true := by kernel_rfl
theorem zbib : okFun Go.Proofs.Try.prog 152 z5g = true := by kernel_rfl
theorem zbic : okFun Go.Proofs.Try.prog 153 z6e = true := by kernel_rfl
theorem zbid : okFun Go.Proofs.Try.prog 154 z6j = true := by kernel_rfl
theorem zbie : okFun Go.Proofs.Try.prog 155 z6s = true := by kernel_rfl
theorem zbif : okFun Go.Proofs.Try.prog 156 z63 = true := by kernel_rfl
theorem zbig : okFun Go.Proofs.Try.prog 157 z68 = true := by kernel_rfl
theorem zbih : okFun Go.Proofs.Try.prog 167 z75 = true := by kernel_rfl
theorem zbii : okFun Go.Proofs.Try.prog 170 z8o = true := by kernel_rfl
theorem zbij : okFun Go.Proofs.Try.prog 171 z8t = true := by kernel_rfl
theorem okAll : okTab Go.Proofs.Try.prog tab = true := by
 simp only [tab, okTab, zbgm, zbgn, zbgo, zbgp, zbgq, zbgr, zbgs, zbgt, zbgu, zbgv, zbgw, zbgx, zbgy, zbgz, zbg0, zbg1, zbg2, zbg3, zbg4, zbg5, zbg6, zbg7, zbg8, zbg9, zbha, zbhb, zbhc, zbhd, zbhe, zbhf, zbhg, zbhh, zbhi, zbhj, zbhk, zbhl, zbhm, zbhn, zbho, zbhp, zbhq, zbhr, zbhs, zbht, zbhu, zbhv, zbhw, zbhx, zbhy, zbhz, zbh0, zbh1, zbh2, zbh3, zbh4, zbh5, zbh6, zbh7, zbh8, zbh9, zbia, zbib, zbic, zbid, zbie, zbif, zbig, zbih, zbii, zbij, Bool.and_self, Bool.and_true]
theorem mixed : Go.Proofs.Try.prog.follows .mixedOrders = true := by kernel_rfl
theorem prims : PrimOk Go.Proofs.Try.prog tab := by
 simp only [tab, PrimOk]
 exact ⟨np rfl, np rfl, np rfl, np rfl, np rfl, np rfl, np rfl, np rfl, np rfl, np rfl, np rfl, np rfl, np rfl, np rfl, np rfl, np rfl, np rfl, np rfl, np rfl, np rfl, np rfl, np rfl, np rfl, np rfl, np rfl, np rfl, np rfl, np rfl, np rfl, np rfl, np rfl, np rfl, np rfl, np rfl, np rfl, np rfl, np rfl, np rfl, np rfl, np rfl, np rfl, np rfl, np rfl, np rfl, np rfl, np rfl, np rfl, np rfl, np rfl, np rfl, np rfl, np rfl, np rfl, np rfl, np rfl, np rfl, np rfl, np rfl, np rfl, np rfl, np rfl, np rfl, np rfl, np rfl, np rfl, np rfl, np rfl, np rfl, np rfl, np rfl, trivial⟩
end Go.Dvm.C
