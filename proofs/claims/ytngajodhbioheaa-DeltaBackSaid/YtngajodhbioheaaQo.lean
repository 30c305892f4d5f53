/- The code is the program's. -/
import Derived.Test.YtngajodhbioheaaProg
import Derived.Test.YtngajodhbioheaaQl0
import Derived.KernelRfl
import Derived.Test.YtngajodhbioheaaQg
set_option linter.all false
set_option maxRecDepth 100000
set_option maxHeartbeats 4000000
namespace Go.Dvm.C
open Go Go.Dvm
theorem zbgx : okFun Go.Proofs.Try.prog 9 zob = true := by kernel_rfl
theorem zbgy : okFun Go.Proofs.Try.prog 17 zof = true := by kernel_rfl
theorem zbgz : okFun Go.Proofs.Try.prog 18 zoh = true := by kernel_rfl
theorem zbg0 : okFun Go.Proofs.Try.prog 19 zpe = true := by kernel_rfl
theorem zbg1 : okFun Go.Proofs.Try.prog 22 zpg = true := by kernel_rfl
theorem zbg2 : okFun Go.Proofs.Try.prog 24 zp5 = true := by kernel_rfl
theorem zbg3 : okFun Go.Proofs.Try.prog 25 zp7 = true := by kernel_rfl
theorem zbg4 : okFun Go.Proofs.Try.prog 26 zql = true := by kernel_rfl
theorem zbg5 : okFun Go.Proofs.Try.prog 27 zrj = true := by kernel_rfl
theorem zbg6 : okFun Go.Proofs.Try.prog 31 zrn = true := by kernel_rfl
theorem zbg7 : okFun Go.Proofs.Try.prog 36 zrp = true := by kernel_rfl
theorem zbg8 : okFun Go.Proofs.Try.prog 42 zrr = true := by kernel_rfl
theorem zbg9 : okFun Go.Proofs.Try.prog 44 zrt = true := by kernel_rfl
theorem zbha : okFun Go.Proofs.Try.prog 45 zrv = true := by kernel_rfl
theorem zbhb : okFun Go.Proofs.Try.prog 46 zrx = true := by kernel_rfl
theorem zbhc : okFun Go.Proofs.Try.prog 47 zrz = true := by kernel_rfl
theorem zbhd : okFun Go.Proofs.Try.prog 48 zr3 = true := by kernel_rfl
theorem zbhe : okFun Go.Proofs.Try.prog 49 zr7 = true := by kernel_rfl
theorem zbhf : okFun Go.Proofs.Try.prog 50 zr9 = true := by kernel_rfl
theorem zbhg : okFun Go.Proofs.Try.prog 52 zsu = true := by kernel_rfl
theorem zbhh : okFun Go.Proofs.Try.prog 53 zs4 = true := by kernel_rfl
theorem zbhi : okFun Go.Proofs.Try.prog 56 ztv = true := by kernel_rfl
theorem zbhj : okFun Go.Proofs.Try.prog 57 zt9 = true := by kernel_rfl
theorem zbhk : okFun Go.Proofs.Try.prog 58 zur = true := by kernel_rfl
theorem zbhl : okFun Go.Proofs.Try.prog 59 zvv = true := by kernel_rfl
theorem zbhm : okFun Go.Proofs.Try.prog 60 zvx = true := by kernel_rfl
theorem zbhn : okFun Go.Proofs.Try.prog 61 zv5 = true := by kernel_rfl
theorem zbho : okFun Go.Proofs.Try.prog 62 zv7 = true := by kernel_rfl
theorem zbhp : okFun Go.Proofs.Try.prog 63 zv9 = true := by kernel_rfl
theorem zbhq : okFun Go.Proofs.Try.prog 67 zwt = true := by kernel_rfl
theorem zbhr : okFun Go.Proofs.Try.prog 68 zwv = true := by kernel_rfl
theorem zbhs : okFun Go.Proofs.Try.prog 69 zwx = true := by kernel_rfl
theorem zbht : okFun Go.Proofs.Try.prog 70 zw7 = true := by kernel_rfl
theorem zbhu : okFun Go.Proofs.Try.prog 71 zw9 = true := by kernel_rfl
theorem zbhv : okFun Go.Proofs.Try.prog 72 zxa = true := by kernel_rfl
theorem zbhw : okFun Go.Proofs.Try.prog 79 zxo = true := by kernel_rfl
theorem zbhx : okFun Go.Proofs.Try.prog 81 zxq = true := by kernel_rfl
theorem zbhy : okFun Go.Proofs.Try.prog 83 zxs = true := by kernel_rfl
theorem zbhz : okFun Go.Proofs.Try.prog 84 zxu = true := by kernel_rfl
theorem zbh0 : okFun Go.Proofs.Try.prog 91 zyl = true := by kernel_rfl
theorem zbh1 : okFun Go.Proofs.Try.prog 94 zyn = true := by kernel_rfl
theorem zbh2 : okFun Go.Proofs.Try.prog 95 zyp = true := by kernel_rfl
theorem zbh3 : okFun Go.Proofs.Try.prog 96 zyr = true := by kernel_rfl
theorem zbh4 : okFun Go.Proofs.Try.prog 97 zyt = true := by kernel_rfl
theorem zbh5 : okFun Go.Proofs.Try.prog 98 zy5 = true := by kernel_rfl
theorem zbh6 : okFun Go.Proofs.Try.prog 99 zy7 = true := by kernel_rfl
theorem zbh7 : okFun Go.Proofs.Try.prog 105 zzl = true := by kernel_rfl
theorem zbh8 : okFun Go.Proofs.Try.prog 106 zzq = true := by kernel_rfl
theorem zbh9 : okFun Go.Proofs.Try.prog 107 zz1 = true := by kernel_rfl
theorem zbia : okFun Go.Proofs.Try.prog 108 z0o = true := by kernel_rfl
theorem zbib : okFun Go.Proofs.Try.prog 109 z0t = true := by kernel_rfl
theorem zbic : okFun Go.Proofs.Try.prog 110 z02 = true := by kernel_rfl
theorem zbid : okFun Go.Proofs.Try.prog 111 z1f = true := by kernel_rfl
theorem zbie : okFun Go.Proofs.Try.prog 112 z1k = true := by kernel_rfl
theorem zbif : okFun Go.Proofs.Try.prog 113 z1p = true := by kernel_rfl
theorem zbig : okFun Go.Proofs.Try.prog 114 z1u = true := by kernel_rfl
theorem zbih : okFun Go.Proofs.Try.prog 115 z2d = true := by kernel_rfl
theorem zbii : okFun Go.Proofs.Try.prog 116 z2q = true := by kernel_rfl
theorem zbij : okFun Go.Proofs.Try.prog 117 z2v = true := by kernel_rfl
theorem zbik : okFun Go.Proofs.Try.prog 135 z3e = true := by kernel_rfl
theorem zbil : okFun Go.Proofs.Try.prog 136 z3z = true := by kernel_rfl
theorem zbim : okFun Go.Proofs.Try.prog 142 z4d = true := by kernel_rfl
theorem zbin : okFun Go.Proofs.Try.prog 145 z4w = true := by kernel_rfl
theorem zbio : okFun Go.Proofs.Try.prog 151 z41 = true := by kernel_rfl
theorem zbip : okFun Go.Proofs.Try.prog 152 z46 = true := by kernel_rfl
theorem zbiq : okFun Go.Proofs.Try.prog 153 z54 = true := by kernel_rfl
theorem zbir : okFun Go.Proofs.Try.prog 154 z59 = true := by kernel_rfl
theorem zbis : okFun Go.Proofs.Try.prog 155 z6i = true := by kernel_rfl
theorem zbit : okFun Go.Proofs.Try.prog 156 z6t = true := by kernel_rfl
theorem zbiu : okFun Go.Proofs.Try.prog 157 z6y = true := by kernel_rfl
theorem zbiv : okFun Go.Proofs.Try.prog 167 z7v = true := by kernel_rfl
theorem zbiw : okFun Go.Proofs.Try.prog 170 z8e = true := by kernel_rfl
theorem zbix : okFun Go.Proofs.Try.prog 171 z8j = true := by kernel_rfl
theorem okAll : okTab Go.Proofs.Try.prog tab = true := by
 simp only [tab, okTab, zbgx, zbgy, zbgz, zbg0, zbg1, zbg2, zbg3, zbg4, zbg5, zbg6, zbg7, zbg8, zbg9, zbha, zbhb, zbhc, zbhd, zbhe, zbhf, zbhg, zbhh, zbhi, zbhj, zbhk, zbhl, zbhm, zbhn, zbho, zbhp, zbhq, zbhr, zbhs, zbht, zbhu, zbhv, zbhw, zbhx, zbhy, zbhz, zbh0, zbh1, zbh2, zbh3, zbh4, zbh5, zbh6, zbh7, zbh8, zbh9, zbia, zbib, zbic, zbid, zbie, zbif, zbig, zbih, zbii, zbij, zbik, zbil, zbim, zbin, zbio, zbip, zbiq, zbir, zbis, zbit, zbiu, zbiv, zbiw, zbix, Bool.and_self, Bool.and_true]
theorem mixed : Go.Proofs.Try.prog.follows .mixedOrders = true := by kernel_rfl
theorem prims : PrimOk Go.Proofs.Try.prog tab := by
 simp only [tab, PrimOk]
 exact ⟨np rfl, np rfl, np rfl, np rfl, np rfl, np rfl, np rfl, np rfl, np rfl, np rfl, np rfl, np rfl, np rfl, np rfl, np rfl, np rfl, np rfl, np rfl, np rfl, np rfl, np rfl, np rfl, np rfl, np rfl, np rfl, np rfl, np rfl, np rfl, np rfl, np rfl, np rfl, np rfl, np rfl, np rfl, fun p e ds rs h => zbgw ds rs (by cases e; exact h), np rfl, np rfl, np rfl, np rfl, np rfl, np rfl, np rfl, np rfl, np rfl, np rfl, np rfl, np rfl, np rfl, np rfl, np rfl, np rfl, np rfl, np rfl, np rfl, np rfl, np rfl, np rfl, np rfl, np rfl, np rfl, np rfl, np rfl, np rfl, np rfl, np rfl, np rfl, np rfl, np rfl, np rfl, np rfl, np rfl, np rfl, np rfl, trivial⟩
end Go.Dvm.C
