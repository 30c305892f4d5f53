/- The code is the program's. -/
import Derived.Test.YtngajodhbioheaaProg
import Derived.Test.YtngajodhbioheaaQl0
import Derived.KernelRfl
import Derived.Test.YtngajodhbioheaaQg
set_option linter.all false
set_option maxRecDepth 100000
set_option maxHeartbeats 4000000
namespace Go.Dvm.C
open Go Go.Dvm
theorem zbwd : okFun Go.Proofs.Try.prog 8 zpi = true := by kernel_rfl
theorem zbwe : okFun Go.Proofs.Try.prog 17 zpm = true := by kernel_rfl
theorem zbwf : okFun Go.Proofs.Try.prog 19 zqj = true := by kernel_rfl
theorem zbwg : okFun Go.Proofs.Try.prog 21 zq7 = true := by kernel_rfl
theorem zbwh : okFun Go.Proofs.Try.prog 22 zq9 = true := by kernel_rfl
theorem zbwi : okFun Go.Proofs.Try.prog 24 zry = true := by kernel_rfl
theorem zbwj : okFun Go.Proofs.Try.prog 25 zr0 = true := by kernel_rfl
theorem zbwk : okFun Go.Proofs.Try.prog 26 zse = true := by kernel_rfl
theorem zbwl : okFun Go.Proofs.Try.prog 27 ztc = true := by kernel_rfl
theorem zbwm : okFun Go.Proofs.Try.prog 31 ztg = true := by kernel_rfl
theorem zbwn : okFun Go.Proofs.Try.prog 33 zti = true := by kernel_rfl
theorem zbwo : okFun Go.Proofs.Try.prog 34 zuu = true := by kernel_rfl
theorem zbwp : okFun Go.Proofs.Try.prog 35 zvc = true := by kernel_rfl
theorem zbwq : okFun Go.Proofs.Try.prog 36 zve = true := by kernel_rfl
theorem zbwr : okFun Go.Proofs.Try.prog 40 zvo = true := by kernel_rfl
theorem zbws : okFun Go.Proofs.Try.prog 42 zvq = true := by kernel_rfl
theorem zbwt : okFun Go.Proofs.Try.prog 45 zvs = true := by kernel_rfl
theorem zbwu : okFun Go.Proofs.Try.prog 46 zvu = true := by kernel_rfl
theorem zbwv : okFun Go.Proofs.Try.prog 47 zvw = true := by kernel_rfl
theorem zbww : okFun Go.Proofs.Try.prog 48 zv0 = true := by kernel_rfl
theorem zbwx : okFun Go.Proofs.Try.prog 49 zv4 = true := by kernel_rfl
theorem zbwy : okFun Go.Proofs.Try.prog 50 zv6 = true := by kernel_rfl
theorem zbwz : okFun Go.Proofs.Try.prog 52 zwr = true := by kernel_rfl
theorem zbw0 : okFun Go.Proofs.Try.prog 53 zw1 = true := by kernel_rfl
theorem zbw1 : okFun Go.Proofs.Try.prog 56 zxs = true := by kernel_rfl
theorem zbw2 : okFun Go.Proofs.Try.prog 57 zx6 = true := by kernel_rfl
theorem zbw3 : okFun Go.Proofs.Try.prog 58 zyo = true := by kernel_rfl
theorem zbw4 : okFun Go.Proofs.Try.prog 59 zzs = true := by kernel_rfl
theorem zbw5 : okFun Go.Proofs.Try.prog 60 zzu = true := by kernel_rfl
theorem zbw6 : okFun Go.Proofs.Try.prog 61 zz2 = true := by kernel_rfl
theorem zbw7 : okFun Go.Proofs.Try.prog 62 zz4 = true := by kernel_rfl
theorem zbw8 : okFun Go.Proofs.Try.prog 63 zz6 = true := by kernel_rfl
theorem zbw9 : okFun Go.Proofs.Try.prog 67 z0q = true := by kernel_rfl
theorem zbxa : okFun Go.Proofs.Try.prog 68 z0s = true := by kernel_rfl
theorem zbxb : okFun Go.Proofs.Try.prog 69 z0u = true := by kernel_rfl
theorem zbxc : okFun Go.Proofs.Try.prog 70 z04 = true := by kernel_rfl
theorem zbxd : okFun Go.Proofs.Try.prog 71 z06 = true := by kernel_rfl
theorem zbxe : okFun Go.Proofs.Try.prog 72 z07 = true := by kernel_rfl
theorem zbxf : okFun Go.Proofs.Try.prog 73 z1t = true := by kernel_rfl
theorem zbxg : okFun Go.Proofs.Try.prog 74 z1v = true := by kernel_rfl
theorem zbxh : okFun Go.Proofs.Try.prog 75 z1x = true := by kernel_rfl
theorem zbxi : okFun Go.Proofs.Try.prog 76 z15 = true := by kernel_rfl
theorem zbxj : okFun Go.Proofs.Try.prog 77 z2t = true := by kernel_rfl
theorem zbxk : okFun Go.Proofs.Try.prog 78 z4d = true := by kernel_rfl
theorem zbxl : okFun Go.Proofs.Try.prog 79 z4r = true := by kernel_rfl
theorem zbxm : okFun Go.Proofs.Try.prog 81 z4t = true := by kernel_rfl
theorem zbxn : okFun Go.Proofs.Try.prog 83 z4v = true := by kernel_rfl
theorem zbxo : okFun Go.Proofs.Try.prog 84 z4x = true := by kernel_rfl
theorem zbxp : okFun Go.Proofs.Try.prog 86 z47 = true := by kernel_rfl
theorem zbxq : okFun Go.Proofs.Try.prog 87 z49 = true := by kernel_rfl
theorem zbxr : okFun Go.Proofs.Try.prog 91 z50 = true := by kernel_rfl
theorem zbxs : okFun Go.Proofs.Try.prog 94 z52 = true := by kernel_rfl
theorem zbxt : okFun Go.Proofs.Try.prog 95 z54 = true := by kernel_rfl
theorem zbxu : okFun Go.Proofs.Try.prog 96 z56 = true := by kernel_rfl
theorem zbxv : okFun Go.Proofs.Try.prog 97 z58 = true := by kernel_rfl
theorem zbxw : okFun Go.Proofs.Try.prog 98 z6k = true := by kernel_rfl
theorem zbxx : okFun Go.Proofs.Try.prog 99 z6m = true := by kernel_rfl
theorem zbxy : okFun Go.Proofs.Try.prog 105 z60 = true := by kernel_rfl
theorem zbxz : okFun Go.Proofs.Try.prog 106 z65 = true := by kernel_rfl
theorem zbx0 : okFun Go.Proofs.Try.prog 107 z7g = true := by kernel_rfl
theorem zbx1 : okFun Go.Proofs.Try.prog 108 z73 = true := by kernel_rfl
theorem zbx2 : okFun Go.Proofs.Try.prog 109 z78 = true := by kernel_rfl
theorem zbx3 : okFun Go.Proofs.Try.prog 110 z8h = true := by kernel_rfl
theorem zbx4 : okFun Go.Proofs.Try.prog 111 z8u = true := by kernel_rfl
theorem zbx5 : okFun Go.Proofs.Try.prog 112 z8z = true := by kernel_rfl
theorem zbx6 : okFun Go.Proofs.Try.prog 113 z84 = true := by kernel_rfl
theorem zbx7 : okFun Go.Proofs.Try.prog 114 z89 = true := by kernel_rfl
theorem zbx8 : okFun Go.Proofs.Try.prog 115 z9s = true := by kernel_rfl
theorem zbx9 : okFun Go.Proofs.Try.prog 116 z95 = true := by kernel_rfl
theorem zbya : okFun Go.Proofs.Try.prog 117 zbaa = true := by kernel_rfl
theorem zbyb : okFun Go.Proofs.Try.prog 125 zbaf = true := by kernel_rfl
theorem zbyc : okFun Go.Proofs.Try.prog 126 zbau = true := by kernel_rfl
theorem zbyd : okFun Go.Proofs.Try.prog 127 zba3 = true := by kernel_rfl
theorem zbye : okFun Go.Proofs.Try.prog 128 zbbk = true := by kernel_rfl
theorem zbyf : okFun Go.Proofs.Try.prog 129 zbb1 = true := by kernel_rfl
theorem zbyg : okFun Go.Proofs.Try.prog 130 zbcc = true := by kernel_rfl
theorem zbyh : okFun Go.Proofs.Try.prog 131 zbcv = true := by kernel_rfl
theorem zbyi : okFun Go.Proofs.Try.prog 132 zbc6 = true := by kernel_rfl
theorem zbyj : okFun Go.Proofs.Try.prog 133 zbdh = true := by kernel_rfl
theorem zbyk : okFun Go.Proofs.Try.prog 135 zbd0 = true := by kernel_rfl
theorem zbyl : okFun Go.Proofs.Try.prog 136 zbel = true := by kernel_rfl
theorem zbym : okFun Go.Proofs.Try.prog 142 zbez = true := by kernel_rfl
theorem zbyn : okFun Go.Proofs.Try.prog 145 zbfi = true := by kernel_rfl
theorem zbyo : okFun Go.Proofs.Try.prog 151 zbfn = true := by kernel_rfl
theorem zbyp : okFun Go.Proofs.Try.prog 152 zbfs = true := by kernel_rfl
theorem zbyq : okFun Go.Proofs.Try.prog 153 zbgq = true := by kernel_rfl
theorem zbyr : okFun Go.Proofs.Try.prog 154 zbgv = true := by kernel_rfl
theorem zbys : okFun Go.Proofs.Try.prog 155 zbg4 = true := by kernel_rfl
theorem zbyt : okFun Go.Proofs.Try.prog 156 zbhf = true := by kernel_rfl
theorem zbyu : okFun Go.Proofs.Try.prog 157 zbhk = true := by kernel_rfl
theorem zbyv : okFun Go.Proofs.Try.prog 163 zbh7 = true := by kernel_rfl
theorem zbyw : okFun Go.Proofs.Try.prog 164 zbi6 = true := by kernel_rfl
theorem zbyx : okFun Go.Proofs.Try.prog 165 zbjh = true := by kernel_rfl
theorem zbyy : okFun Go.Proofs.Try.prog 167 zbke = true := by kernel_rfl
theorem zbyz : okFun Go.Proofs.Try.prog 170 zbkx = true := by kernel_rfl
theorem zby0 : okFun Go.Proofs.Try.prog 171 zbk2 = true := by kernel_rfl
theorem zby1 : okFun Go.Proofs.Try.prog 173 zblb = true := by kernel_rfl
theorem okAll : okTab Go.Proofs.Try.prog tab = true := by
 simp only [tab, okTab, zbwd, zbwe, zbwf, zbwg, zbwh, zbwi, zbwj, zbwk, zbwl, zbwm, zbwn, zbwo, zbwp, zbwq, zbwr, zbws, zbwt, zbwu, zbwv, zbww, zbwx, zbwy, zbwz, zbw0, zbw1, zbw2, zbw3, zbw4, zbw5, zbw6, zbw7, zbw8, zbw9, zbxa, zbxb, zbxc, zbxd, zbxe, zbxf, zbxg, zbxh, zbxi, zbxj, zbxk, zbxl, zbxm, zbxn, zbxo, zbxp, zbxq, zbxr, zbxs, zbxt, zbxu, zbxv, zbxw, zbxx, zbxy, zbxz, zbx0, zbx1, zbx2, zbx3, zbx4, zbx5, zbx6, zbx7, zbx8, zbx9, zbya, zbyb, zbyc, zbyd, zbye, zbyf, zbyg, zbyh, zbyi, zbyj, zbyk, zbyl, zbym, zbyn, zbyo, zbyp, zbyq, zbyr, zbys, zbyt, zbyu, zbyv, zbyw, zbyx, zbyy, zbyz, zby0, zby1, Bool.and_self, Bool.and_true]
theorem mixed : Go.Proofs.Try.prog.follows .mixedOrders = true := by kernel_rfl
theorem prims : PrimOk Go.Proofs.Try.prog tab := by
 simp only [tab, PrimOk]
 exact ⟨np rfl, np rfl, np rfl, np rfl, np rfl, np rfl, np rfl, np rfl, np rfl, np rfl, np rfl, np rfl, np rfl, np rfl, np rfl, np rfl, np rfl, np rfl, np rfl, np rfl, np rfl, np rfl, np rfl, np rfl, np rfl, np rfl, np rfl, np rfl, np rfl, np rfl, np rfl, np rfl, np rfl, np rfl, np rfl, np rfl, np rfl, fun p e ds rs h => zbwc ds rs (by cases e; exact h), np rfl, np rfl, np rfl, np rfl, np rfl, np rfl, np rfl, np rfl, np rfl, np rfl, np rfl, np rfl, np rfl, np rfl, np rfl, np rfl, np rfl, np rfl, np rfl, np rfl, np rfl, np rfl, np rfl, np rfl, np rfl, np rfl, np rfl, np rfl, np rfl, np rfl, np rfl, np rfl, np rfl, np rfl, np rfl, np rfl, np rfl, np rfl, np rfl, np rfl, np rfl, np rfl, np rfl, np rfl, np rfl, np rfl, np rfl, np rfl, np rfl, np rfl, np rfl, np rfl, np rfl, np rfl, np rfl, np rfl, np rfl, np rfl, np rfl, trivial⟩
end Go.Dvm.C
