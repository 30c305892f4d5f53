/- The code is the program's. -/
import Derived.Test.YtngajodhbioheaaProg
import Derived.Test.YtngajodhbioheaaQl0
import Derived.KernelRfl
set_option linter.all false
set_option maxRecDepth 100000
set_option maxHeartbeats 4000000
namespace Go.Dvm.C
open Go Go.Dvm
theorem zbmc : okFun Go.Proofs.Try.prog 14 zmy = true := by kernel_rfl
theorem zbmd : okFun Go.Proofs.Try.prog 22 zm0 = true := by kernel_rfl
theorem zbme : okFun Go.Proofs.Try.prog 23 znh = true := by kernel_rfl
theorem zbmf : okFun Go.Proofs.Try.prog 28 znj = true := by kernel_rfl
theorem zbmg : okFun Go.Proofs.Try.prog 31 znn = true := by kernel_rfl
theorem zbmh : okFun Go.Proofs.Try.prog 37 zn3 = true := by kernel_rfl
theorem zbmi : okFun Go.Proofs.Try.prog 43 zo4 = true := by kernel_rfl
theorem zbmj : okFun Go.Proofs.Try.prog 50 zo6 = true := by kernel_rfl
theorem zbmk : okFun Go.Proofs.Try.prog 52 zpr = true := by kernel_rfl
theorem zbml : okFun Go.Proofs.Try.prog 53 zp1 = true := by kernel_rfl
theorem zbmm : okFun Go.Proofs.Try.prog 54 zp3 = true := by kernel_rfl
theorem zbmn : okFun Go.Proofs.Try.prog 55 zqv = true := by kernel_rfl
theorem zbmo : okFun Go.Proofs.Try.prog 58 zrd = true := by kernel_rfl
theorem zbmp : okFun Go.Proofs.Try.prog 62 zrf = true := by kernel_rfl
theorem zbmq : okFun Go.Proofs.Try.prog 63 zrh = true := by kernel_rfl
theorem zbmr : okFun Go.Proofs.Try.prog 67 zr1 = true := by kernel_rfl
theorem zbms : okFun Go.Proofs.Try.prog 68 zr3 = true := by kernel_rfl
theorem zbmt : okFun Go.Proofs.Try.prog 69 zr5 = true := by kernel_rfl
theorem zbmu : okFun Go.Proofs.Try.prog 70 zsf = true := by kernel_rfl
theorem zbmv : okFun Go.Proofs.Try.prog 71 zsh = true := by kernel_rfl
theorem zbmw : okFun Go.Proofs.Try.prog 72 zs7 = true := by kernel_rfl
theorem zbmx : okFun Go.Proofs.Try.prog 80 ztj = true := by kernel_rfl
theorem zbmy : okFun Go.Proofs.Try.prog 81 ztl = true := by kernel_rfl
theorem zbmz : okFun Go.Proofs.Try.prog 82 ztn = true := by kernel_rfl
theorem zbm0 : okFun Go.Proofs.Try.prog 83 ztp = true := by kernel_rfl
theorem zbm1 : okFun Go.Proofs.Try.prog 84 ztr = true := by kernel_rfl
theorem zbm2 : okFun Go.Proofs.Try.prog 89 ztt = true := by kernel_rfl
theorem zbm3 : okFun Go.Proofs.Try.prog 90 zul = true := by kernel_rfl
theorem zbm4 : okFun Go.Proofs.Try.prog 91 zvc = true := by kernel_rfl
theorem zbm5 : okFun Go.Proofs.Try.prog 92 zvm = true := by kernel_rfl
theorem zbm6 : okFun Go.Proofs.Try.prog 93 zwq = true := by kernel_rfl
theorem zbm7 : okFun Go.Proofs.Try.prog 95 zws = true := by kernel_rfl
theorem zbm8 : okFun Go.Proofs.Try.prog 96 zwu = true := by kernel_rfl
theorem zbm9 : okFun Go.Proofs.Try.prog 97 zww = true := by kernel_rfl
theorem zbna : okFun Go.Proofs.Try.prog 98 zw8 = true := by kernel_rfl
theorem zbnb : okFun Go.Proofs.Try.prog 99 zxa = true := by kernel_rfl
theorem zbnc : okFun Go.Proofs.Try.prog 100 zxf = true := by kernel_rfl
theorem zbnd : okFun Go.Proofs.Try.prog 101 zx0 = true := by kernel_rfl
theorem zbne : okFun Go.Proofs.Try.prog 102 zyy = true := by kernel_rfl
theorem zbnf : okFun Go.Proofs.Try.prog 103 zzy = true := by kernel_rfl
theorem zbng : okFun Go.Proofs.Try.prog 104 z0t = true := by kernel_rfl
theorem zbnh : okFun Go.Proofs.Try.prog 106 z0y = true := by kernel_rfl
theorem zbni : okFun Go.Proofs.Try.prog 107 z09 = true := by kernel_rfl
theorem zbnj : okFun Go.Proofs.Try.prog 108 z1w = true := by kernel_rfl
theorem zbnk : okFun Go.Proofs.Try.prog 109 z11 = true := by kernel_rfl
theorem zbnl : okFun Go.Proofs.Try.prog 110 z2a = true := by kernel_rfl
theorem zbnm : okFun Go.Proofs.Try.prog 116 z2n = true := by kernel_rfl
theorem zbnn : okFun Go.Proofs.Try.prog 117 z2s = true := by kernel_rfl
theorem zbno : okFun Go.Proofs.Try.prog 134 z3f = true := by kernel_rfl
theorem zbnp : okFun Go.Proofs.Try.prog 135 z3y = true := by kernel_rfl
theorem zbnq : okFun Go.Proofs.Try.prog 136 z4j = true := by kernel_rfl
theorem zbnr : okFun Go.Proofs.Try.prog 140 z42 = true := by kernel_rfl
theorem zbns : okFun Go.Proofs.Try.prog 141 z5l = true := by kernel_rfl
theorem zbnt : okFun Go.Proofs.Try.prog 142 z5z = true := by kernel_rfl
theorem zbnu : okFun Go.Proofs.Try.prog 143 z6z = true := by kernel_rfl
theorem zbnv : okFun Go.Proofs.Try.prog 144 z7k = true := by kernel_rfl
theorem zbnw : okFun Go.Proofs.Try.prog 145 z73 = true := by kernel_rfl
theorem zbnx : okFun Go.Proofs.Try.prog 146 z8k = true := by kernel_rfl
theorem zbny : okFun Go.Proofs.Try.prog 147 z8v = true := by kernel_rfl
theorem zbnz : okFun Go.Proofs.Try.prog 148 z88 = true := by kernel_rfl
theorem zbn0 : okFun Go.Proofs.Try.prog 150 z90 = true := by kernel_rfl
theorem zbn1 : okFun Go.Proofs.Try.prog 151 z95 = true := by kernel_rfl
theorem zbn2 : okFun Go.Proofs.Try.prog 152 zbaa = true := by kernel_rfl
theorem zbn3 : okFun Go.Proofs.Try.prog 153 zba8 = true := by kernel_rfl
theorem zbn4 : okFun Go.Proofs.Try.prog 156 zbbj = true := by kernel_rfl
theorem zbn5 : okFun Go.Proofs.Try.prog 166 zbbs = true := by kernel_rfl
theorem zbn6 : okFun Go.Proofs.Try.prog 167 zbcp = true := by kernel_rfl
theorem zbn7 : okFun Go.Proofs.Try.prog 168 zbcy = true := by kernel_rfl
theorem zbn8 : okFun Go.Proofs.Try.prog 170 zbdh = true := by kernel_rfl
theorem zbn9 : okFun Go.Proofs.Try.prog 171 zbdm = true := by kernel_rfl
theorem zboa : okFun Go.Proofs.Try.prog 174 zbdx = true := by kernel_rfl
theorem zbob : okFun Go.Proofs.Try.prog 175 zbd2 = true := by kernel_rfl
theorem zboc : okFun Go.Proofs.Try.prog 176 zbd7 = true := by kernel_rfl
theorem okAll : okTab Go.Proofs.Try.prog tab = true := by
 simp only [tab, okTab, zbmc, zbmd, zbme, zbmf, zbmg, zbmh, zbmi, zbmj, zbmk, zbml, zbmm, zbmn, zbmo, zbmp, zbmq, zbmr, zbms, zbmt, zbmu, zbmv, zbmw, zbmx, zbmy, zbmz, zbm0, zbm1, zbm2, zbm3, zbm4, zbm5, zbm6, zbm7, zbm8, zbm9, zbna, zbnb, zbnc, zbnd, zbne, zbnf, zbng, zbnh, zbni, zbnj, zbnk, zbnl, zbnm, zbnn, zbno, zbnp, zbnq, zbnr, zbns, zbnt, zbnu, zbnv, zbnw, zbnx, zbny, zbnz, zbn0, zbn1, zbn2, zbn3, zbn4, zbn5, zbn6, zbn7, zbn8, zbn9, zboa, zbob, zboc, Bool.and_self, Bool.and_true]
theorem mixed : Go.Proofs.Try.prog.follows .mixedOrders = true := by kernel_rfl
end Go.Dvm.C
