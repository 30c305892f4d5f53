/- The code is the program's. -/
import Derived.Test.YtngajodhbioheaaProg
import Derived.Test.YtngajodhbioheaaQl0
import Derived.KernelRfl
set_option linter.all false
set_option maxRecDepth 100000
set_option maxHeartbeats 4000000
namespace Go.Dvm.C
open Go Go.Dvm
theorem zbm7 : okFun Go.Proofs.Try.prog 15 znh = true := by kernel_rfl
theorem zbm8 : okFun Go.Proofs.Try.prog 18 znj = true := by kernel_rfl
theorem zbm9 : okFun Go.Proofs.Try.prog 22 znl = true := by kernel_rfl
theorem zbna : okFun Go.Proofs.Try.prog 23 zn2 = true := by kernel_rfl
theorem zbnb : okFun Go.Proofs.Try.prog 28 zn4 = true := by kernel_rfl
theorem zbnc : okFun Go.Proofs.Try.prog 31 zn8 = true := by kernel_rfl
theorem zbnd : okFun Go.Proofs.Try.prog 37 zoo = true := by kernel_rfl
theorem zbne : okFun Go.Proofs.Try.prog 43 zpp = true := by kernel_rfl
theorem zbnf : okFun Go.Proofs.Try.prog 44 zpr = true := by kernel_rfl
theorem zbng : okFun Go.Proofs.Try.prog 50 zpt = true := by kernel_rfl
theorem zbnh : okFun Go.Proofs.Try.prog 52 zqe = true := by kernel_rfl
theorem zbni : okFun Go.Proofs.Try.prog 53 zqo = true := by kernel_rfl
theorem zbnj : okFun Go.Proofs.Try.prog 54 zqq = true := by kernel_rfl
theorem zbnk : okFun Go.Proofs.Try.prog 55 zri = true := by kernel_rfl
theorem zbnl : okFun Go.Proofs.Try.prog 58 zr0 = true := by kernel_rfl
theorem zbnm : okFun Go.Proofs.Try.prog 62 zr2 = true := by kernel_rfl
theorem zbnn : okFun Go.Proofs.Try.prog 63 zr4 = true := by kernel_rfl
theorem zbno : okFun Go.Proofs.Try.prog 67 zso = true := by kernel_rfl
theorem zbnp : okFun Go.Proofs.Try.prog 68 zsq = true := by kernel_rfl
theorem zbnq : okFun Go.Proofs.Try.prog 69 zss = true := by kernel_rfl
theorem zbnr : okFun Go.Proofs.Try.prog 70 zs2 = true := by kernel_rfl
theorem zbns : okFun Go.Proofs.Try.prog 71 zs4 = true := by kernel_rfl
theorem zbnt : okFun Go.Proofs.Try.prog 72 ztu = true := by kernel_rfl
theorem zbnu : okFun Go.Proofs.Try.prog 80 zt6 = true := by kernel_rfl
theorem zbnv : okFun Go.Proofs.Try.prog 81 zt8 = true := by kernel_rfl
theorem zbnw : okFun Go.Proofs.Try.prog 82 zua = true := by kernel_rfl
theorem zbnx : okFun Go.Proofs.Try.prog 83 zuc = true := by kernel_rfl
theorem zbny : okFun Go.Proofs.Try.prog 84 zue = true := by kernel_rfl
theorem zbnz : okFun Go.Proofs.Try.prog 89 zug = true := by kernel_rfl
theorem zbn0 : okFun Go.Proofs.Try.prog 90 zu8 = true := by kernel_rfl
theorem zbn1 : okFun Go.Proofs.Try.prog 91 zvz = true := by kernel_rfl
theorem zbn2 : okFun Go.Proofs.Try.prog 92 zv9 = true := by kernel_rfl
theorem zbn3 : okFun Go.Proofs.Try.prog 93 zxd = true := by kernel_rfl
theorem zbn4 : okFun Go.Proofs.Try.prog 95 zxf = true := by kernel_rfl
theorem zbn5 : okFun Go.Proofs.Try.prog 96 zxh = true := by kernel_rfl
theorem zbn6 : okFun Go.Proofs.Try.prog 97 zxj = true := by kernel_rfl
theorem zbn7 : okFun Go.Proofs.Try.prog 98 zxv = true := by kernel_rfl
theorem zbn8 : okFun Go.Proofs.Try.prog 99 zxx = true := by kernel_rfl
theorem zbn9 : okFun Go.Proofs.Try.prog 100 zx2 = true := by kernel_rfl
theorem zboa : okFun Go.Proofs.Try.prog 101 zyn = true := by kernel_rfl
theorem zbob : okFun Go.Proofs.Try.prog 102 zzl = true := by kernel_rfl
theorem zboc : okFun Go.Proofs.Try.prog 103 z0l = true := by kernel_rfl
theorem zbod : okFun Go.Proofs.Try.prog 104 z1g = true := by kernel_rfl
theorem zboe : okFun Go.Proofs.Try.prog 106 z1l = true := by kernel_rfl
theorem zbof : okFun Go.Proofs.Try.prog 107 z1w = true := by kernel_rfl
theorem zbog : okFun Go.Proofs.Try.prog 108 z2j = true := by kernel_rfl
theorem zboh : okFun Go.Proofs.Try.prog 109 z2o = true := by kernel_rfl
theorem zboi : okFun Go.Proofs.Try.prog 110 z2x = true := by kernel_rfl
theorem zboj : okFun Go.Proofs.Try.prog 116 z3a = true := by kernel_rfl
theorem zbok : okFun Go.Proofs.Try.prog 117 z3f = true := by kernel_rfl
theorem zbol : okFun Go.Proofs.Try.prog 134 z32 = true := by kernel_rfl
theorem zbom : okFun Go.Proofs.Try.prog 135 z4l = true := by kernel_rfl
theorem zbon : okFun Go.Proofs.Try.prog 136 z46 = true := by kernel_rfl
theorem zboo : okFun Go.Proofs.Try.prog 140 z5p = true := by kernel_rfl
theorem zbop : okFun Go.Proofs.Try.prog 141 z58 = true := by kernel_rfl
theorem zboq : okFun Go.Proofs.Try.prog 142 z6m = true := by kernel_rfl
theorem zbor : okFun Go.Proofs.Try.prog 143 z7m = true := by kernel_rfl
theorem zbos : okFun Go.Proofs.Try.prog 144 z77 = true := by kernel_rfl
theorem zbot : okFun Go.Proofs.Try.prog 145 z8q = true := by kernel_rfl
theorem zbou : okFun Go.Proofs.Try.prog 146 z87 = true := by kernel_rfl
theorem zbov : okFun Go.Proofs.Try.prog 147 z9i = true := by kernel_rfl
theorem zbow : okFun Go.Proofs.Try.prog 148 z9v = true := by kernel_rfl
theorem zbox : okFun Go.Proofs.Try.prog 150 zban = true := by kernel_rfl
theorem zboy : okFun Go.Proofs.Try.prog 151 zbas = true := by kernel_rfl
theorem zboz : okFun Go.Proofs.Try.prog 152 zbax = true := by kernel_rfl
theorem zbo0 : okFun Go.Proofs.Try.prog 153 zbbv = true := by kernel_rfl
theorem zbo1 : okFun Go.Proofs.Try.prog 156 zbb6 = true := by kernel_rfl
theorem zbo2 : okFun Go.Proofs.Try.prog 166 zbcf = true := by kernel_rfl
theorem zbo3 : okFun Go.Proofs.Try.prog 167 zbdc = true := by kernel_rfl
theorem zbo4 : okFun Go.Proofs.Try.prog 168 zbdl = true := by kernel_rfl
theorem zbo5 : okFun Go.Proofs.Try.prog 170 zbd4 = true := by kernel_rfl
theorem zbo6 : okFun Go.Proofs.Try.prog 171 zbd9 = true := by kernel_rfl
theorem zbo7 : okFun Go.Proofs.Try.prog 174 zbek = true := by kernel_rfl
theorem zbo8 : okFun Go.Proofs.Try.prog 175 zbep = true := by kernel_rfl
theorem zbo9 : okFun Go.Proofs.Try.prog 176 zbeu = true := by kernel_rfl
theorem okAll : okTab Go.Proofs.Try.prog tab = true := by
 simp only [tab, okTab, zbm7, zbm8, zbm9, zbna, zbnb, zbnc, zbnd, zbne, zbnf, zbng, zbnh, zbni, zbnj, zbnk, zbnl, zbnm, zbnn, zbno, zbnp, zbnq, zbnr, zbns, zbnt, zbnu, zbnv, zbnw, zbnx, zbny, zbnz, zbn0, zbn1, zbn2, zbn3, zbn4, zbn5, zbn6, zbn7, zbn8, zbn9, zboa, zbob, zboc, zbod, zboe, zbof, zbog, zboh, zboi, zboj, zbok, zbol, zbom, zbon, zboo, zbop, zboq, zbor, zbos, zbot, zbou, zbov, zbow, zbox, zboy, zboz, zbo0, zbo1, zbo2, zbo3, zbo4, zbo5, zbo6, zbo7, zbo8, zbo9, Bool.and_self, Bool.and_true]
theorem mixed : Go.Proofs.Try.prog.follows .mixedOrders = true := by kernel_rfl
end Go.Dvm.C
