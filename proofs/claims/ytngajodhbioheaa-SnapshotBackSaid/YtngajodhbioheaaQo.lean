/- The code is the program's. -/
import Derived.Test.YtngajodhbioheaaProg
import Derived.Test.YtngajodhbioheaaQl0
import Derived.KernelRfl
set_option linter.all false
set_option maxRecDepth 100000
set_option maxHeartbeats 4000000
namespace Go.Dvm.C
open Go Go.Dvm
theorem zbod : okFun Go.Proofs.Try.prog 16 znb = true := by kernel_rfl
theorem zboe : okFun Go.Proofs.Try.prog 18 znd = true := by kernel_rfl
theorem zbof : okFun Go.Proofs.Try.prog 22 znf = true := by kernel_rfl
theorem zbog : okFun Go.Proofs.Try.prog 23 znw = true := by kernel_rfl
theorem zboh : okFun Go.Proofs.Try.prog 25 zny = true := by kernel_rfl
theorem zboi : okFun Go.Proofs.Try.prog 28 zn0 = true := by kernel_rfl
theorem zboj : okFun Go.Proofs.Try.prog 31 zn4 = true := by kernel_rfl
theorem zbok : okFun Go.Proofs.Try.prog 37 zok = true := by kernel_rfl
theorem zbol : okFun Go.Proofs.Try.prog 42 zom = true := by kernel_rfl
theorem zbom : okFun Go.Proofs.Try.prog 43 zpn = true := by kernel_rfl
theorem zbon : okFun Go.Proofs.Try.prog 44 zpp = true := by kernel_rfl
theorem zboo : okFun Go.Proofs.Try.prog 50 zpr = true := by kernel_rfl
theorem zbop : okFun Go.Proofs.Try.prog 52 zqc = true := by kernel_rfl
theorem zboq : okFun Go.Proofs.Try.prog 53 zqm = true := by kernel_rfl
theorem zbor : okFun Go.Proofs.Try.prog 54 zqo = true := by kernel_rfl
theorem zbos : okFun Go.Proofs.Try.prog 55 zrg = true := by kernel_rfl
theorem zbot : okFun Go.Proofs.Try.prog 57 zru = true := by kernel_rfl
theorem zbou : okFun Go.Proofs.Try.prog 58 zsc = true := by kernel_rfl
theorem zbov : okFun Go.Proofs.Try.prog 62 zse = true := by kernel_rfl
theorem zbow : okFun Go.Proofs.Try.prog 63 zsg = true := by kernel_rfl
theorem zbox : okFun Go.Proofs.Try.prog 67 zs0 = true := by kernel_rfl
theorem zboy : okFun Go.Proofs.Try.prog 68 zs2 = true := by kernel_rfl
theorem zboz : okFun Go.Proofs.Try.prog 69 zs4 = true := by kernel_rfl
theorem zbo0 : okFun Go.Proofs.Try.prog 70 zte = true := by kernel_rfl
theorem zbo1 : okFun Go.Proofs.Try.prog 71 ztg = true := by kernel_rfl
theorem zbo2 : okFun Go.Proofs.Try.prog 72 zt6 = true := by kernel_rfl
theorem zbo3 : okFun Go.Proofs.Try.prog 79 zuk = true := by kernel_rfl
theorem zbo4 : okFun Go.Proofs.Try.prog 80 zuw = true := by kernel_rfl
theorem zbo5 : okFun Go.Proofs.Try.prog 81 zuy = true := by kernel_rfl
theorem zbo6 : okFun Go.Proofs.Try.prog 82 zu0 = true := by kernel_rfl
theorem zbo7 : okFun Go.Proofs.Try.prog 83 zu2 = true := by kernel_rfl
theorem zbo8 : okFun Go.Proofs.Try.prog 84 zu4 = true := by kernel_rfl
theorem zbo9 : okFun Go.Proofs.Try.prog 89 zu6 = true := by kernel_rfl
theorem zbpa : okFun Go.Proofs.Try.prog 90 zvy = true := by kernel_rfl
theorem zbpb : okFun Go.Proofs.Try.prog 91 zwp = true := by kernel_rfl
theorem zbpc : okFun Go.Proofs.Try.prog 92 zwz = true := by kernel_rfl
theorem zbpd : okFun Go.Proofs.Try.prog 93 zx3 = true := by kernel_rfl
theorem zbpe : okFun Go.Proofs.Try.prog 95 zx5 = true := by kernel_rfl
theorem zbpf : okFun Go.Proofs.Try.prog 96 zx7 = true := by kernel_rfl
theorem zbpg : okFun Go.Proofs.Try.prog 97 zx9 = true := by kernel_rfl
theorem zbph : okFun Go.Proofs.Try.prog 98 zyl = true := by kernel_rfl
theorem zbpi : okFun Go.Proofs.Try.prog 99 zyn = true := by kernel_rfl
theorem zbpj : okFun Go.Proofs.Try.prog 100 zys = true := by kernel_rfl
theorem zbpk : okFun Go.Proofs.Try.prog 101 zzd = true := by kernel_rfl
theorem zbpl : okFun Go.Proofs.Try.prog 102 z0b = true := by kernel_rfl
theorem zbpm : okFun Go.Proofs.Try.prog 103 z1b = true := by kernel_rfl
theorem zbpn : okFun Go.Proofs.Try.prog 104 z16 = true := by kernel_rfl
theorem zbpo : okFun Go.Proofs.Try.prog 106 z2b = true := by kernel_rfl
theorem zbpp : okFun Go.Proofs.Try.prog 107 z2m = true := by kernel_rfl
theorem zbpq : okFun Go.Proofs.Try.prog 108 z29 = true := by kernel_rfl
theorem zbpr : okFun Go.Proofs.Try.prog 109 z3e = true := by kernel_rfl
theorem zbps : okFun Go.Proofs.Try.prog 110 z3n = true := by kernel_rfl
theorem zbpt : okFun Go.Proofs.Try.prog 116 z30 = true := by kernel_rfl
theorem zbpu : okFun Go.Proofs.Try.prog 117 z35 = true := by kernel_rfl
theorem zbpv : okFun Go.Proofs.Try.prog 134 z4s = true := by kernel_rfl
theorem zbpw : okFun Go.Proofs.Try.prog 135 z5b = true := by kernel_rfl
theorem zbpx : okFun Go.Proofs.Try.prog 136 z5w = true := by kernel_rfl
theorem zbpy : okFun Go.Proofs.Try.prog 140 z6f = true := by kernel_rfl
theorem zbpz : okFun Go.Proofs.Try.prog 141 z6y = true := by kernel_rfl
theorem zbp0 : okFun Go.Proofs.Try.prog 142 z7c = true := by kernel_rfl
theorem zbp1 : okFun Go.Proofs.Try.prog 143 z8c = true := by kernel_rfl
theorem zbp2 : okFun Go.Proofs.Try.prog 144 z8x = true := by kernel_rfl
theorem zbp3 : okFun Go.Proofs.Try.prog 145 z9g = true := by kernel_rfl
theorem zbp4 : okFun Go.Proofs.Try.prog 146 z9x = true := by kernel_rfl
theorem zbp5 : okFun Go.Proofs.Try.prog 147 z98 = true := by kernel_rfl
theorem zbp6 : okFun Go.Proofs.Try.prog 148 zbal = true := by kernel_rfl
theorem zbp7 : okFun Go.Proofs.Try.prog 150 zbbd = true := by kernel_rfl
theorem zbp8 : okFun Go.Proofs.Try.prog 151 zbbi = true := by kernel_rfl
theorem zbp9 : okFun Go.Proofs.Try.prog 152 zbbn = true := by kernel_rfl
theorem zbqa : okFun Go.Proofs.Try.prog 153 zbcl = true := by kernel_rfl
theorem zbqb : okFun Go.Proofs.Try.prog 156 zbcw = true := by kernel_rfl
theorem zbqc : okFun Go.Proofs.Try.prog 166 zbc5 = true := by kernel_rfl
theorem zbqd : okFun Go.Proofs.Try.prog 167 zbd2 = true := by kernel_rfl
theorem zbqe : okFun Go.Proofs.Try.prog 168 zbeb = true := by kernel_rfl
theorem zbqf : okFun Go.Proofs.Try.prog 170 zbeu = true := by kernel_rfl
theorem zbqg : okFun Go.Proofs.Try.prog 171 zbez = true := by kernel_rfl
theorem zbqh : okFun Go.Proofs.Try.prog 174 zbfa = true := by kernel_rfl
theorem zbqi : okFun Go.Proofs.Try.prog 175 zbff = true := by kernel_rfl
theorem zbqj : okFun Go.Proofs.Try.prog 176 zbfk = true := by kernel_rfl
theorem okAll : okTab Go.Proofs.Try.prog tab = true := by
 simp only [tab, okTab, zbod, zboe, zbof, zbog, zboh, zboi, zboj, zbok, zbol, zbom, zbon, zboo, zbop, zboq, zbor, zbos, zbot, zbou, zbov, zbow, zbox, zboy, zboz, zbo0, zbo1, zbo2, zbo3, zbo4, zbo5, zbo6, zbo7, zbo8, zbo9, zbpa, zbpb, zbpc, zbpd, zbpe, zbpf, zbpg, zbph, zbpi, zbpj, zbpk, zbpl, zbpm, zbpn, zbpo, zbpp, zbpq, zbpr, zbps, zbpt, zbpu, zbpv, zbpw, zbpx, zbpy, zbpz, zbp0, zbp1, zbp2, zbp3, zbp4, zbp5, zbp6, zbp7, zbp8, zbp9, zbqa, zbqb, zbqc, zbqd, zbqe, zbqf, zbqg, zbqh, zbqi, zbqj, Bool.and_self, Bool.and_true]
theorem mixed : Go.Proofs.Try.prog.follows .mixedOrders = true := by kernel_rfl
end Go.Dvm.C
