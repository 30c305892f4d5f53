/- The code is the program's. -/
import Derived.Test.YtngajodhbioheaaProg
import Derived.Test.YtngajodhbioheaaQl0
import Derived.KernelRfl
import Derived.Test.YtngajodhbioheaaQg
set_option linter.all false
set_option maxRecDepth 100000
set_option maxHeartbeats 4000000
namespace Go.Dvm.C
open Go Go.Dvm
theorem zbno : okFun Go.Proofs.Try.prog 7 zmt = true := by kernel_rfl
theorem zbnp : okFun Go.Proofs.Try.prog 18 zmv = true := by kernel_rfl
theorem zbnq : okFun Go.Proofs.Try.prog 22 zmx = true := by kernel_rfl
theorem zbnr : okFun Go.Proofs.Try.prog 23 zne = true := by kernel_rfl
theorem zbns : okFun Go.Proofs.Try.prog 28 zng = true := by kernel_rfl
theorem zbnt : okFun Go.Proofs.Try.prog 29 zn6 = true := by kernel_rfl
theorem zbnu : okFun Go.Proofs.Try.prog 30 zok = true := by kernel_rfl
theorem zbnv : okFun Go.Proofs.Try.prog 31 zoo = true := by kernel_rfl
theorem zbnw : okFun Go.Proofs.Try.prog 32 zpa = true := by kernel_rfl
theorem zbnx : okFun Go.Proofs.Try.prog 37 zpq = true := by kernel_rfl
theorem zbny : okFun Go.Proofs.Try.prog 44 zps = true := by kernel_rfl
theorem zbnz : okFun Go.Proofs.Try.prog 50 zpu = true := by kernel_rfl
theorem zbn0 : okFun Go.Proofs.Try.prog 52 zqf = true := by kernel_rfl
theorem zbn1 : okFun Go.Proofs.Try.prog 53 zqp = true := by kernel_rfl
theorem zbn2 : okFun Go.Proofs.Try.prog 54 zqr = true := by kernel_rfl
theorem zbn3 : okFun Go.Proofs.Try.prog 55 zrj = true := by kernel_rfl
theorem zbn4 : okFun Go.Proofs.Try.prog 62 zrl = true := by kernel_rfl
theorem zbn5 : okFun Go.Proofs.Try.prog 63 zrn = true := by kernel_rfl
theorem zbn6 : okFun Go.Proofs.Try.prog 64 zrp = true := by kernel_rfl
theorem zbn7 : okFun Go.Proofs.Try.prog 65 zss = true := by kernel_rfl
theorem zbn8 : okFun Go.Proofs.Try.prog 66 zs4 = true := by kernel_rfl
theorem zbn9 : okFun Go.Proofs.Try.prog 67 zto = true := by kernel_rfl
theorem zboa : okFun Go.Proofs.Try.prog 68 ztq = true := by kernel_rfl
theorem zbob : okFun Go.Proofs.Try.prog 69 zts = true := by kernel_rfl
theorem zboc : okFun Go.Proofs.Try.prog 70 zt2 = true := by kernel_rfl
theorem zbod : okFun Go.Proofs.Try.prog 71 zt4 = true := by kernel_rfl
theorem zboe : okFun Go.Proofs.Try.prog 72 zt5 = true := by kernel_rfl
theorem zbof : okFun Go.Proofs.Try.prog 80 zuh = true := by kernel_rfl
theorem zbog : okFun Go.Proofs.Try.prog 81 zuj = true := by kernel_rfl
theorem zboh : okFun Go.Proofs.Try.prog 82 zul = true := by kernel_rfl
theorem zboi : okFun Go.Proofs.Try.prog 83 zun = true := by kernel_rfl
theorem zboj : okFun Go.Proofs.Try.prog 84 zup = true := by kernel_rfl
theorem zbok : okFun Go.Proofs.Try.prog 88 zvd = true := by kernel_rfl
theorem zbol : okFun Go.Proofs.Try.prog 91 zv4 = true := by kernel_rfl
theorem zbom : okFun Go.Proofs.Try.prog 95 zv6 = true := by kernel_rfl
theorem zbon : okFun Go.Proofs.Try.prog 96 zv8 = true := by kernel_rfl
theorem zboo : okFun Go.Proofs.Try.prog 97 zwa = true := by kernel_rfl
theorem zbop : okFun Go.Proofs.Try.prog 98 zwm = true := by kernel_rfl
theorem zboq : okFun Go.Proofs.Try.prog 99 zwo = true := by kernel_rfl
theorem zbor : okFun Go.Proofs.Try.prog 100 zwt = true := by kernel_rfl
theorem zbos : okFun Go.Proofs.Try.prog 101 zxe = true := by kernel_rfl
theorem zbot : okFun Go.Proofs.Try.prog 102 zyc = true := by kernel_rfl
theorem zbou : okFun Go.Proofs.Try.prog 103 zzc = true := by kernel_rfl
theorem zbov : okFun Go.Proofs.Try.prog 104 zz7 = true := by kernel_rfl
theorem zbow : okFun Go.Proofs.Try.prog 109 z0c = true := by kernel_rfl
theorem zbox : okFun Go.Proofs.Try.prog 116 z0p = true := by kernel_rfl
theorem zboy : okFun Go.Proofs.Try.prog 117 z0u = true := by kernel_rfl
theorem zboz : okFun Go.Proofs.Try.prog 118 z0z = true := by kernel_rfl
theorem zbo0 : okFun Go.Proofs.Try.prog 119 z1m = true := by kernel_rfl
theorem zbo1 : okFun Go.Proofs.Try.prog 120 z2t = true := by kernel_rfl
theorem zbo2 : okFun Go.Proofs.Try.prog 121 z3q = true := by kernel_rfl
theorem zbo3 : okFun Go.Proofs.Try.prog 122 z41 = true := by kernel_rfl
theorem zbo4 : okFun Go.Proofs.Try.prog 134 z5o = true := by kernel_rfl
theorem zbo5 : okFun Go.Proofs.Try.prog 135 z57 = true := by kernel_rfl
theorem zbo6 : okFun Go.Proofs.Try.prog 136 z6s = true := by kernel_rfl
theorem zbo7 : okFun Go.Proofs.Try.prog 138 z7d = true := by kernel_rfl
theorem zbo8 : okFun Go.Proofs.Try.prog 139 z7q = true := by kernel_rfl
theorem zbo9 : okFun Go.Proofs.Try.prog 142 z74 = true := by kernel_rfl
theorem zbpa : okFun Go.Proofs.Try.prog 145 z8n = true := by kernel_rfl
theorem zbpb : okFun Go.Proofs.Try.prog 146 z84 = true := by kernel_rfl
theorem zbpc : okFun Go.Proofs.Try.prog 147 z9f = true := by kernel_rfl
theorem zbpd : okFun Go.Proofs.Try.prog 148 z9s = true := by kernel_rfl
theorem zbpe : okFun Go.Proofs.Try.prog 149 zbaa = true := by kernel_rfl
theorem zbpf : okFun Go.Proofs.Try.prog 150 zba2 = true := by kernel_rfl
theorem zbpg : okFun Go.Proofs.Try.prog 158 zbbj = true := by kernel_rfl
theorem zbph : okFun Go.Proofs.Try.prog 159 zbb4 = true := by kernel_rfl
theorem zbpi : okFun Go.Proofs.Try.prog 160 zbc5 = true := by kernel_rfl
theorem zbpj : okFun Go.Proofs.Try.prog 161 zbd8 = true := by kernel_rfl
theorem zbpk : okFun Go.Proofs.Try.prog 166 zbeh = true := by kernel_rfl
theorem zbpl : okFun Go.Proofs.Try.prog 167 zbfe = true := by kernel_rfl
theorem zbpm : okFun Go.Proofs.Try.prog 169 zbff = true := by kernel_rfl
theorem okAll : okTab Go.Proofs.Try.prog tab = true := by
 simp only [tab, okTab, zbno, zbnp, zbnq, zbnr, zbns, zbnt, zbnu, zbnv, zbnw, zbnx, zbny, zbnz, zbn0, zbn1, zbn2, zbn3, zbn4, zbn5, zbn6, zbn7, zbn8, zbn9, zboa, zbob, zboc, zbod, zboe, zbof, zbog, zboh, zboi, zboj, zbok, zbol, zbom, zbon, zboo, zbop, zboq, zbor, zbos, zbot, zbou, zbov, zbow, zbox, zboy, zboz, zbo0, zbo1, zbo2, zbo3, zbo4, zbo5, zbo6, zbo7, zbo8, zbo9, zbpa, zbpb, zbpc, zbpd, zbpe, zbpf, zbpg, zbph, zbpi, zbpj, zbpk, zbpl, zbpm, Bool.and_self, Bool.and_true]
theorem mixed : Go.Proofs.Try.prog.follows .mixedOrders = true := by kernel_rfl
theorem prims : PrimOk Go.Proofs.Try.prog tab := by
 simp only [tab, PrimOk]
 exact ⟨np rfl, np rfl, np rfl, np rfl, np rfl, np rfl, np rfl, np rfl, np rfl, np rfl, np rfl, np rfl, np rfl, np rfl, np rfl, np rfl, np rfl, np rfl, np rfl, np rfl, np rfl, np rfl, np rfl, np rfl, np rfl, np rfl, fun p e ds rs h => zbnj ds rs (by cases e; exact h), np rfl, np rfl, np rfl, np rfl, np rfl, np rfl, np rfl, np rfl, np rfl, np rfl, np rfl, np rfl, np rfl, np rfl, np rfl, np rfl, np rfl, np rfl, np rfl, np rfl, np rfl, np rfl, np rfl, np rfl, np rfl, np rfl, np rfl, np rfl, np rfl, np rfl, np rfl, np rfl, np rfl, np rfl, np rfl, np rfl, np rfl, np rfl, np rfl, np rfl, np rfl, np rfl, np rfl, fun p e ds rs h => zbnn ds rs (by cases e; exact h), trivial⟩
end Go.Dvm.C
