/- The code is the program's. -/
import Derived.Test.YtngajodhbioheaaProg
import Derived.Test.YtngajodhbioheaaQl0
import Derived.KernelRfl
import Derived.Test.YtngajodhbioheaaQg
set_option linter.all false
set_option maxRecDepth 100000
set_option maxHeartbeats 4000000
namespace Go.Dvm.C
open Go Go.Dvm
theorem zba0 : okFun Go.Proofs.Try.prog 11 zmx = true := by kernel_rfl
theorem zba1 : okFun Go.Proofs.Try.prog 22 zmz = true := by kernel_rfl
theorem zba2 : okFun Go.Proofs.Try.prog 23 zng = true := by kernel_rfl
theorem zba3 : okFun Go.Proofs.Try.prog 25 zni = true := by kernel_rfl
theorem zba4 : okFun Go.Proofs.Try.prog 28 znk = true := by kernel_rfl
theorem zba5 : okFun Go.Proofs.Try.prog 31 zno = true := by kernel_rfl
theorem zba6 : okFun Go.Proofs.Try.prog 37 zn4 = true := by kernel_rfl
theorem zba7 : okFun Go.Proofs.Try.prog 40 zoe = true := by kernel_rfl
theorem zba8 : okFun Go.Proofs.Try.prog 42 zog = true := by kernel_rfl
theorem zba9 : okFun Go.Proofs.Try.prog 50 zoi = true := by kernel_rfl
theorem zbba : okFun Go.Proofs.Try.prog 52 zo3 = true := by kernel_rfl
theorem zbbb : okFun Go.Proofs.Try.prog 53 zpd = true := by kernel_rfl
theorem zbbc : okFun Go.Proofs.Try.prog 54 zpf = true := by kernel_rfl
theorem zbbd : okFun Go.Proofs.Try.prog 55 zp7 = true := by kernel_rfl
theorem zbbe : okFun Go.Proofs.Try.prog 57 zql = true := by kernel_rfl
theorem zbbf : okFun Go.Proofs.Try.prog 62 zqn = true := by kernel_rfl
theorem zbbg : okFun Go.Proofs.Try.prog 63 zqp = true := by kernel_rfl
theorem zbbh : okFun Go.Proofs.Try.prog 67 zq9 = true := by kernel_rfl
theorem zbbi : okFun Go.Proofs.Try.prog 68 zrb = true := by kernel_rfl
theorem zbbj : okFun Go.Proofs.Try.prog 69 zrd = true := by kernel_rfl
theorem zbbk : okFun Go.Proofs.Try.prog 70 zrn = true := by kernel_rfl
theorem zbbl : okFun Go.Proofs.Try.prog 71 zrp = true := by kernel_rfl
theorem zbbm : okFun Go.Proofs.Try.prog 72 zrq = true := by kernel_rfl
theorem zbbn : okFun Go.Proofs.Try.prog 79 zr4 = true := by kernel_rfl
theorem zbbo : okFun Go.Proofs.Try.prog 80 zsg = true := by kernel_rfl
theorem zbbp : okFun Go.Proofs.Try.prog 81 zsi = true := by kernel_rfl
theorem zbbq : okFun Go.Proofs.Try.prog 82 zsk = true := by kernel_rfl
theorem zbbr : okFun Go.Proofs.Try.prog 83 zsm = true := by kernel_rfl
theorem zbbs : okFun Go.Proofs.Try.prog 84 zso = true := by kernel_rfl
theorem zbbt : okFun Go.Proofs.Try.prog 91 ztf = true := by kernel_rfl
theorem zbbu : okFun Go.Proofs.Try.prog 95 zth = true := by kernel_rfl
theorem zbbv : okFun Go.Proofs.Try.prog 96 ztj = true := by kernel_rfl
theorem zbbw : okFun Go.Proofs.Try.prog 97 ztl = true := by kernel_rfl
theorem zbbx : okFun Go.Proofs.Try.prog 98 ztx = true := by kernel_rfl
theorem zbby : okFun Go.Proofs.Try.prog 99 ztz = true := by kernel_rfl
theorem zbbz : okFun Go.Proofs.Try.prog 100 zt4 = true := by kernel_rfl
theorem zbb0 : okFun Go.Proofs.Try.prog 101 zup = true := by kernel_rfl
theorem zbb1 : okFun Go.Proofs.Try.prog 102 zvn = true := by kernel_rfl
theorem zbb2 : okFun Go.Proofs.Try.prog 103 zwn = true := by kernel_rfl
theorem zbb3 : okFun Go.Proofs.Try.prog 104 zxi = true := by kernel_rfl
theorem zbb4 : okFun Go.Proofs.Try.prog 109 zxn = true := by kernel_rfl
theorem zbb5 : okFun Go.Proofs.Try.prog 116 zx0 = true := by kernel_rfl
theorem zbb6 : okFun Go.Proofs.Try.prog 117 zx5 = true := by kernel_rfl
theorem zbb7 : okFun Go.Proofs.Try.prog 134 zys = true := by kernel_rfl
theorem zbb8 : okFun Go.Proofs.Try.prog 135 zzb = true := by kernel_rfl
theorem zbb9 : okFun Go.Proofs.Try.prog 136 zzw = true := by kernel_rfl
theorem zbca : okFun Go.Proofs.Try.prog 142 z0a = true := by kernel_rfl
theorem zbcb : okFun Go.Proofs.Try.prog 145 z0t = true := by kernel_rfl
theorem zbcc : okFun Go.Proofs.Try.prog 146 z1a = true := by kernel_rfl
theorem zbcd : okFun Go.Proofs.Try.prog 147 z1l = true := by kernel_rfl
theorem zbce : okFun Go.Proofs.Try.prog 148 z1y = true := by kernel_rfl
theorem zbcf : okFun Go.Proofs.Try.prog 149 z2g = true := by kernel_rfl
theorem zbcg : okFun Go.Proofs.Try.prog 150 z28 = true := by kernel_rfl
theorem zbch : okFun Go.Proofs.Try.prog 166 z3h = true := by kernel_rfl
theorem zbci : okFun Go.Proofs.Try.prog 167 z4e = true := by kernel_rfl
theorem zbcj : okFun Go.Proofs.Try.prog 169 z4f = true := by kernel_rfl
theorem okAll : okTab Go.Proofs.Try.prog tab = true := by
 simp only [tab, okTab, zba0, zba1, zba2, zba3, zba4, zba5, zba6, zba7, zba8, zba9, zbba, zbbb, zbbc, zbbd, zbbe, zbbf, zbbg, zbbh, zbbi, zbbj, zbbk, zbbl, zbbm, zbbn, zbbo, zbbp, zbbq, zbbr, zbbs, zbbt, zbbu, zbbv, zbbw, zbbx, zbby, zbbz, zbb0, zbb1, zbb2, zbb3, zbb4, zbb5, zbb6, zbb7, zbb8, zbb9, zbca, zbcb, zbcc, zbcd, zbce, zbcf, zbcg, zbch, zbci, zbcj, Bool.and_self, Bool.and_true]
theorem mixed : Go.Proofs.Try.prog.follows .mixedOrders = true := by kernel_rfl
theorem prims : PrimOk Go.Proofs.Try.prog tab := by
 simp only [tab, PrimOk]
 exact ⟨np rfl, np rfl, np rfl, np rfl, np rfl, np rfl, np rfl, np rfl, np rfl, np rfl, np rfl, np rfl, np rfl, np rfl, np rfl, np rfl, np rfl, np rfl, np rfl, np rfl, np rfl, np rfl, fun p e ds rs h => zbav ds rs (by cases e; exact h), np rfl, np rfl, np rfl, np rfl, np rfl, np rfl, np rfl, np rfl, np rfl, np rfl, np rfl, np rfl, np rfl, np rfl, np rfl, np rfl, np rfl, np rfl, np rfl, np rfl, np rfl, np rfl, np rfl, np rfl, np rfl, np rfl, np rfl, np rfl, np rfl, np rfl, np rfl, np rfl, fun p e ds rs h => zbaz ds rs (by cases e; exact h), trivial⟩
end Go.Dvm.C
