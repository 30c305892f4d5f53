/- The code is the program's. -/
import Derived.Test.YtngajodhbioheaaProg
import Derived.Test.YtngajodhbioheaaQl0
import Derived.KernelRfl
import Derived.Test.YtngajodhbioheaaQg
set_option linter.all false
set_option maxRecDepth 100000
set_option maxHeartbeats 4000000
namespace Go.Dvm.C
open Go Go.Dvm
theorem zbbl : okFun Go.Proofs.Try.prog 13 zm4 = true := by kernel_rfl
theorem zbbm : okFun Go.Proofs.Try.prog 18 zm6 = true := by kernel_rfl
theorem zbbn : okFun Go.Proofs.Try.prog 22 zm8 = true := by kernel_rfl
theorem zbbo : okFun Go.Proofs.Try.prog 23 znp = true := by kernel_rfl
theorem zbbp : okFun Go.Proofs.Try.prog 25 znr = true := by kernel_rfl
theorem zbbq : okFun Go.Proofs.Try.prog 28 znt = true := by kernel_rfl
theorem zbbr : okFun Go.Proofs.Try.prog 31 znx = true := by kernel_rfl
theorem zbbs : okFun Go.Proofs.Try.prog 37 zod = true := by kernel_rfl
theorem zbbt : okFun Go.Proofs.Try.prog 41 zop = true := by kernel_rfl
theorem zbbu : okFun Go.Proofs.Try.prog 42 zor = true := by kernel_rfl
theorem zbbv : okFun Go.Proofs.Try.prog 44 zot = true := by kernel_rfl
theorem zbbw : okFun Go.Proofs.Try.prog 50 zov = true := by kernel_rfl
theorem zbbx : okFun Go.Proofs.Try.prog 52 zpg = true := by kernel_rfl
theorem zbby : okFun Go.Proofs.Try.prog 53 zpq = true := by kernel_rfl
theorem zbbz : okFun Go.Proofs.Try.prog 54 zps = true := by kernel_rfl
theorem zbb0 : okFun Go.Proofs.Try.prog 55 zqk = true := by kernel_rfl
theorem zbb1 : okFun Go.Proofs.Try.prog 57 zqy = true := by kernel_rfl
theorem zbb2 : okFun Go.Proofs.Try.prog 62 zq0 = true := by kernel_rfl
theorem zbb3 : okFun Go.Proofs.Try.prog 63 zq2 = true := by kernel_rfl
theorem zbb4 : okFun Go.Proofs.Try.prog 67 zrm = true := by kernel_rfl
theorem zbb5 : okFun Go.Proofs.Try.prog 68 zro = true := by kernel_rfl
theorem zbb6 : okFun Go.Proofs.Try.prog 69 zrq = true := by kernel_rfl
theorem zbb7 : okFun Go.Proofs.Try.prog 70 zr0 = true := by kernel_rfl
theorem zbb8 : okFun Go.Proofs.Try.prog 71 zr2 = true := by kernel_rfl
theorem zbb9 : okFun Go.Proofs.Try.prog 72 zr3 = true := by kernel_rfl
theorem zbca : okFun Go.Proofs.Try.prog 79 zsh = true := by kernel_rfl
theorem zbcb : okFun Go.Proofs.Try.prog 80 zst = true := by kernel_rfl
theorem zbcc : okFun Go.Proofs.Try.prog 81 zsv = true := by kernel_rfl
theorem zbcd : okFun Go.Proofs.Try.prog 82 zsx = true := by kernel_rfl
theorem zbce : okFun Go.Proofs.Try.prog 83 zsz = true := by kernel_rfl
theorem zbcf : okFun Go.Proofs.Try.prog 84 zs1 = true := by kernel_rfl
theorem zbcg : okFun Go.Proofs.Try.prog 91 zts = true := by kernel_rfl
theorem zbch : okFun Go.Proofs.Try.prog 95 ztu = true := by kernel_rfl
theorem zbci : okFun Go.Proofs.Try.prog 96 ztw = true := by kernel_rfl
theorem zbcj : okFun Go.Proofs.Try.prog 97 zty = true := by kernel_rfl
theorem zbck : okFun Go.Proofs.Try.prog 98 zua = true := by kernel_rfl
theorem zbcl : okFun Go.Proofs.Try.prog 99 zuc = true := by kernel_rfl
theorem zbcm : okFun Go.Proofs.Try.prog 100 zuh = true := by kernel_rfl
theorem zbcn : okFun Go.Proofs.Try.prog 101 zu2 = true := by kernel_rfl
theorem zbco : okFun Go.Proofs.Try.prog 102 zv0 = true := by kernel_rfl
theorem zbcp : okFun Go.Proofs.Try.prog 103 zw0 = true := by kernel_rfl
theorem zbcq : okFun Go.Proofs.Try.prog 104 zxv = true := by kernel_rfl
theorem zbcr : okFun Go.Proofs.Try.prog 109 zx0 = true := by kernel_rfl
theorem zbcs : okFun Go.Proofs.Try.prog 116 zyd = true := by kernel_rfl
theorem zbct : okFun Go.Proofs.Try.prog 117 zyi = true := by kernel_rfl
theorem zbcu : okFun Go.Proofs.Try.prog 134 zy5 = true := by kernel_rfl
theorem zbcv : okFun Go.Proofs.Try.prog 135 zzo = true := by kernel_rfl
theorem zbcw : okFun Go.Proofs.Try.prog 136 zz9 = true := by kernel_rfl
theorem zbcx : okFun Go.Proofs.Try.prog 142 z0n = true := by kernel_rfl
theorem zbcy : okFun Go.Proofs.Try.prog 145 z06 = true := by kernel_rfl
theorem zbcz : okFun Go.Proofs.Try.prog 146 z1n = true := by kernel_rfl
theorem zbc0 : okFun Go.Proofs.Try.prog 147 z1y = true := by kernel_rfl
theorem zbc1 : okFun Go.Proofs.Try.prog 148 z2b = true := by kernel_rfl
theorem zbc2 : okFun Go.Proofs.Try.prog 149 z2t = true := by kernel_rfl
theorem zbc3 : okFun Go.Proofs.Try.prog 150 z3l = true := by kernel_rfl
theorem zbc4 : okFun Go.Proofs.Try.prog 166 z3u = true := by kernel_rfl
theorem zbc5 : okFun Go.Proofs.Try.prog 167 z4r = true := by kernel_rfl
theorem zbc6 : okFun Go.Proofs.Try.prog 169 z4s = true := by kernel_rfl
theorem okAll : okTab Go.Proofs.Try.prog tab = true := by
 simp only [tab, okTab, zbbl, zbbm, zbbn, zbbo, zbbp, zbbq, zbbr, zbbs, zbbt, zbbu, zbbv, zbbw, zbbx, zbby, zbbz, zbb0, zbb1, zbb2, zbb3, zbb4, zbb5, zbb6, zbb7, zbb8, zbb9, zbca, zbcb, zbcc, zbcd, zbce, zbcf, zbcg, zbch, zbci, zbcj, zbck, zbcl, zbcm, zbcn, zbco, zbcp, zbcq, zbcr, zbcs, zbct, zbcu, zbcv, zbcw, zbcx, zbcy, zbcz, zbc0, zbc1, zbc2, zbc3, zbc4, zbc5, zbc6, Bool.and_self, Bool.and_true]
theorem mixed : Go.Proofs.Try.prog.follows .mixedOrders = true := by kernel_rfl
theorem prims : PrimOk Go.Proofs.Try.prog tab := by
 simp only [tab, PrimOk]
 exact ⟨np rfl, np rfl, np rfl, np rfl, np rfl, np rfl, np rfl, np rfl, np rfl, np rfl, np rfl, np rfl, np rfl, np rfl, np rfl, np rfl, np rfl, np rfl, np rfl, np rfl, np rfl, np rfl, np rfl, np rfl, fun p e ds rs h => zbbg ds rs (by cases e; exact h), np rfl, np rfl, np rfl, np rfl, np rfl, np rfl, np rfl, np rfl, np rfl, np rfl, np rfl, np rfl, np rfl, np rfl, np rfl, np rfl, np rfl, np rfl, np rfl, np rfl, np rfl, np rfl, np rfl, np rfl, np rfl, np rfl, np rfl, np rfl, np rfl, np rfl, np rfl, np rfl, fun p e ds rs h => zbbk ds rs (by cases e; exact h), trivial⟩
end Go.Dvm.C
