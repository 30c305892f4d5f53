/- The code is the program's. -/
import Derived.Test.YtngajodhbioheaaProg
import Derived.Test.YtngajodhbioheaaQl0
import Derived.KernelRfl
import Derived.Test.YtngajodhbioheaaQg
set_option linter.all false
set_option maxRecDepth 100000
set_option maxHeartbeats 4000000
namespace Go.Dvm.C
open Go Go.Dvm
theorem zbbr : okFun Go.Proofs.Try.prog 12 znq = true := by kernel_rfl
theorem zbbs : okFun Go.Proofs.Try.prog 18 zns = true := by kernel_rfl
theorem zbbt : okFun Go.Proofs.Try.prog 22 znu = true := by kernel_rfl
theorem zbbu : okFun Go.Proofs.Try.prog 23 zob = true := by kernel_rfl
theorem zbbv : okFun Go.Proofs.Try.prog 25 zod = true := by kernel_rfl
theorem zbbw : okFun Go.Proofs.Try.prog 28 zof = true := by kernel_rfl
theorem zbbx : okFun Go.Proofs.Try.prog 31 zoj = true := by kernel_rfl
theorem zbby : okFun Go.Proofs.Try.prog 37 zoz = true := by kernel_rfl
theorem zbbz : okFun Go.Proofs.Try.prog 42 zo1 = true := by kernel_rfl
theorem zbb0 : okFun Go.Proofs.Try.prog 44 zo3 = true := by kernel_rfl
theorem zbb1 : okFun Go.Proofs.Try.prog 50 zo5 = true := by kernel_rfl
theorem zbb2 : okFun Go.Proofs.Try.prog 52 zpq = true := by kernel_rfl
theorem zbb3 : okFun Go.Proofs.Try.prog 53 zp0 = true := by kernel_rfl
theorem zbb4 : okFun Go.Proofs.Try.prog 54 zp2 = true := by kernel_rfl
theorem zbb5 : okFun Go.Proofs.Try.prog 55 zqu = true := by kernel_rfl
theorem zbb6 : okFun Go.Proofs.Try.prog 57 zq8 = true := by kernel_rfl
theorem zbb7 : okFun Go.Proofs.Try.prog 62 zra = true := by kernel_rfl
theorem zbb8 : okFun Go.Proofs.Try.prog 63 zrc = true := by kernel_rfl
theorem zbb9 : okFun Go.Proofs.Try.prog 67 zrw = true := by kernel_rfl
theorem zbca : okFun Go.Proofs.Try.prog 68 zry = true := by kernel_rfl
theorem zbcb : okFun Go.Proofs.Try.prog 69 zr0 = true := by kernel_rfl
theorem zbcc : okFun Go.Proofs.Try.prog 70 zsa = true := by kernel_rfl
theorem zbcd : okFun Go.Proofs.Try.prog 71 zsc = true := by kernel_rfl
theorem zbce : okFun Go.Proofs.Try.prog 72 zsd = true := by kernel_rfl
theorem zbcf : okFun Go.Proofs.Try.prog 79 zsr = true := by kernel_rfl
theorem zbcg : okFun Go.Proofs.Try.prog 80 zs3 = true := by kernel_rfl
theorem zbch : okFun Go.Proofs.Try.prog 81 zs5 = true := by kernel_rfl
theorem zbci : okFun Go.Proofs.Try.prog 82 zs7 = true := by kernel_rfl
theorem zbcj : okFun Go.Proofs.Try.prog 83 zs9 = true := by kernel_rfl
theorem zbck : okFun Go.Proofs.Try.prog 84 ztb = true := by kernel_rfl
theorem zbcl : okFun Go.Proofs.Try.prog 91 zt2 = true := by kernel_rfl
theorem zbcm : okFun Go.Proofs.Try.prog 95 zt4 = true := by kernel_rfl
theorem zbcn : okFun Go.Proofs.Try.prog 96 zt6 = true := by kernel_rfl
theorem zbco : okFun Go.Proofs.Try.prog 97 zt8 = true := by kernel_rfl
theorem zbcp : okFun Go.Proofs.Try.prog 98 zuk = true := by kernel_rfl
theorem zbcq : okFun Go.Proofs.Try.prog 99 zum = true := by kernel_rfl
theorem zbcr : okFun Go.Proofs.Try.prog 100 zur = true := by kernel_rfl
theorem zbcs : okFun Go.Proofs.Try.prog 101 zvc = true := by kernel_rfl
theorem zbct : okFun Go.Proofs.Try.prog 102 zwa = true := by kernel_rfl
theorem zbcu : okFun Go.Proofs.Try.prog 103 zxa = true := by kernel_rfl
theorem zbcv : okFun Go.Proofs.Try.prog 104 zx5 = true := by kernel_rfl
theorem zbcw : okFun Go.Proofs.Try.prog 109 zya = true := by kernel_rfl
theorem zbcx : okFun Go.Proofs.Try.prog 116 zyn = true := by kernel_rfl
theorem zbcy : okFun Go.Proofs.Try.prog 117 zys = true := by kernel_rfl
theorem zbcz : okFun Go.Proofs.Try.prog 134 zzf = true := by kernel_rfl
theorem zbc0 : okFun Go.Proofs.Try.prog 135 zzy = true := by kernel_rfl
theorem zbc1 : okFun Go.Proofs.Try.prog 136 z0j = true := by kernel_rfl
theorem zbc2 : okFun Go.Proofs.Try.prog 142 z0x = true := by kernel_rfl
theorem zbc3 : okFun Go.Proofs.Try.prog 145 z1g = true := by kernel_rfl
theorem zbc4 : okFun Go.Proofs.Try.prog 146 z1x = true := by kernel_rfl
theorem zbc5 : okFun Go.Proofs.Try.prog 147 z18 = true := by kernel_rfl
theorem zbc6 : okFun Go.Proofs.Try.prog 148 z2l = true := by kernel_rfl
theorem zbc7 : okFun Go.Proofs.Try.prog 149 z23 = true := by kernel_rfl
theorem zbc8 : okFun Go.Proofs.Try.prog 150 z3v = true := by kernel_rfl
theorem zbc9 : okFun Go.Proofs.Try.prog 166 z34 = true := by kernel_rfl
theorem zbda : okFun Go.Proofs.Try.prog 167 z41 = true := by kernel_rfl
theorem zbdb : okFun Go.Proofs.Try.prog 169 z42 = true := by kernel_rfl
theorem okAll : okTab Go.Proofs.Try.prog tab = true := by
 simp only [tab, okTab, zbbr, zbbs, zbbt, zbbu, zbbv, zbbw, zbbx, zbby, zbbz, zbb0, zbb1, zbb2, zbb3, zbb4, zbb5, zbb6, zbb7, zbb8, zbb9, zbca, zbcb, zbcc, zbcd, zbce, zbcf, zbcg, zbch, zbci, zbcj, zbck, zbcl, zbcm, zbcn, zbco, zbcp, zbcq, zbcr, zbcs, zbct, zbcu, zbcv, zbcw, zbcx, zbcy, zbcz, zbc0, zbc1, zbc2, zbc3, zbc4, zbc5, zbc6, zbc7, zbc8, zbc9, zbda, zbdb, Bool.and_self, Bool.and_true]
theorem mixed : Go.Proofs.Try.prog.follows .mixedOrders = true := by kernel_rfl
theorem prims : PrimOk Go.Proofs.Try.prog tab := by
 simp only [tab, PrimOk]
 exact ⟨np rfl, np rfl, np rfl, np rfl, np rfl, np rfl, np rfl, np rfl, np rfl, np rfl, np rfl, np rfl, np rfl, np rfl, np rfl, np rfl, np rfl, np rfl, np rfl, np rfl, np rfl, np rfl, np rfl, fun p e ds rs h => zbbm ds rs (by cases e; exact h), np rfl, np rfl, np rfl, np rfl, np rfl, np rfl, np rfl, np rfl, np rfl, np rfl, np rfl, np rfl, np rfl, np rfl, np rfl, np rfl, np rfl, np rfl, np rfl, np rfl, np rfl, np rfl, np rfl, np rfl, np rfl, np rfl, np rfl, np rfl, np rfl, np rfl, np rfl, np rfl, fun p e ds rs h => zbbq ds rs (by cases e; exact h), trivial⟩
end Go.Dvm.C
