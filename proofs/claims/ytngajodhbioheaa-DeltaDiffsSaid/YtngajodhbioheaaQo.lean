/- The code is the program's. -/
import Derived.Test.YtngajodhbioheaaProg
import Derived.Test.YtngajodhbioheaaQl0
import Derived.KernelRfl
set_option linter.all false
set_option maxRecDepth 100000
set_option maxHeartbeats 4000000
namespace Go.Dvm.C
open Go Go.Dvm
theorem z3j : okFun Go.Proofs.Try.prog 3 zl1 = true := by kernel_rfl
theorem z3k : okFun Go.Proofs.Try.prog 17 zl5 = true := by kernel_rfl
theorem z3l : okFun Go.Proofs.Try.prog 18 zl7 = true := by kernel_rfl
theorem z3m : okFun Go.Proofs.Try.prog 19 zm4 = true := by kernel_rfl
theorem z3n : okFun Go.Proofs.Try.prog 20 zos = true := by kernel_rfl
theorem z3o : okFun Go.Proofs.Try.prog 21 zpg = true := by kernel_rfl
theorem z3p : okFun Go.Proofs.Try.prog 22 zpi = true := by kernel_rfl
theorem z3q : okFun Go.Proofs.Try.prog 24 zp7 = true := by kernel_rfl
theorem z3r : okFun Go.Proofs.Try.prog 25 zp9 = true := by kernel_rfl
theorem z3s : okFun Go.Proofs.Try.prog 31 zqd = true := by kernel_rfl
theorem z3t : okFun Go.Proofs.Try.prog 39 zqf = true := by kernel_rfl
theorem z3u : okFun Go.Proofs.Try.prog 40 zqp = true := by kernel_rfl
theorem z3v : okFun Go.Proofs.Try.prog 42 zqr = true := by kernel_rfl
theorem z3w : okFun Go.Proofs.Try.prog 44 zqt = true := by kernel_rfl
theorem z3x : okFun Go.Proofs.Try.prog 45 zqv = true := by kernel_rfl
theorem z3y : okFun Go.Proofs.Try.prog 46 zqx = true := by kernel_rfl
theorem z3z : okFun Go.Proofs.Try.prog 47 zqz = true := by kernel_rfl
theorem z30 : okFun Go.Proofs.Try.prog 48 zq3 = true := by kernel_rfl
theorem z31 : okFun Go.Proofs.Try.prog 49 zq7 = true := by kernel_rfl
theorem z32 : okFun Go.Proofs.Try.prog 50 zq9 = true := by kernel_rfl
theorem z33 : okFun Go.Proofs.Try.prog 51 zrh = true := by kernel_rfl
theorem z34 : okFun Go.Proofs.Try.prog 52 zr2 = true := by kernel_rfl
theorem z35 : okFun Go.Proofs.Try.prog 53 zsc = true := by kernel_rfl
theorem z36 : okFun Go.Proofs.Try.prog 56 zs3 = true := by kernel_rfl
theorem z37 : okFun Go.Proofs.Try.prog 57 zth = true := by kernel_rfl
theorem z38 : okFun Go.Proofs.Try.prog 67 zt1 = true := by kernel_rfl
theorem z39 : okFun Go.Proofs.Try.prog 68 zt3 = true := by kernel_rfl
theorem z4a : okFun Go.Proofs.Try.prog 69 zt5 = true := by kernel_rfl
theorem z4b : okFun Go.Proofs.Try.prog 70 zuf = true := by kernel_rfl
theorem z4c : okFun Go.Proofs.Try.prog 71 zuh = true := by kernel_rfl
theorem z4d : okFun Go.Proofs.Try.prog 72 zu7 = true := by kernel_rfl
theorem z4e : okFun Go.Proofs.Try.prog 79 zvl = true := by kernel_rfl
theorem z4f : okFun Go.Proofs.Try.prog 88 zv9 = true := by kernel_rfl
theorem z4g : okFun Go.Proofs.Try.prog 94 zwb = true := by kernel_rfl
theorem z4h : okFun Go.Proofs.Try.prog 95 zwd = true := by kernel_rfl
theorem z4i : okFun Go.Proofs.Try.prog 96 zwf = true := by kernel_rfl
theorem z4j : okFun Go.Proofs.Try.prog 97 zwh = true := by kernel_rfl
theorem z4k : okFun Go.Proofs.Try.prog 98 zwt = true := by kernel_rfl
theorem z4l : okFun Go.Proofs.Try.prog 99 zwv = true := by kernel_rfl
theorem z4m : okFun Go.Proofs.Try.prog 105 zw9 = true := by kernel_rfl
theorem z4n : okFun Go.Proofs.Try.prog 138 zxu = true := by kernel_rfl
theorem z4o : okFun Go.Proofs.Try.prog 139 zx7 = true := by kernel_rfl
theorem z4p : okFun Go.Proofs.Try.prog 145 zyq = true := by kernel_rfl
theorem okAll : okTab Go.Proofs.Try.prog tab = true := by
 simp only [tab, okTab, z3j, z3k, z3l, z3m, z3n, z3o, z3p, z3q, z3r, z3s, z3t, z3u, z3v, z3w, z3x, z3y, z3z, z30, z31, z32, z33, z34, z35, z36, z37, z38, z39, z4a, z4b, z4c, z4d, z4e, z4f, z4g, z4h, z4i, z4j, z4k, z4l, z4m, z4n, z4o, z4p, Bool.and_self, Bool.and_true]
theorem mixed : Go.Proofs.Try.prog.follows .mixedOrders = true := by kernel_rfl
end Go.Dvm.C
