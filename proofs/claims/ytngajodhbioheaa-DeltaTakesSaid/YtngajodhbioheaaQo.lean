/- The code is the program's. -/
import Derived.Test.YtngajodhbioheaaProg
import Derived.Test.YtngajodhbioheaaQl0
import Derived.KernelRfl
import Derived.Test.YtngajodhbioheaaQg
set_option linter.all false
set_option maxRecDepth 100000
set_option maxHeartbeats 4000000
namespace Go.Dvm.C
open Go Go.Dvm
theorem z6p : okFun Go.Proofs.Try.prog 5 zl4 = true := by kernel_rfl
theorem z6q : okFun Go.Proofs.Try.prog 17 zl8 = true := by kernel_rfl
theorem z6r : okFun Go.Proofs.Try.prog 18 zma = true := by kernel_rfl
theorem z6s : okFun Go.Proofs.Try.prog 19 zm7 = true := by kernel_rfl
theorem z6t : okFun Go.Proofs.Try.prog 22 zm9 = true := by kernel_rfl
theorem z6u : okFun Go.Proofs.Try.prog 23 znq = true := by kernel_rfl
theorem z6v : okFun Go.Proofs.Try.prog 24 zof = true := by kernel_rfl
theorem z6w : okFun Go.Proofs.Try.prog 25 zoh = true := by kernel_rfl
theorem z6x : okFun Go.Proofs.Try.prog 31 zol = true := by kernel_rfl
theorem z6y : okFun Go.Proofs.Try.prog 42 zon = true := by kernel_rfl
theorem z6z : okFun Go.Proofs.Try.prog 44 zop = true := by kernel_rfl
theorem z60 : okFun Go.Proofs.Try.prog 45 zor = true := by kernel_rfl
theorem z61 : okFun Go.Proofs.Try.prog 46 zot = true := by kernel_rfl
theorem z62 : okFun Go.Proofs.Try.prog 47 zov = true := by kernel_rfl
theorem z63 : okFun Go.Proofs.Try.prog 48 zoz = true := by kernel_rfl
theorem z64 : okFun Go.Proofs.Try.prog 49 zo3 = true := by kernel_rfl
theorem z65 : okFun Go.Proofs.Try.prog 50 zo5 = true := by kernel_rfl
theorem z66 : okFun Go.Proofs.Try.prog 52 zpq = true := by kernel_rfl
theorem z67 : okFun Go.Proofs.Try.prog 53 zp0 = true := by kernel_rfl
theorem z68 : okFun Go.Proofs.Try.prog 54 zp2 = true := by kernel_rfl
theorem z69 : okFun Go.Proofs.Try.prog 55 zqu = true := by kernel_rfl
theorem z7a : okFun Go.Proofs.Try.prog 56 zrl = true := by kernel_rfl
theorem z7b : okFun Go.Proofs.Try.prog 57 zrz = true := by kernel_rfl
theorem z7c : okFun Go.Proofs.Try.prog 67 zsj = true := by kernel_rfl
theorem z7d : okFun Go.Proofs.Try.prog 68 zsl = true := by kernel_rfl
theorem z7e : okFun Go.Proofs.Try.prog 69 zsn = true := by kernel_rfl
theorem z7f : okFun Go.Proofs.Try.prog 70 zsx = true := by kernel_rfl
theorem z7g : okFun Go.Proofs.Try.prog 71 zsz = true := by kernel_rfl
theorem z7h : okFun Go.Proofs.Try.prog 72 zs0 = true := by kernel_rfl
theorem z7i : okFun Go.Proofs.Try.prog 79 zte = true := by kernel_rfl
theorem z7j : okFun Go.Proofs.Try.prog 94 ztg = true := by kernel_rfl
theorem z7k : okFun Go.Proofs.Try.prog 95 zti = true := by kernel_rfl
theorem z7l : okFun Go.Proofs.Try.prog 96 ztk = true := by kernel_rfl
theorem z7m : okFun Go.Proofs.Try.prog 97 ztm = true := by kernel_rfl
theorem z7n : okFun Go.Proofs.Try.prog 98 zty = true := by kernel_rfl
theorem z7o : okFun Go.Proofs.Try.prog 99 zt0 = true := by kernel_rfl
theorem z7p : okFun Go.Proofs.Try.prog 100 zt5 = true := by kernel_rfl
theorem z7q : okFun Go.Proofs.Try.prog 101 zuq = true := by kernel_rfl
theorem z7r : okFun Go.Proofs.Try.prog 102 zvo = true := by kernel_rfl
theorem z7s : okFun Go.Proofs.Try.prog 103 zwo = true := by kernel_rfl
theorem z7t : okFun Go.Proofs.Try.prog 104 zxj = true := by kernel_rfl
theorem z7u : okFun Go.Proofs.Try.prog 105 zxx = true := by kernel_rfl
theorem z7v : okFun Go.Proofs.Try.prog 145 zyg = true := by kernel_rfl
theorem z7w : okFun Go.Proofs.Try.prog 146 zyx = true := by kernel_rfl
theorem z7x : okFun Go.Proofs.Try.prog 147 zy8 = true := by kernel_rfl
theorem z7y : okFun Go.Proofs.Try.prog 148 zzl = true := by kernel_rfl
theorem z7z : okFun Go.Proofs.Try.prog 149 zz3 = true := by kernel_rfl
theorem z70 : okFun Go.Proofs.Try.prog 150 z0v = true := by kernel_rfl
theorem z71 : okFun Go.Proofs.Try.prog 169 z0w = true := by kernel_rfl
theorem okAll : okTab Go.Proofs.Try.prog tab = true := by
 simp only [tab, okTab, z6p, z6q, z6r, z6s, z6t, z6u, z6v, z6w, z6x, z6y, z6z, z60, z61, z62, z63, z64, z65, z66, z67, z68, z69, z7a, z7b, z7c, z7d, z7e, z7f, z7g, z7h, z7i, z7j, z7k, z7l, z7m, z7n, z7o, z7p, z7q, z7r, z7s, z7t, z7u, z7v, z7w, z7x, z7y, z7z, z70, z71, Bool.and_self, Bool.and_true]
theorem mixed : Go.Proofs.Try.prog.follows .mixedOrders = true := by kernel_rfl
theorem prims : PrimOk Go.Proofs.Try.prog tab := by
 simp only [tab, PrimOk]
 exact ⟨np rfl, np rfl, np rfl, np rfl, np rfl, np rfl, np rfl, np rfl, np rfl, np rfl, np rfl, np rfl, np rfl, np rfl, np rfl, np rfl, np rfl, np rfl, np rfl, np rfl, np rfl, np rfl, np rfl, np rfl, np rfl, np rfl, np rfl, np rfl, fun p e ds rs h => z6k ds rs (by cases e; exact h), np rfl, np rfl, np rfl, np rfl, np rfl, np rfl, np rfl, np rfl, np rfl, np rfl, np rfl, np rfl, np rfl, np rfl, np rfl, np rfl, np rfl, np rfl, np rfl, fun p e ds rs h => z6o ds rs (by cases e; exact h), trivial⟩
end Go.Dvm.C
