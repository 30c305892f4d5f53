/- The code is the program's. -/
import Derived.Test.YtngajodhbioheaaGreatProg
import Derived.Test.YtngajodhbioheaaGreatQl0
import Derived.KernelRfl
set_option linter.all false
set_option maxRecDepth 100000
set_option maxHeartbeats 4000000
namespace Go.Dvm.C
open Go Go.Dvm
theorem zbpb : okFun Go.Proofs.Tryz.prog 3 znu = true := by kernel_rfl
theorem zbpc : okFun Go.Proofs.Tryz.prog 4 znw = true := by kernel_rfl
theorem zbpd : okFun Go.Proofs.Tryz.prog 5 zny = true := by kernel_rfl
theorem zbpe : okFun Go.Proofs.Tryz.prog 6 zn0 = true := by kernel_rfl
theorem zbpf : okFun Go.Proofs.Tryz.prog 7 zn2 = true := by kernel_rfl
theorem zbpg : okFun Go.Proofs.Tryz.prog 8 zn4 = true := by kernel_rfl
theorem zbph : okFun Go.Proofs.Tryz.prog 9 zn6 = true := by kernel_rfl
theorem zbpi : okFun Go.Proofs.Tryz.prog 10 zn8 = true := by kernel_rfl
theorem zbpj : okFun Go.Proofs.Tryz.prog 11 zo0 = true := by kernel_rfl
theorem zbpk : okFun Go.Proofs.Tryz.prog 12 zpr = true := by kernel_rfl
theorem zbpl : okFun Go.Proofs.Tryz.prog 13 zp1 = true := by kernel_rfl
theorem zbpm : okFun Go.Proofs.Tryz.prog 14 zp3 = true := by kernel_rfl
theorem zbpn : okFun Go.Proofs.Tryz.prog 15 zq7 = true := by kernel_rfl
theorem zbpo : okFun Go.Proofs.Tryz.prog 16 zq9 = true := by kernel_rfl
theorem zbpp : okFun Go.Proofs.Tryz.prog 17 zrb = true := by kernel_rfl
theorem zbpq : okFun Go.Proofs.Tryz.prog 18 zrv = true := by kernel_rfl
theorem zbpr : okFun Go.Proofs.Tryz.prog 19 zr5 = true := by kernel_rfl
theorem zbps : okFun Go.Proofs.Tryz.prog 20 zr7 = true := by kernel_rfl
theorem zbpt : okFun Go.Proofs.Tryz.prog 21 zsh = true := by kernel_rfl
theorem zbpu : okFun Go.Proofs.Tryz.prog 22 zsj = true := by kernel_rfl
theorem zbpv : okFun Go.Proofs.Tryz.prog 23 zsv = true := by kernel_rfl
theorem zbpw : okFun Go.Proofs.Tryz.prog 24 zsx = true := by kernel_rfl
theorem zbpx : okFun Go.Proofs.Tryz.prog 25 ztp = true := by kernel_rfl
theorem zbpy : okFun Go.Proofs.Tryz.prog 26 ztt = true := by kernel_rfl
theorem zbpz : okFun Go.Proofs.Tryz.prog 27 zt5 = true := by kernel_rfl
theorem zbp0 : okFun Go.Proofs.Tryz.prog 28 zt7 = true := by kernel_rfl
theorem zbp1 : okFun Go.Proofs.Tryz.prog 29 zt9 = true := by kernel_rfl
theorem zbp2 : okFun Go.Proofs.Tryz.prog 30 zub = true := by kernel_rfl
theorem zbp3 : okFun Go.Proofs.Tryz.prog 31 zul = true := by kernel_rfl
theorem zbp4 : okFun Go.Proofs.Tryz.prog 32 zun = true := by kernel_rfl
theorem zbp5 : okFun Go.Proofs.Tryz.prog 33 zux = true := by kernel_rfl
theorem zbp6 : okFun Go.Proofs.Tryz.prog 34 zu2 = true := by kernel_rfl
theorem zbp7 : okFun Go.Proofs.Tryz.prog 35 zve = true := by kernel_rfl
theorem zbp8 : okFun Go.Proofs.Tryz.prog 36 zv5 = true := by kernel_rfl
theorem zbp9 : okFun Go.Proofs.Tryz.prog 37 zwh = true := by kernel_rfl
theorem zbqa : okFun Go.Proofs.Tryz.prog 38 zw2 = true := by kernel_rfl
theorem zbqb : okFun Go.Proofs.Tryz.prog 39 zxc = true := by kernel_rfl
theorem zbqc : okFun Go.Proofs.Tryz.prog 40 zxq = true := by kernel_rfl
theorem zbqd : okFun Go.Proofs.Tryz.prog 41 zxs = true := by kernel_rfl
theorem zbqe : okFun Go.Proofs.Tryz.prog 42 zx2 = true := by kernel_rfl
theorem zbqf : okFun Go.Proofs.Tryz.prog 43 zya = true := by kernel_rfl
theorem zbqg : okFun Go.Proofs.Tryz.prog 44 zzg = true := by kernel_rfl
theorem zbqh : okFun Go.Proofs.Tryz.prog 45 zz6 = true := by kernel_rfl
theorem zbqi : okFun Go.Proofs.Tryz.prog 46 z0u = true := by kernel_rfl
theorem zbqj : okFun Go.Proofs.Tryz.prog 47 z04 = true := by kernel_rfl
theorem zbqk : okFun Go.Proofs.Tryz.prog 48 z06 = true := by kernel_rfl
theorem zbql : okFun Go.Proofs.Tryz.prog 49 z1i = true := by kernel_rfl
theorem zbqm : okFun Go.Proofs.Tryz.prog 50 z17 = true := by kernel_rfl
theorem zbqn : okFun Go.Proofs.Tryz.prog 51 z2y = true := by kernel_rfl
theorem zbqo : okFun Go.Proofs.Tryz.prog 52 z3k = true := by kernel_rfl
theorem zbqp : okFun Go.Proofs.Tryz.prog 53 z34 = true := by kernel_rfl
theorem zbqq : okFun Go.Proofs.Tryz.prog 54 z36 = true := by kernel_rfl
theorem zbqr : okFun Go.Proofs.Tryz.prog 55 z38 = true := by kernel_rfl
theorem zbqs : okFun Go.Proofs.Tryz.prog 56 z4i = true := by kernel_rfl
theorem zbqt : okFun Go.Proofs.Tryz.prog 57 z4k = true := by kernel_rfl
theorem zbqu : okFun Go.Proofs.Tryz.prog 58 z5a = true := by kernel_rfl
theorem zbqv : okFun Go.Proofs.Tryz.prog 59 z5o = true := by kernel_rfl
theorem zbqw : okFun Go.Proofs.Tryz.prog 60 z5q = true := by kernel_rfl
theorem zbqx : okFun Go.Proofs.Tryz.prog 61 z5u = true := by kernel_rfl
theorem zbqy : okFun Go.Proofs.Tryz.prog 62 z5w = true := by kernel_rfl
theorem zbqz : okFun Go.Proofs.Tryz.prog 63 z56 = true := by kernel_rfl
theorem zbq0 : okFun Go.Proofs.Tryz.prog 64 z6o = true := by kernel_rfl
theorem zbq1 : okFun Go.Proofs.Tryz.prog 65 z7d = true := by kernel_rfl
theorem zbq2 : okFun Go.Proofs.Tryz.prog 66 z71 = true := by kernel_rfl
theorem zbq3 : okFun Go.Proofs.Tryz.prog 67 z73 = true := by kernel_rfl
theorem zbq4 : okFun Go.Proofs.Tryz.prog 68 z75 = true := by kernel_rfl
theorem zbq5 : okFun Go.Proofs.Tryz.prog 69 z77 = true := by kernel_rfl
theorem zbq6 : okFun Go.Proofs.Tryz.prog 70 z79 = true := by kernel_rfl
theorem zbq7 : okFun Go.Proofs.Tryz.prog 71 z8b = true := by kernel_rfl
theorem zbq8 : okFun Go.Proofs.Tryz.prog 72 z8n = true := by kernel_rfl
theorem zbq9 : okFun Go.Proofs.Tryz.prog 73 z8p = true := by kernel_rfl
theorem zbra : okFun Go.Proofs.Tryz.prog 74 z9d = true := by kernel_rfl
theorem zbrb : okFun Go.Proofs.Tryz.prog 75 z93 = true := by kernel_rfl
theorem zbrc : okFun Go.Proofs.Tryz.prog 76 zbah = true := by kernel_rfl
theorem zbrd : okFun Go.Proofs.Tryz.prog 77 zbaj = true := by kernel_rfl
theorem zbre : okFun Go.Proofs.Tryz.prog 78 zbav = true := by kernel_rfl
theorem zbrf : okFun Go.Proofs.Tryz.prog 79 zbaz = true := by kernel_rfl
theorem zbrg : okFun Go.Proofs.Tryz.prog 80 zba1 = true := by kernel_rfl
theorem zbrh : okFun Go.Proofs.Tryz.prog 81 zba9 = true := by kernel_rfl
theorem zbri : okFun Go.Proofs.Tryz.prog 82 zbbb = true := by kernel_rfl
theorem zbrj : okFun Go.Proofs.Tryz.prog 83 zbbf = true := by kernel_rfl
theorem zbrk : okFun Go.Proofs.Tryz.prog 85 zbby = true := by kernel_rfl
theorem zbrl : okFun Go.Proofs.Tryz.prog 88 zbb0 = true := by kernel_rfl
theorem zbrm : okFun Go.Proofs.Tryz.prog 89 zbb2 = true := by kernel_rfl
theorem zbrn : okFun Go.Proofs.Tryz.prog 90 zbb4 = true := by kernel_rfl
theorem zbro : okFun Go.Proofs.Tryz.prog 91 zbb6 = true := by kernel_rfl
theorem zbrp : okFun Go.Proofs.Tryz.prog 92 zbck = true := by kernel_rfl
theorem zbrq : okFun Go.Proofs.Tryz.prog 93 zbcm = true := by kernel_rfl
theorem zbrr : okFun Go.Proofs.Tryz.prog 94 zbco = true := by kernel_rfl
theorem zbrs : okFun Go.Proofs.Tryz.prog 95 zbcq = true := by kernel_rfl
theorem zbrt : okFun Go.Proofs.Tryz.prog 96 zbcs = true := by kernel_rfl
theorem zbru : okFun Go.Proofs.Tryz.prog 97 zbcu = true := by kernel_rfl
theorem zbrv : okFun Go.Proofs.Tryz.prog 98 zbc4 = true := by kernel_rfl
theorem zbrw : okFun Go.Proofs.Tryz.prog 99 zbdc = true := by kernel_rfl
theorem zbrx : okFun Go.Proofs.Tryz.prog 100 zbdl = true := by kernel_rfl
theorem zbry : okFun Go.Proofs.Tryz.prog 103 zbdq = true := by kernel_rfl
theorem zbrz : okFun Go.Proofs.Tryz.prog 104 zbdv = true := by kernel_rfl
theorem zbr0 : okFun Go.Proofs.Tryz.prog 108 zbee = true := by kernel_rfl
theorem okAll : okTab Go.Proofs.Tryz.prog tab = true := by
 simp only [tab, okTab, zbpb, zbpc, zbpd, zbpe, zbpf, zbpg, zbph, zbpi, zbpj, zbpk, zbpl, zbpm, zbpn, zbpo, zbpp, zbpq, zbpr, zbps, zbpt, zbpu, zbpv, zbpw, zbpx, zbpy, zbpz, zbp0, zbp1, zbp2, zbp3, zbp4, zbp5, zbp6, zbp7, zbp8, zbp9, zbqa, zbqb, zbqc, zbqd, zbqe, zbqf, zbqg, zbqh, zbqi, zbqj, zbqk, zbql, zbqm, zbqn, zbqo, zbqp, zbqq, zbqr, zbqs, zbqt, zbqu, zbqv, zbqw, zbqx, zbqy, zbqz, zbq0, zbq1, zbq2, zbq3, zbq4, zbq5, zbq6, zbq7, zbq8, zbq9, zbra, zbrb, zbrc, zbrd, zbre, zbrf, zbrg, zbrh, zbri, zbrj, zbrk, zbrl, zbrm, zbrn, zbro, zbrp, zbrq, zbrr, zbrs, zbrt, zbru, zbrv, zbrw, zbrx, zbry, zbrz, zbr0, Bool.and_self, Bool.and_true]
theorem mixed : Go.Proofs.Tryz.prog.follows .mixedOrders = true := by kernel_rfl
end Go.Dvm.C
