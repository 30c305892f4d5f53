/- The code is the program's. -/
import Derived.Test.YtnppecdklidmmaaGreatProg
import Derived.Test.YtnppecdklidmmaaGreatQl0
import Derived.KernelRfl
import Derived.Test.YtnppecdklidmmaaGreatQg
import Derived.Test.YtnppecdklidmmaaGreatQh
set_option linter.all false
set_option maxRecDepth 100000
set_option maxHeartbeats 4000000
namespace Go.Dvm.C
open Go Go.Dvm
theorem zbr9 : okFun Go.Proofs.Tryz.prog 3 zqw = true := by kernel_rfl
theorem zbsa : okFun Go.Proofs.Tryz.prog 6 zqy = true := by kernel_rfl
theorem zbsb : okFun Go.Proofs.Tryz.prog 7 zq0 = true := by kernel_rfl
theorem zbsc : okFun Go.Proofs.Tryz.prog 8 zq2 = true := by kernel_rfl
theorem zbsd : okFun Go.Proofs.Tryz.prog 9 zq4 = true := by kernel_rfl
theorem zbse : okFun Go.Proofs.Tryz.prog 10 zrn = true := by kernel_rfl
theorem zbsf : okFun Go.Proofs.Tryz.prog 11 zr7 = true := by kernel_rfl
theorem zbsg : okFun Go.Proofs.Tryz.prog 12 zsf = true := by kernel_rfl
theorem zbsh : okFun Go.Proofs.Tryz.prog 13 zsu = true := by kernel_rfl
theorem zbsi : okFun Go.Proofs.Tryz.prog 14 zsw = true := by kernel_rfl
theorem zbsj : okFun Go.Proofs.Tryz.prog 16 zsy = true := by kernel_rfl
theorem zbsk : okFun Go.Proofs.Tryz.prog 23 zs6 = true := by kernel_rfl
theorem zbsl : okFun Go.Proofs.Tryz.prog 24 zs8 = true := by kernel_rfl
theorem zbsm : okFun Go.Proofs.Tryz.prog 25 zta = true := by kernel_rfl
theorem zbsn : okFun Go.Proofs.Tryz.prog 26 ztm = true := by kernel_rfl
theorem zbso : okFun Go.Proofs.Tryz.prog 27 ztp = true := by kernel_rfl
theorem zbsp : okFun Go.Proofs.Tryz.prog 28 ztr = true := by kernel_rfl
theorem zbsq : okFun Go.Proofs.Tryz.prog 29 zt9 = true := by kernel_rfl
theorem zbsr : okFun Go.Proofs.Tryz.prog 30 zub = true := by kernel_rfl
theorem zbss : okFun Go.Proofs.Tryz.prog 31 zuo = true := by kernel_rfl
theorem zbst : okFun Go.Proofs.Tryz.prog 32 zus = true := by kernel_rfl
theorem zbsu : okFun Go.Proofs.Tryz.prog 33 zuu = true := by kernel_rfl
theorem zbsv : okFun Go.Proofs.Tryz.prog 34 zuw = true := by kernel_rfl
theorem zbsw : okFun Go.Proofs.Tryz.prog 35 zuy = true := by kernel_rfl
theorem zbsx : okFun Go.Proofs.Tryz.prog 36 zu0 = true := by kernel_rfl
theorem zbsy : okFun Go.Proofs.Tryz.prog 37 zu2 = true := by kernel_rfl
theorem zbsz : okFun Go.Proofs.Tryz.prog 38 zu4 = true := by kernel_rfl
theorem zbs0 : okFun Go.Proofs.Tryz.prog 39 zu6 = true := by kernel_rfl
theorem zbs1 : okFun Go.Proofs.Tryz.prog 40 zu8 = true := by kernel_rfl
theorem zbs2 : okFun Go.Proofs.Tryz.prog 41 zva = true := by kernel_rfl
theorem zbs3 : okFun Go.Proofs.Tryz.prog 42 zvc = true := by kernel_rfl
theorem zbs4 : okFun Go.Proofs.Tryz.prog 43 zvn = true := by kernel_rfl
theorem zbs5 : okFun Go.Proofs.Tryz.prog 44 zwa = true := by kernel_rfl
theorem zbs6 : okFun Go.Proofs.Tryz.prog 45 zwo = true := by kernel_rfl
theorem zbs7 : okFun Go.Proofs.Tryz.prog 46 zwq = true := by kernel_rfl
theorem zbs8 : okFun Go.Proofs.Tryz.prog 47 zww = true := by kernel_rfl
theorem zbs9 : okFun Go.Proofs.Tryz.prog 49 zxd = true := by kernel_rfl
theorem zbta : okFun Go.Proofs.Tryz.prog 52 zxk = true := by kernel_rfl
theorem zbtb : okFun Go.Proofs.Tryz.prog 59 zxm = true := by kernel_rfl
theorem zbtc : okFun Go.Proofs.Tryz.prog 60 zxo = true := by kernel_rfl
theorem zbtd : okFun Go.Proofs.Tryz.prog 61 zxq = true := by kernel_rfl
theorem zbte : okFun Go.Proofs.Tryz.prog 62 zxu = true := by kernel_rfl
theorem zbtf : okFun Go.Proofs.Tryz.prog 63 zxw = true := by kernel_rfl
theorem zbtg : okFun Go.Proofs.Tryz.prog 71 zxy = true := by kernel_rfl
theorem zbth : okFun Go.Proofs.Tryz.prog 72 zx3 = true := by kernel_rfl
theorem zbti : okFun Go.Proofs.Tryz.prog 73 zx5 = true := by kernel_rfl
theorem zbtj : okFun Go.Proofs.Tryz.prog 74 zx7 = true := by kernel_rfl
theorem zbtk : okFun Go.Proofs.Tryz.prog 75 zyd = true := by kernel_rfl
theorem zbtl : okFun Go.Proofs.Tryz.prog 76 zys = true := by kernel_rfl
theorem zbtm : okFun Go.Proofs.Tryz.prog 77 zy8 = true := by kernel_rfl
theorem zbtn : okFun Go.Proofs.Tryz.prog 78 zzm = true := by kernel_rfl
theorem zbto : okFun Go.Proofs.Tryz.prog 79 zzw = true := by kernel_rfl
theorem zbtp : okFun Go.Proofs.Tryz.prog 80 zzy = true := by kernel_rfl
theorem zbtq : okFun Go.Proofs.Tryz.prog 81 zz2 = true := by kernel_rfl
theorem zbtr : okFun Go.Proofs.Tryz.prog 82 zz4 = true := by kernel_rfl
theorem zbts : okFun Go.Proofs.Tryz.prog 83 zz5 = true := by kernel_rfl
theorem zbtt : okFun Go.Proofs.Tryz.prog 84 zz7 = true := by kernel_rfl
theorem zbtu : okFun Go.Proofs.Tryz.prog 85 zz9 = true := by kernel_rfl
theorem zbtv : okFun Go.Proofs.Tryz.prog 86 z0b = true := by kernel_rfl
theorem zbtw : okFun Go.Proofs.Tryz.prog 87 z0g = true := by kernel_rfl
theorem zbtx : okFun Go.Proofs.Tryz.prog 88 z0i = true := by kernel_rfl
theorem zbty : okFun Go.Proofs.Tryz.prog 89 z0k = true := by kernel_rfl
theorem zbtz : okFun Go.Proofs.Tryz.prog 90 z0m = true := by kernel_rfl
theorem zbt0 : okFun Go.Proofs.Tryz.prog 91 z0o = true := by kernel_rfl
theorem zbt1 : okFun Go.Proofs.Tryz.prog 92 z0s = true := by kernel_rfl
theorem zbt2 : okFun Go.Proofs.Tryz.prog 93 z0u = true := by kernel_rfl
theorem zbt3 : okFun Go.Proofs.Tryz.prog 94 z0w = true := by kernel_rfl
theorem zbt4 : okFun Go.Proofs.Tryz.prog 95 z0y = true := by kernel_rfl
theorem zbt5 : okFun Go.Proofs.Tryz.prog 96 z1c = true := by kernel_rfl
theorem zbt6 : okFun Go.Proofs.Tryz.prog 97 z1e = true := by kernel_rfl
theorem zbt7 : okFun Go.Proofs.Tryz.prog 98 z1g = true := by kernel_rfl
theorem zbt8 : okFun Go.Proofs.Tryz.prog 99 z1i = true := by kernel_rfl
theorem zbt9 : okFun Go.Proofs.Tryz.prog 100 z1x = true := by kernel_rfl
theorem zbua : okFun Go.Proofs.Tryz.prog 101 z14 = true := by kernel_rfl
theorem zbub : okFun Go.Proofs.Tryz.prog 102 z2d = true := by kernel_rfl
theorem zbuc : okFun Go.Proofs.Tryz.prog 103 z2h = true := by kernel_rfl
theorem zbud : okFun Go.Proofs.Tryz.prog 104 z2q = true := by kernel_rfl
theorem zbue : okFun Go.Proofs.Tryz.prog 105 z25 = true := by kernel_rfl
theorem zbuf : okFun Go.Proofs.Tryz.prog 106 z3q = true := by kernel_rfl
theorem zbug : okFun Go.Proofs.Tryz.prog 107 z3u = true := by kernel_rfl
theorem zbuh : okFun Go.Proofs.Tryz.prog 108 z33 = true := by kernel_rfl
theorem zbui : okFun Go.Proofs.Tryz.prog 109 z4a = true := by kernel_rfl
theorem zbuj : okFun Go.Proofs.Tryz.prog 110 z4p = true := by kernel_rfl
theorem zbuk : okFun Go.Proofs.Tryz.prog 115 z4u = true := by kernel_rfl
theorem zbul : okFun Go.Proofs.Tryz.prog 124 z4y = true := by kernel_rfl
theorem zbum : okFun Go.Proofs.Tryz.prog 125 z5c = true := by kernel_rfl
theorem zbun : okFun Go.Proofs.Tryz.prog 126 z5m = true := by kernel_rfl
theorem zbuo : okFun Go.Proofs.Tryz.prog 144 z5r = true := by kernel_rfl
theorem zbup : okFun Go.Proofs.Tryz.prog 145 z53 = true := by kernel_rfl
theorem zbuq : okFun Go.Proofs.Tryz.prog 146 z6b = true := by kernel_rfl
theorem zbur : okFun Go.Proofs.Tryz.prog 147 z6k = true := by kernel_rfl
theorem zbus : okFun Go.Proofs.Tryz.prog 148 z6x = true := by kernel_rfl
theorem zbut : okFun Go.Proofs.Tryz.prog 149 z7h = true := by kernel_rfl
theorem zbuu : okFun Go.Proofs.Tryz.prog 152 z7u = true := by kernel_rfl
theorem zbuv : okFun Go.Proofs.Tryz.prog 153 z7y = true := by kernel_rfl
theorem zbuw : okFun Go.Proofs.Tryz.prog 154 z77 = true := by kernel_rfl
theorem zbux : okFun Go.Proofs.Tryz.prog 155 z8b = true := by kernel_rfl
theorem zbuy : okFun Go.Proofs.Tryz.prog 156 z8p = true := by kernel_rfl
theorem zbuz : okFun Go.Proofs.Tryz.prog 157 z8t = true := by kernel_rfl
theorem zbu0 : okFun Go.Proofs.Tryz.prog 158 z8x = true := by kernel_rfl
theorem zbu1 : okFun Go.Proofs.Tryz.prog 159 z81 = true := by kernel_rfl
theorem zbu2 : okFun Go.Proofs.Tryz.prog 160 z9m = true := by kernel_rfl
theorem zbu3 : okFun Go.Proofs.Tryz.prog 161 z9q = true := by kernel_rfl
theorem zbu4 : okFun Go.Proofs.Tryz.prog 162 z9w = true := by kernel_rfl
theorem zbu5 : okFun Go.Proofs.Tryz.prog 163 z94 = true := by kernel_rfl
theorem zbu6 : okFun Go.Proofs.Tryz.prog 164 zbah = true := by kernel_rfl
theorem zbu7 : okFun Go.Proofs.Tryz.prog 165 zbao = true := by kernel_rfl
theorem zbu8 : okFun Go.Proofs.Tryz.prog 166 zbas = true := by kernel_rfl
theorem zbu9 : okFun Go.Proofs.Tryz.prog 167 zbax = true := by kernel_rfl
theorem zbva : okFun Go.Proofs.Tryz.prog 168 zba4 = true := by kernel_rfl
theorem zbvb : okFun Go.Proofs.Tryz.prog 169 zba9 = true := by kernel_rfl
theorem zbvc : okFun Go.Proofs.Tryz.prog 170 zbbd = true := by kernel_rfl
theorem zbvd : okFun Go.Proofs.Tryz.prog 171 zbbf = true := by kernel_rfl
theorem zbve : okFun Go.Proofs.Tryz.prog 172 zbbj = true := by kernel_rfl
theorem zbvf : okFun Go.Proofs.Tryz.prog 173 zbbm = true := by kernel_rfl
theorem zbvg : okFun Go.Proofs.Tryz.prog 174 zbbs = true := by kernel_rfl
theorem zbvh : okFun Go.Proofs.Tryz.prog 177 zbbz = true := by kernel_rfl
theorem zbvi : okFun Go.Proofs.Tryz.prog 205 zbb1 = true := by kernel_rfl
theorem zbvj : okFun Go.Proofs.Tryz.prog 209 zbb2 = true := by kernel_rfl
theorem zbvk : okFun Go.Proofs.Tryz.prog 211 zbcf = true := by kernel_rfl
theorem zbvl : okFun Go.Proofs.Tryz.prog 212 zbc1 = true := by kernel_rfl
theorem zbvm : okFun Go.Proofs.Tryz.prog 213 zbde = true := by kernel_rfl
theorem zbvn : okFun Go.Proofs.Tryz.prog 214 zbdi = true := by kernel_rfl
theorem zbvo : okFun Go.Proofs.Tryz.prog 216 zbd1 = true := by kernel_rfl
theorem okAll : okTab Go.Proofs.Tryz.prog tab = true := by
 simp only [tab, okTab, zbr9, zbsa, zbsb, zbsc, zbsd, zbse, zbsf, zbsg, zbsh, zbsi, zbsj, zbsk, zbsl, zbsm, zbsn, zbso, zbsp, zbsq, zbsr, zbss, zbst, zbsu, zbsv, zbsw, zbsx, zbsy, zbsz, zbs0, zbs1, zbs2, zbs3, zbs4, zbs5, zbs6, zbs7, zbs8, zbs9, zbta, zbtb, zbtc, zbtd, zbte, zbtf, zbtg, zbth, zbti, zbtj, zbtk, zbtl, zbtm, zbtn, zbto, zbtp, zbtq, zbtr, zbts, zbtt, zbtu, zbtv, zbtw, zbtx, zbty, zbtz, zbt0, zbt1, zbt2, zbt3, zbt4, zbt5, zbt6, zbt7, zbt8, zbt9, zbua, zbub, zbuc, zbud, zbue, zbuf, zbug, zbuh, zbui, zbuj, zbuk, zbul, zbum, zbun, zbuo, zbup, zbuq, zbur, zbus, zbut, zbuu, zbuv, zbuw, zbux, zbuy, zbuz, zbu0, zbu1, zbu2, zbu3, zbu4, zbu5, zbu6, zbu7, zbu8, zbu9, zbva, zbvb, zbvc, zbvd, zbve, zbvf, zbvg, zbvh, zbvi, zbvj, zbvk, zbvl, zbvm, zbvn, zbvo, Bool.and_self, Bool.and_true]
theorem mixed : Go.Proofs.Tryz.prog.follows .mixedOrders = true := by kernel_rfl
theorem prims : PrimOk Go.Proofs.Tryz.prog tab := by
 simp only [tab, PrimOk]
 exact ⟨np rfl rfl, np rfl rfl, np rfl rfl, np rfl rfl, np rfl rfl, np rfl rfl, np rfl rfl, np rfl rfl, np rfl rfl, np rfl rfl, np rfl rfl, np rfl rfl, np rfl rfl, np rfl rfl, np rfl rfl, np rfl rfl, np rfl rfl, np rfl rfl, np rfl rfl, np rfl rfl, np rfl rfl, np rfl rfl, np rfl rfl, np rfl rfl, np rfl rfl, np rfl rfl, np rfl rfl, np rfl rfl, np rfl rfl, np rfl rfl, np rfl rfl, np rfl rfl, np rfl rfl, np rfl rfl, np rfl rfl, np rfl rfl, np rfl rfl, np rfl rfl, np rfl rfl, np rfl rfl, np rfl rfl, np rfl rfl, np rfl rfl, np rfl rfl, np rfl rfl, np rfl rfl, np rfl rfl, np rfl rfl, np rfl rfl, np rfl rfl, np rfl rfl, np rfl rfl, np rfl rfl, np rfl rfl, np rfl rfl, npd rfl rfl (fun ds rs h => zbr1 ds rs h), np rfl rfl, np rfl rfl, np rfl rfl, np rfl rfl, np rfl rfl, np rfl rfl, np rfl rfl, np rfl rfl, np rfl rfl, np rfl rfl, np rfl rfl, np rfl rfl, np rfl rfl, np rfl rfl, np rfl rfl, np rfl rfl, np rfl rfl, np rfl rfl, np rfl rfl, np rfl rfl, np rfl rfl, np rfl rfl, np rfl rfl, np rfl rfl, np rfl rfl, np rfl rfl, np rfl rfl, np rfl rfl, np rfl rfl, np rfl rfl, np rfl rfl, np rfl rfl, np rfl rfl, np rfl rfl, np rfl rfl, np rfl rfl, np rfl rfl, np rfl rfl, np rfl rfl, np rfl rfl, np rfl rfl, np rfl rfl, np rfl rfl, np rfl rfl, np rfl rfl, np rfl rfl, np rfl rfl, np rfl rfl, np rfl rfl, np rfl rfl, np rfl rfl, np rfl rfl, np rfl rfl, np rfl rfl, np rfl rfl, np rfl rfl, npi rfl rfl (zj3 zbr6), np rfl rfl, np rfl rfl, np rfl rfl, np rfl rfl, npi rfl rfl (zj2 Go.Proofs.zbr8), npd rfl rfl (fun ds rs h => zbr5 ds rs h), np rfl rfl, np rfl rfl, np rfl rfl, np rfl rfl, np rfl rfl, trivial⟩
end Go.Dvm.C
