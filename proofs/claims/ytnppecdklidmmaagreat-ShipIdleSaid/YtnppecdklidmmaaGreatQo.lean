/- The code is the program's. -/
import Derived.Test.YtnppecdklidmmaaGreatProg
import Derived.Test.YtnppecdklidmmaaGreatQl0
import Derived.KernelRfl
import Derived.Test.YtnppecdklidmmaaGreatQg
import Derived.Test.YtnppecdklidmmaaGreatQh
set_option linter.all false
set_option maxRecDepth 100000
set_option maxHeartbeats 4000000
namespace Go.Dvm.C
open Go Go.Dvm
theorem zb1v : okFun Go.Proofs.Tryz.prog 5 zqc = true := by kernel_rfl
theorem zb1w : okFun Go.Proofs.Tryz.prog 8 zqe = true := by kernel_rfl
theorem zb1x : okFun Go.Proofs.Tryz.prog 9 zqg = true := by kernel_rfl
theorem zb1y : okFun Go.Proofs.Tryz.prog 14 zqi = true := by kernel_rfl
theorem zb1z : okFun Go.Proofs.Tryz.prog 15 zqn = true := by kernel_rfl
theorem zb10 : okFun Go.Proofs.Tryz.prog 16 zqp = true := by kernel_rfl
theorem zb11 : okFun Go.Proofs.Tryz.prog 18 zqr = true := by kernel_rfl
theorem zb12 : okFun Go.Proofs.Tryz.prog 22 zqt = true := by kernel_rfl
theorem zb13 : okFun Go.Proofs.Tryz.prog 28 zqv = true := by kernel_rfl
theorem zb14 : okFun Go.Proofs.Tryz.prog 29 zrd = true := by kernel_rfl
theorem zb15 : okFun Go.Proofs.Tryz.prog 30 zrf = true := by kernel_rfl
theorem zb16 : okFun Go.Proofs.Tryz.prog 31 zrs = true := by kernel_rfl
theorem zb17 : okFun Go.Proofs.Tryz.prog 32 zrw = true := by kernel_rfl
theorem zb18 : okFun Go.Proofs.Tryz.prog 38 zry = true := by kernel_rfl
theorem zb19 : okFun Go.Proofs.Tryz.prog 41 zr0 = true := by kernel_rfl
theorem zb2a : okFun Go.Proofs.Tryz.prog 42 zr2 = true := by kernel_rfl
theorem zb2b : okFun Go.Proofs.Tryz.prog 43 zsd = true := by kernel_rfl
theorem zb2c : okFun Go.Proofs.Tryz.prog 46 zsf = true := by kernel_rfl
theorem zb2d : okFun Go.Proofs.Tryz.prog 47 zsl = true := by kernel_rfl
theorem zb2e : okFun Go.Proofs.Tryz.prog 48 zsn = true := by kernel_rfl
theorem zb2f : okFun Go.Proofs.Tryz.prog 49 zs4 = true := by kernel_rfl
theorem zb2g : okFun Go.Proofs.Tryz.prog 50 zs8 = true := by kernel_rfl
theorem zb2h : okFun Go.Proofs.Tryz.prog 51 zta = true := by kernel_rfl
theorem zb2i : okFun Go.Proofs.Tryz.prog 52 zth = true := by kernel_rfl
theorem zb2j : okFun Go.Proofs.Tryz.prog 54 ztq = true := by kernel_rfl
theorem zb2k : okFun Go.Proofs.Tryz.prog 55 ztu = true := by kernel_rfl
theorem zb2l : okFun Go.Proofs.Tryz.prog 59 ztw = true := by kernel_rfl
theorem zb2m : okFun Go.Proofs.Tryz.prog 60 zty = true := by kernel_rfl
theorem zb2n : okFun Go.Proofs.Tryz.prog 62 zt2 = true := by kernel_rfl
theorem zb2o : okFun Go.Proofs.Tryz.prog 74 zt4 = true := by kernel_rfl
theorem zb2p : okFun Go.Proofs.Tryz.prog 75 zua = true := by kernel_rfl
theorem zb2q : okFun Go.Proofs.Tryz.prog 76 zup = true := by kernel_rfl
theorem zb2r : okFun Go.Proofs.Tryz.prog 77 zu5 = true := by kernel_rfl
theorem zb2s : okFun Go.Proofs.Tryz.prog 78 zvj = true := by kernel_rfl
theorem zb2t : okFun Go.Proofs.Tryz.prog 79 zvt = true := by kernel_rfl
theorem zb2u : okFun Go.Proofs.Tryz.prog 80 zvv = true := by kernel_rfl
theorem zb2v : okFun Go.Proofs.Tryz.prog 81 zvz = true := by kernel_rfl
theorem zb2w : okFun Go.Proofs.Tryz.prog 82 zv1 = true := by kernel_rfl
theorem zb2x : okFun Go.Proofs.Tryz.prog 83 zv2 = true := by kernel_rfl
theorem zb2y : okFun Go.Proofs.Tryz.prog 84 zv4 = true := by kernel_rfl
theorem zb2z : okFun Go.Proofs.Tryz.prog 85 zv6 = true := by kernel_rfl
theorem zb20 : okFun Go.Proofs.Tryz.prog 86 zv8 = true := by kernel_rfl
theorem zb21 : okFun Go.Proofs.Tryz.prog 87 zwd = true := by kernel_rfl
theorem zb22 : okFun Go.Proofs.Tryz.prog 88 zwf = true := by kernel_rfl
theorem zb23 : okFun Go.Proofs.Tryz.prog 93 zwh = true := by kernel_rfl
theorem zb24 : okFun Go.Proofs.Tryz.prog 94 zwj = true := by kernel_rfl
theorem zb25 : okFun Go.Proofs.Tryz.prog 95 zwl = true := by kernel_rfl
theorem zb26 : okFun Go.Proofs.Tryz.prog 96 zwz = true := by kernel_rfl
theorem zb27 : okFun Go.Proofs.Tryz.prog 97 zw1 = true := by kernel_rfl
theorem zb28 : okFun Go.Proofs.Tryz.prog 98 zw3 = true := by kernel_rfl
theorem zb29 : okFun Go.Proofs.Tryz.prog 99 zw5 = true := by kernel_rfl
theorem zb3a : okFun Go.Proofs.Tryz.prog 100 zxk = true := by kernel_rfl
theorem zb3b : okFun Go.Proofs.Tryz.prog 101 zxr = true := by kernel_rfl
theorem zb3c : okFun Go.Proofs.Tryz.prog 105 zx6 = true := by kernel_rfl
theorem zb3d : okFun Go.Proofs.Tryz.prog 106 zyr = true := by kernel_rfl
theorem zb3e : okFun Go.Proofs.Tryz.prog 107 zyv = true := by kernel_rfl
theorem zb3f : okFun Go.Proofs.Tryz.prog 108 zy2 = true := by kernel_rfl
theorem zb3g : okFun Go.Proofs.Tryz.prog 109 zy9 = true := by kernel_rfl
theorem zb3h : okFun Go.Proofs.Tryz.prog 110 zzo = true := by kernel_rfl
theorem zb3i : okFun Go.Proofs.Tryz.prog 111 zzw = true := by kernel_rfl
theorem zb3j : okFun Go.Proofs.Tryz.prog 112 zz3 = true := by kernel_rfl
theorem zb3k : okFun Go.Proofs.Tryz.prog 113 zz7 = true := by kernel_rfl
theorem zb3l : okFun Go.Proofs.Tryz.prog 114 z0b = true := by kernel_rfl
theorem zb3m : okFun Go.Proofs.Tryz.prog 115 z0g = true := by kernel_rfl
theorem zb3n : okFun Go.Proofs.Tryz.prog 117 z0n = true := by kernel_rfl
theorem zb3o : okFun Go.Proofs.Tryz.prog 118 z0x = true := by kernel_rfl
theorem zb3p : okFun Go.Proofs.Tryz.prog 119 z02 = true := by kernel_rfl
theorem zb3q : okFun Go.Proofs.Tryz.prog 120 z1z = true := by kernel_rfl
theorem zb3r : okFun Go.Proofs.Tryz.prog 124 z13 = true := by kernel_rfl
theorem zb3s : okFun Go.Proofs.Tryz.prog 125 z2h = true := by kernel_rfl
theorem zb3t : okFun Go.Proofs.Tryz.prog 126 z2r = true := by kernel_rfl
theorem zb3u : okFun Go.Proofs.Tryz.prog 136 z2x = true := by kernel_rfl
theorem zb3v : okFun Go.Proofs.Tryz.prog 144 z22 = true := by kernel_rfl
theorem zb3w : okFun Go.Proofs.Tryz.prog 145 z3e = true := by kernel_rfl
theorem zb3x : okFun Go.Proofs.Tryz.prog 146 z3m = true := by kernel_rfl
theorem zb3y : okFun Go.Proofs.Tryz.prog 147 z3v = true := by kernel_rfl
theorem zb3z : okFun Go.Proofs.Tryz.prog 148 z38 = true := by kernel_rfl
theorem zb30 : okFun Go.Proofs.Tryz.prog 149 z4s = true := by kernel_rfl
theorem zb31 : okFun Go.Proofs.Tryz.prog 152 z45 = true := by kernel_rfl
theorem zb32 : okFun Go.Proofs.Tryz.prog 154 z5e = true := by kernel_rfl
theorem zb33 : okFun Go.Proofs.Tryz.prog 155 z5i = true := by kernel_rfl
theorem zb34 : okFun Go.Proofs.Tryz.prog 156 z5w = true := by kernel_rfl
theorem zb35 : okFun Go.Proofs.Tryz.prog 157 z50 = true := by kernel_rfl
theorem zb36 : okFun Go.Proofs.Tryz.prog 158 z54 = true := by kernel_rfl
theorem zb37 : okFun Go.Proofs.Tryz.prog 159 z58 = true := by kernel_rfl
theorem zb38 : okFun Go.Proofs.Tryz.prog 160 z6t = true := by kernel_rfl
theorem zb39 : okFun Go.Proofs.Tryz.prog 163 z61 = true := by kernel_rfl
theorem zb4a : okFun Go.Proofs.Tryz.prog 164 z7e = true := by kernel_rfl
theorem zb4b : okFun Go.Proofs.Tryz.prog 165 z7l = true := by kernel_rfl
theorem zb4c : okFun Go.Proofs.Tryz.prog 166 z7p = true := by kernel_rfl
theorem zb4d : okFun Go.Proofs.Tryz.prog 167 z7u = true := by kernel_rfl
theorem zb4e : okFun Go.Proofs.Tryz.prog 168 z70 = true := by kernel_rfl
theorem zb4f : okFun Go.Proofs.Tryz.prog 169 z75 = true := by kernel_rfl
theorem zb4g : okFun Go.Proofs.Tryz.prog 170 z79 = true := by kernel_rfl
theorem zb4h : okFun Go.Proofs.Tryz.prog 171 z8b = true := by kernel_rfl
theorem zb4i : okFun Go.Proofs.Tryz.prog 172 z8f = true := by kernel_rfl
theorem zb4j : okFun Go.Proofs.Tryz.prog 173 z8i = true := by kernel_rfl
theorem zb4k : okFun Go.Proofs.Tryz.prog 174 z8o = true := by kernel_rfl
theorem zb4l : okFun Go.Proofs.Tryz.prog 175 z8x = true := by kernel_rfl
theorem zb4m : okFun Go.Proofs.Tryz.prog 176 z8z = true := by kernel_rfl
theorem zb4n : okFun Go.Proofs.Tryz.prog 177 z85 = true := by kernel_rfl
theorem zb4o : okFun Go.Proofs.Tryz.prog 180 z9i = true := by kernel_rfl
theorem zb4p : okFun Go.Proofs.Tryz.prog 181 z9s = true := by kernel_rfl
theorem zb4q : okFun Go.Proofs.Tryz.prog 182 z95 = true := by kernel_rfl
theorem zb4r : okFun Go.Proofs.Tryz.prog 183 zbaq = true := by kernel_rfl
theorem zb4s : okFun Go.Proofs.Tryz.prog 184 zbay = true := by kernel_rfl
theorem zb4t : okFun Go.Proofs.Tryz.prog 185 zbbn = true := by kernel_rfl
theorem zb4u : okFun Go.Proofs.Tryz.prog 186 zbb0 = true := by kernel_rfl
theorem zb4v : okFun Go.Proofs.Tryz.prog 187 zbcx = true := by kernel_rfl
theorem zb4w : okFun Go.Proofs.Tryz.prog 205 zbcz = true := by kernel_rfl
theorem zb4x : okFun Go.Proofs.Tryz.prog 209 zbc0 = true := by kernel_rfl
theorem zb4y : okFun Go.Proofs.Tryz.prog 211 zbdd = true := by kernel_rfl
theorem zb4z : okFun Go.Proofs.Tryz.prog 212 zbdz = true := by kernel_rfl
theorem zb40 : okFun Go.Proofs.Tryz.prog 213 zbec = true := by kernel_rfl
theorem zb41 : okFun Go.Proofs.Tryz.prog 214 zbeg = true := by kernel_rfl
theorem zb42 : okFun Go.Proofs.Tryz.prog 216 zbeo = true := by kernel_rfl
theorem zb43 : okFun Go.Proofs.Tryz.prog 219 zbey = true := by kernel_rfl
theorem zb44 : okFun Go.Proofs.Tryz.prog 220 zbfh = true := by kernel_rfl
theorem zb45 : okFun Go.Proofs.Tryz.prog 221 zbfu = true := by kernel_rfl
theorem zb46 : okFun Go.Proofs.Tryz.prog 222 zbfy = true := by kernel_rfl
theorem zb47 : okFun Go.Proofs.Tryz.prog 223 zbga = true := by kernel_rfl
theorem zb48 : okFun Go.Proofs.Tryz.prog 224 zbgn = true := by kernel_rfl
theorem zb49 : okFun Go.Proofs.Tryz.prog 225 zbhc = true := by kernel_rfl
theorem zb5a : okFun Go.Proofs.Tryz.prog 226 zbhq = true := by kernel_rfl
theorem zb5b : okFun Go.Proofs.Tryz.prog 244 zbim = true := by kernel_rfl
theorem zb5c : okFun Go.Proofs.Tryz.prog 253 zbjh = true := by kernel_rfl
theorem zb5d : okFun Go.Proofs.Tryz.prog 254 zbj0 = true := by kernel_rfl
theorem zb5e : okFun Go.Proofs.Tryz.prog 255 zbj6 = true := by kernel_rfl
theorem zb5f : okFun Go.Proofs.Tryz.prog 270 zbkv = true := by kernel_rfl
theorem zb5g : okFun Go.Proofs.Tryz.prog 275 zbk3 = true := by kernel_rfl
theorem zb5h : okFun Go.Proofs.Tryz.prog 277 zblk = true := by kernel_rfl
theorem zb5i : okFun Go.Proofs.Tryz.prog 278 zbls = true := by kernel_rfl
theorem zb5j : okFun Go.Proofs.Tryz.prog 279 zblw = true := by kernel_rfl
theorem zb5k : okFun Go.Proofs.Tryz.prog 280 zbl0 = true := by kernel_rfl
theorem zb5l : okFun Go.Proofs.Tryz.prog 286 zbmd = true := by kernel_rfl
theorem zb5m : okFun Go.Proofs.Tryz.prog 291 zbmu = true := by kernel_rfl
theorem zb5n : okFun Go.Proofs.Tryz.prog 310 zbnr = true := by kernel_rfl
theorem zb5o : okFun Go.Proofs.Tryz.prog 318 zbn4 = true := by kernel_rfl
theorem zb5p : okFun Go.Proofs.Tryz.prog 319 zbom = true := by kernel_rfl
theorem zb5q : okFun Go.Proofs.Tryz.prog 320 zbou = true := by kernel_rfl
theorem okAll : okTab Go.Proofs.Tryz.prog tab = true := by
 simp only [tab, okTab, zb1v, zb1w, zb1x, zb1y, zb1z, zb10, zb11, zb12, zb13, zb14, zb15, zb16, zb17, zb18, zb19, zb2a, zb2b, zb2c, zb2d, zb2e, zb2f, zb2g, zb2h, zb2i, zb2j, zb2k, zb2l, zb2m, zb2n, zb2o, zb2p, zb2q, zb2r, zb2s, zb2t, zb2u, zb2v, zb2w, zb2x, zb2y, zb2z, zb20, zb21, zb22, zb23, zb24, zb25, zb26, zb27, zb28, zb29, zb3a, zb3b, zb3c, zb3d, zb3e, zb3f, zb3g, zb3h, zb3i, zb3j, zb3k, zb3l, zb3m, zb3n, zb3o, zb3p, zb3q, zb3r, zb3s, zb3t, zb3u, zb3v, zb3w, zb3x, zb3y, zb3z, zb30, zb31, zb32, zb33, zb34, zb35, zb36, zb37, zb38, zb39, zb4a, zb4b, zb4c, zb4d, zb4e, zb4f, zb4g, zb4h, zb4i, zb4j, zb4k, zb4l, zb4m, zb4n, zb4o, zb4p, zb4q, zb4r, zb4s, zb4t, zb4u, zb4v, zb4w, zb4x, zb4y, zb4z, zb40, zb41, zb42, zb43, zb44, zb45, zb46, zb47, zb48, zb49, zb5a, zb5b, zb5c, zb5d, zb5e, zb5f, zb5g, zb5h, zb5i, zb5j, zb5k, zb5l, zb5m, zb5n, zb5o, zb5p, zb5q, Bool.and_self, Bool.and_true]
theorem mixed : Go.Proofs.Tryz.prog.follows .mixedOrders = true := by kernel_rfl
theorem prims : PrimOk Go.Proofs.Tryz.prog tab := by
 simp only [tab, PrimOk]
 exact ⟨np rfl rfl, np rfl rfl, np rfl rfl, np rfl rfl, np rfl rfl, np rfl rfl, np rfl rfl, np rfl rfl, np rfl rfl, np rfl rfl, np rfl rfl, np rfl rfl, np rfl rfl, np rfl rfl, np rfl rfl, np rfl rfl, np rfl rfl, np rfl rfl, np rfl rfl, np rfl rfl, np rfl rfl, np rfl rfl, np rfl rfl, np rfl rfl, np rfl rfl, np rfl rfl, np rfl rfl, np rfl rfl, np rfl rfl, np rfl rfl, np rfl rfl, np rfl rfl, np rfl rfl, np rfl rfl, np rfl rfl, np rfl rfl, np rfl rfl, np rfl rfl, npd rfl rfl (fun ds rs h => zb1m ds rs h), np rfl rfl, np rfl rfl, np rfl rfl, np rfl rfl, np rfl rfl, np rfl rfl, np rfl rfl, np rfl rfl, np rfl rfl, np rfl rfl, np rfl rfl, np rfl rfl, np rfl rfl, np rfl rfl, np rfl rfl, np rfl rfl, np rfl rfl, np rfl rfl, np rfl rfl, np rfl rfl, np rfl rfl, np rfl rfl, np rfl rfl, np rfl rfl, np rfl rfl, np rfl rfl, np rfl rfl, np rfl rfl, np rfl rfl, np rfl rfl, np rfl rfl, np rfl rfl, np rfl rfl, np rfl rfl, np rfl rfl, np rfl rfl, np rfl rfl, np rfl rfl, np rfl rfl, np rfl rfl, np rfl rfl, np rfl rfl, np rfl rfl, np rfl rfl, np rfl rfl, np rfl rfl, np rfl rfl, np rfl rfl, np rfl rfl, np rfl rfl, np rfl rfl, np rfl rfl, np rfl rfl, np rfl rfl, np rfl rfl, npi rfl rfl (zj1 zb1r), np rfl rfl, np rfl rfl, np rfl rfl, np rfl rfl, npi rfl rfl (zj2 Go.Proofs.zb1u), np rfl rfl, np rfl rfl, np rfl rfl, np rfl rfl, np rfl rfl, np rfl rfl, np rfl rfl, np rfl rfl, np rfl rfl, npi rfl rfl (zj0 Go.Proofs.zb1t), npd rfl rfl (fun ds rs h => zb1q ds rs h), np rfl rfl, np rfl rfl, np rfl rfl, np rfl rfl, np rfl rfl, np rfl rfl, np rfl rfl, np rfl rfl, np rfl rfl, np rfl rfl, np rfl rfl, np rfl rfl, np rfl rfl, np rfl rfl, np rfl rfl, np rfl rfl, np rfl rfl, np rfl rfl, np rfl rfl, np rfl rfl, np rfl rfl, np rfl rfl, np rfl rfl, np rfl rfl, np rfl rfl, np rfl rfl, np rfl rfl, np rfl rfl, np rfl rfl, trivial⟩
end Go.Dvm.C
