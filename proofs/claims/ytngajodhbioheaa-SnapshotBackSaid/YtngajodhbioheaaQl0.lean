/- What each piece of the code comes to: part 1. -/
import Derived.Test.YtngajodhbioheaaQc0
set_option linter.all false
set_option maxRecDepth 100000
set_option maxHeartbeats 4000000
namespace Go.Dvm.C
open Go Go.Dvm
def ke := And.intro @Ow.enc.eq_1 <| And.intro @Sl.enc.eq_1 <| And.intro @I.zji.enc.eq_1 <| And.intro @I.zjj.enc.eq_1 <| And.intro @I.zjk.enc.eq_1 <| And.intro @I.zjl.enc.eq_1 <| And.intro @I.zjn.enc.eq_1 <| And.intro @I.zjm.enc.eq_1 <| And.intro @arrEnc.eq_1 <| @I.zjo.enc.eq_1
def kf := And.intro @ke @kn
def tab : List (Nat × MFun) := [(16, znb), (18, znd), (22, znf), (23, znw), (25, zny), (28, zn0), (31, zn4), (37, zok), (42, zom), (43, zpn), (44, zpp), (50, zpr), (52, zqc), (53, zqm), (54, zqo), (55, zrg), (57, zru), (58, zsc), (62, zse), (63, zsg), (67, zs0), (68, zs2), (69, zs4), (70, zte), (71, ztg), (72, zt6), (79, zuk), (80, zuw), (81, zuy), (82, zu0), (83, zu2), (84, zu4), (89, zu6), (90, zvy), (91, zwp), (92, zwz), (93, zx3), (95, zx5), (96, zx7), (97, zx9), (98, zyl), (99, zyn), (100, zys), (101, zzd), (102, z0b), (103, z1b), (104, z16), (106, z2b), (107, z2m), (108, z29), (109, z3e), (110, z3n), (116, z30), (117, z35), (134, z4s), (135, z5b), (136, z5w), (140, z6f), (141, z6y), (142, z7c), (143, z8c), (144, z8x), (145, z9g), (146, z9x), (147, z98), (148, zbal), (150, zbbd), (151, zbbi), (152, zbbn), (153, zbcl), (156, zbcw), (166, zbc5), (167, zbd2), (168, zbeb), (170, zbeu), (171, zbez), (174, zbfa), (175, zbff), (176, zbfk)]
abbrev T : Nat → Option MFun := look tab
theorem zbfl : T F.zml = some znb := rfl
theorem zbfm : T F.zkh = some znd := rfl
theorem zbfn : T F.zjz = some znf := rfl
theorem zbfo : T F.zkw = some znw := rfl
theorem zbfp : T F.zkf = some zny := rfl
theorem zbfq : T F.zl4 = some zn0 := rfl
theorem zbfr : T F.zj9 = some zn4 := rfl
theorem zbfs : T F.zl3 = some zok := rfl
theorem zbft : T F.zkc = some zom := rfl
theorem zbfu : T F.zmk = some zpn := rfl
theorem zbfv : T F.zkg = some zpp := rfl
theorem zbfw : T F.zj0 = some zpr := rfl
theorem zbfx : T F.zjv = some zqc := rfl
theorem zbfy : T F.zjy = some zqm := rfl
theorem zbfz : T F.zkj = some zqo := rfl
theorem zbf0 : T F.zkt = some zrg := rfl
theorem zbf1 : T F.zke = some zru := rfl
theorem zbf2 : T F.zlh = some zsc := rfl
theorem zbf3 : T F.zlo = some zse := rfl
theorem zbf4 : T F.zlu = some zsg := rfl
theorem zbf5 : T F.zmm = some zs0 := rfl
theorem zbf6 : T F.zj1 = some zs2 := rfl
theorem zbf7 : T F.zmn = some zs4 := rfl
theorem zbf8 : T F.zmo = some zte := rfl
theorem zbf9 : T F.zmp = some ztg := rfl
theorem zbga : T F.zj2 = some zt6 := rfl
theorem zbgb : T F.zkb = some zuk := rfl
theorem zbgc : T F.zlz = some zuw := rfl
theorem zbgd : T F.zlm = some zuy := rfl
theorem zbge : T F.zl0 = some zu0 := rfl
theorem zbgf : T F.zlc = some zu2 := rfl
theorem zbgg : T F.zk9 = some zu4 := rfl
theorem zbgh : T F.zl7 = some zu6 := rfl
theorem zbgi : T F.zma = some zvy := rfl
theorem zbgj : T F.zlt = some zwp := rfl
theorem zbgk : T F.zmc = some zwz := rfl
theorem zbgl : T F.zmj = some zx3 := rfl
theorem zbgm : T F.zmq = some zx5 := rfl
theorem zbgn : T F.zjq = some zx7 := rfl
theorem zbgo : T F.zjp = some zx9 := rfl
theorem zbgp : T F.zjs = some zyl := rfl
theorem zbgq : T F.zjw = some zyn := rfl
theorem zbgr : T F.zki = some zys := rfl
theorem zbgs : T F.zkk = some zzd := rfl
theorem zbgt : T F.zkm = some z0b := rfl
theorem zbgu : T F.zkq = some z1b := rfl
theorem zbgv : T F.zks = some z16 := rfl
theorem zbgw : T F.zk0 = some z2b := rfl
theorem zbgx : T F.zk3 = some z2m := rfl
theorem zbgy : T F.zlf = some z29 := rfl
theorem zbgz : T F.zld = some z3e := rfl
theorem zbg0 : T F.zlg = some z3n := rfl
theorem zbg1 : T F.zll = some z30 := rfl
theorem zbg2 : T F.zln = some z35 := rfl
theorem zbg3 : T F.zlx = some z4s := rfl
theorem zbg4 : T F.zlb = some z5b := rfl
theorem zbg5 : T F.zk8 = some z5w := rfl
theorem zbg6 : T F.zl6 = some z6f := rfl
theorem zbg7 : T F.zl9 = some z6y := rfl
theorem zbg8 : T F.zmr = some z7c := rfl
theorem zbg9 : T F.zmf = some z8c := rfl
theorem zbha : T F.zmg = some z8x := rfl
theorem zbhb : T F.zms = some z9g := rfl
theorem zbhc : T F.zkl = some z9x := rfl
theorem zbhd : T F.zkp = some z98 := rfl
theorem zbhe : T F.zko = some zbal := rfl
theorem zbhf : T F.zkr = some zbbd := rfl
theorem zbhg : T F.zmu = some zbbi := rfl
theorem zbhh : T F.zkx = some zbbn := rfl
theorem zbhi : T F.zk2 = some zbcl := rfl
theorem zbhj : T F.zlj = some zbcw := rfl
theorem zbhk : T F.zlv = some zbc5 := rfl
theorem zbhl : T F.zk6 = some zbd2 := rfl
theorem zbhm : T F.zmv = some zbeb := rfl
theorem zbhn : T F.zmw = some zbeu := rfl
theorem zbho : T F.zli = some zbez := rfl
theorem zbhp : T F.zmx = some zbfa := rfl
theorem zbhq : T F.zmy = some zbff := rfl
theorem zbhr : T F.zmz = some zbfk := rfl
def rg {P : Prop} {c c' : List MO} (h : c = c') (p : P) := ra (T := T) h p
def xg {P : Prop} {c c' : MC} (h : c = c') (p : P) := xa (T := T) h p
def zbhs := rg o_16_1.eq_1 <| rg o_16_2.eq_1 <| rg o_16_3.eq_1 <| rg o_16_4.eq_1 <| rg o_16_5.eq_1 <| xg c_16_6.eq_1 <| rg o_16_7.eq_1 <| rg o_16_8.eq_1 <| rg o_16_9.eq_1 <| xg zm0.eq_1 <| rg zm1.eq_1 <| rg zm2.eq_1 <| xg zm3.eq_1 <| xg zm4.eq_1 <| xg zm5.eq_1 <| xg zm6.eq_1 <| xg zm7.eq_1 <| xg zm8.eq_1 <| @ex_of T _ _ zm9.eq_1
def zbht := @vd T F.zml znb [0] zbfl rfl rfl
theorem zbhu : znb.res = [.tmp 2] ∧ znb.rets = [[]] ∧ znb.body = (.seq (.reg o_16_1) zm9) := ⟨rfl, rfl, rfl⟩
def zbhv := rg o_18_1.eq_1 <| rg o_18_2.eq_1 <| @ex_of T _ _ c_18_3.eq_1
def zbhw := @vd T F.zkh znd [0] zbfm rfl rfl
theorem zbhx : znd.res = [.tmp 2] ∧ znd.rets = [[]] ∧ znd.body = (.seq (.reg o_18_1) c_18_3) := ⟨rfl, rfl, rfl⟩
def zbhy := rg o_22_1.eq_1 <| rg o_22_2.eq_1 <| @ex_of T _ _ c_22_3.eq_1
def zbhz := @vd T F.zjz znf [0] zbfn rfl rfl
theorem zbh0 : znf.res = [.tmp 2] ∧ znf.rets = [[]] ∧ znf.body = (.seq (.reg o_22_1) c_22_3) := ⟨rfl, rfl, rfl⟩
def zbh1 := rg o_23_1.eq_1 <| rg o_23_2.eq_1 <| rg o_23_3.eq_1 <| rg o_23_4.eq_1 <| rg o_23_5.eq_1 <| rg o_23_6.eq_1 <| rg o_23_7.eq_1 <| rg o_23_8.eq_1 <| xg c_23_9.eq_1 <| xg zng.eq_1 <| rg znh.eq_1 <| rg zni.eq_1 <| And.intro (@df_of T _ _ [(1, 6)] zni.eq_1) <| xg znj.eq_1 <| xg znk.eq_1 <| xg znl.eq_1 <| rg znm.eq_1 <| xg znn.eq_1 <| xg zno.eq_1 <| xg znp.eq_1 <| xg znq.eq_1 <| xg znr.eq_1 <| rg zns.eq_1 <| xg znt.eq_1 <| @ex_of T _ _ znu.eq_1
def zbh2 := @vd T F.zkw znw [0, 0] zbfo rfl rfl
theorem zbh3 : znw.res = [.cell 4 6 true, .tmp 5] ∧ znw.rets = [[], []] ∧ znw.body = (.seq (.reg o_23_1) znu) := ⟨rfl, rfl, rfl⟩
def zbh4 := rg o_25_1.eq_1 <| rg o_25_2.eq_1 <| @ex_of T _ _ c_25_3.eq_1
def zbh5 := @vd T F.zkf zny [0, 0] zbfp rfl rfl
theorem zbh6 : zny.res = [.tmp 4] ∧ zny.rets = [[]] ∧ zny.body = (.seq (.reg o_25_1) c_25_3) := ⟨rfl, rfl, rfl⟩
def zbh7 := rg o_28_1.eq_1 <| rg o_28_2.eq_1 <| rg o_28_3.eq_1 <| rg o_28_4.eq_1 <| xg c_28_5.eq_1 <| xg c_28_6.eq_1 <| @ex_of T _ _ c_28_7.eq_1
def zbh8 := @vd T F.zl4 zn0 [] zbfq rfl rfl
theorem zbh9 : zn0.res = [.tmp 0] ∧ zn0.rets = [[]] ∧ zn0.body = (.seq (.reg o_28_1) c_28_7) := ⟨rfl, rfl, rfl⟩
def zbia := rg o_31_1.eq_1 <| rg o_31_2.eq_1 <| rg o_31_3.eq_1 <| rg o_31_4.eq_1 <| rg o_31_5.eq_1 <| xg c_31_6.eq_1 <| rg o_31_7.eq_1 <| xg c_31_8.eq_1 <| xg c_31_9.eq_1 <| xg zn1.eq_1 <| @ex_of T _ _ zn2.eq_1
def zbib := @vd T F.zj9 zn4 [0, 0] zbfr rfl rfl
theorem zbic : zn4.res = [.tmp 4] ∧ zn4.rets = [[4]] ∧ zn4.body = (.seq (.reg o_31_1) zn2) := ⟨rfl, rfl, rfl⟩
def zbid := rg o_37_1.eq_1 <| rg o_37_2.eq_1 <| rg o_37_3.eq_1 <| xg c_37_4.eq_1 <| rg o_37_5.eq_1 <| rg o_37_6.eq_1 <| And.intro (@df_of T _ _ [(3, 0), (3, 1), (6, 0), (6, 1), (6, 4)] o_37_6.eq_1) <| rg o_37_7.eq_1 <| rg o_37_8.eq_1 <| xg c_37_9.eq_1 <| rg zn5.eq_1 <| rg zn6.eq_1 <| rg zn7.eq_1 <| xg zn8.eq_1 <| xg zn9.eq_1 <| xg zoa.eq_1 <| xg zob.eq_1 <| rg zoc.eq_1 <| xg zod.eq_1 <| xg zoe.eq_1 <| xg zof.eq_1 <| xg zog.eq_1 <| xg zoh.eq_1 <| @ex_of T _ _ zoi.eq_1
def zbie := @vd T F.zl3 zok [0] zbfs rfl rfl
theorem zbif : zok.res = [.tmp 2, .tmp 3] ∧ zok.rets = [[2], []] ∧ zok.body = (.seq (.reg o_37_1) zoi) := ⟨rfl, rfl, rfl⟩
def zbig := rg o_42_1.eq_1 <| rg o_42_2.eq_1 <| @ex_of T _ _ c_42_3.eq_1
def zbih := @vd T F.zkc zom [0, 0] zbft rfl rfl
theorem zbii : zom.res = [.tmp 4] ∧ zom.rets = [[]] ∧ zom.body = (.seq (.reg o_42_1) c_42_3) := ⟨rfl, rfl, rfl⟩
def zbij := rg o_43_1.eq_1 <| rg o_43_2.eq_1 <| rg o_43_3.eq_1 <| rg o_43_4.eq_1 <| rg o_43_5.eq_1 <| rg o_43_6.eq_1 <| rg o_43_7.eq_1 <| xg c_43_8.eq_1 <| xg c_43_9.eq_1 <| rg zon.eq_1 <| rg zoo.eq_1 <| rg zop.eq_1 <| xg zoq.eq_1 <| rg zor.eq_1 <| rg zos.eq_1 <| rg zot.eq_1 <| rg zou.eq_1 <| rg zov.eq_1 <| rg zow.eq_1 <| And.intro (@dr_of T _ _ [(4, 1)] zow.eq_1 (by decide)) <| rg zox.eq_1 <| xg zoy.eq_1 <| xg zoz.eq_1 <| xg zo0.eq_1 <| rg zo1.eq_1 <| rg zo2.eq_1 <| rg zo3.eq_1 <| xg zo4.eq_1 <| rg zo5.eq_1 <| rg zo6.eq_1 <| rg zo7.eq_1 <| xg zo8.eq_1 <| xg zo9.eq_1 <| rg zpa.eq_1 <| xg zpb.eq_1 <| xg zpc.eq_1 <| xg zpd.eq_1 <| xg zpe.eq_1 <| xg zpf.eq_1 <| xg zpg.eq_1 <| xg zph.eq_1 <| xg zpi.eq_1 <| xg zpj.eq_1 <| xg zpk.eq_1 <| @ex_of T _ _ zpl.eq_1
def zbik := @vd T F.zmk zpn [0] zbfu rfl rfl
theorem zbil : zpn.res = [.cell 2 6 true, .tmp 3] ∧ zpn.rets = [[], []] ∧ zpn.body = (.seq (.reg o_43_1) zpl) := ⟨rfl, rfl, rfl⟩
def zbim := rg o_44_1.eq_1 <| rg o_44_2.eq_1 <| @ex_of T _ _ c_44_3.eq_1
def zbin := @vd T F.zkg zpp [0] zbfv rfl rfl
theorem zbio : zpp.res = [.tmp 2] ∧ zpp.rets = [[]] ∧ zpp.body = (.seq (.reg o_44_1) c_44_3) := ⟨rfl, rfl, rfl⟩
def zbip := rg o_50_1.eq_1 <| rg o_50_2.eq_1 <| rg o_50_3.eq_1 <| xg c_50_4.eq_1 <| rg o_50_5.eq_1 <| xg c_50_6.eq_1 <| @ex_of T _ _ c_50_7.eq_1
def zbiq := @vd T F.zj0 zpr [0] zbfw rfl rfl
theorem zbir : zpr.res = [.tmp 2] ∧ zpr.rets = [[2]] ∧ zpr.body = (.seq (.reg o_50_1) c_50_7) := ⟨rfl, rfl, rfl⟩
def zbis := rg o_52_1.eq_1 <| rg o_52_2.eq_1 <| rg o_52_3.eq_1 <| xg c_52_4.eq_1 <| rg o_52_5.eq_1 <| rg o_52_6.eq_1 <| rg o_52_7.eq_1 <| rg o_52_8.eq_1 <| xg c_52_9.eq_1 <| rg zps.eq_1 <| rg zpt.eq_1 <| rg zpu.eq_1 <| xg zpv.eq_1 <| rg zpw.eq_1 <| rg zpx.eq_1 <| rg zpy.eq_1 <| rg zpz.eq_1 <| rg zp0.eq_1 <| xg zp1.eq_1 <| xg zp2.eq_1 <| xg zp3.eq_1 <| xg zp4.eq_1 <| xg zp5.eq_1 <| rg zp6.eq_1 <| xg zp7.eq_1 <| xg zp8.eq_1 <| xg zp9.eq_1 <| @ex_of T _ _ zqa.eq_1
def zbit := @vd T F.zjv zqc [0] zbfx rfl rfl
theorem zbiu : zqc.res = [.tmp 2] ∧ zqc.rets = [[]] ∧ zqc.body = (.seq (.reg o_52_1) zqa) := ⟨rfl, rfl, rfl⟩
def zbiv := rg o_53_1.eq_1 <| rg o_53_2.eq_1 <| rg o_53_3.eq_1 <| rg o_53_4.eq_1 <| rg o_53_5.eq_1 <| rg o_53_6.eq_1 <| xg c_53_7.eq_1 <| xg c_53_8.eq_1 <| rg o_53_9.eq_1 <| xg zqd.eq_1 <| xg zqe.eq_1 <| xg zqf.eq_1 <| xg zqg.eq_1 <| xg zqh.eq_1 <| rg zqi.eq_1 <| xg zqj.eq_1 <| @ex_of T _ _ zqk.eq_1
def zbiw := @vd T F.zjy zqm [0] zbfy rfl rfl
theorem zbix : zqm.res = [.tmp 2] ∧ zqm.rets = [[]] ∧ zqm.body = (.seq (.reg o_53_1) zqk) := ⟨rfl, rfl, rfl⟩
def zbiy := rg o_54_1.eq_1 <| rg o_54_2.eq_1 <| @ex_of T _ _ c_54_3.eq_1
def zbiz := @vd T F.zkj zqo [0] zbfz rfl rfl
theorem zbi0 : zqo.res = [.tmp 2] ∧ zqo.rets = [[]] ∧ zqo.body = (.seq (.reg o_54_1) c_54_3) := ⟨rfl, rfl, rfl⟩
def zbi1 := rg o_55_1.eq_1 <| rg o_55_2.eq_1 <| rg o_55_3.eq_1 <| rg o_55_4.eq_1 <| rg o_55_5.eq_1 <| rg o_55_6.eq_1 <| rg o_55_7.eq_1 <| rg o_55_8.eq_1 <| rg o_55_9.eq_1 <| xg zqp.eq_1 <| rg zqq.eq_1 <| xg zqr.eq_1 <| xg zqs.eq_1 <| xg zqt.eq_1 <| xg zqu.eq_1 <| xg zqv.eq_1 <| rg zqw.eq_1 <| rg zqx.eq_1 <| rg zqy.eq_1 <| xg zqz.eq_1 <| rg zq0.eq_1 <| rg zq1.eq_1 <| rg zq2.eq_1 <| xg zq3.eq_1 <| rg zq4.eq_1 <| rg zq5.eq_1 <| rg zq6.eq_1 <| xg zq7.eq_1 <| xg zq8.eq_1 <| xg zq9.eq_1 <| xg zra.eq_1 <| rg zrb.eq_1 <| xg zrc.eq_1 <| xg zrd.eq_1 <| @ex_of T _ _ zre.eq_1
def zbi2 := @vd T F.zkt zrg [0, 0] zbf0 rfl rfl
theorem zbi3 : zrg.res = [.cell 4 4 true, .tmp 5] ∧ zrg.rets = [[], []] ∧ zrg.body = (.seq (.reg o_55_1) zre) := ⟨rfl, rfl, rfl⟩
def zbi4 := rg o_57_1.eq_1 <| rg o_57_2.eq_1 <| rg o_57_3.eq_1 <| xg c_57_4.eq_1 <| rg o_57_5.eq_1 <| rg o_57_6.eq_1 <| rg o_57_7.eq_1 <| rg o_57_8.eq_1 <| rg o_57_9.eq_1 <| xg zrh.eq_1 <| xg zri.eq_1 <| rg zrj.eq_1 <| xg zrk.eq_1 <| xg zrl.eq_1 <| xg zrm.eq_1 <| xg zrn.eq_1 <| xg zro.eq_1 <| rg zrp.eq_1 <| xg zrq.eq_1 <| xg zrr.eq_1 <| @ex_of T _ _ zrs.eq_1
def zbi5 := @vd T F.zke zru [0, 0] zbf1 rfl rfl
theorem zbi6 : zru.res = [.tmp 4] ∧ zru.rets = [[]] ∧ zru.body = (.seq (.reg o_57_1) zrs) := ⟨rfl, rfl, rfl⟩
def zbi7 := rg o_58_1.eq_1 <| rg o_58_2.eq_1 <| rg o_58_3.eq_1 <| xg c_58_4.eq_1 <| rg o_58_5.eq_1 <| rg o_58_6.eq_1 <| rg o_58_7.eq_1 <| rg o_58_8.eq_1 <| rg o_58_9.eq_1 <| rg zrv.eq_1 <| rg zrw.eq_1 <| xg zrx.eq_1 <| xg zry.eq_1 <| xg zrz.eq_1 <| rg zr0.eq_1 <| rg zr1.eq_1 <| And.intro (@df_of T _ _ [(5, 8)] zr1.eq_1) <| rg zr2.eq_1 <| xg zr3.eq_1 <| rg zr4.eq_1 <| xg zr5.eq_1 <| xg zr6.eq_1 <| xg zr7.eq_1 <| xg zr8.eq_1 <| xg zr9.eq_1 <| @ex_of T _ _ zsa.eq_1
def zbi8 := @vd T F.zlh zsc [0] zbf2 rfl rfl
theorem zbi9 : zsc.res = [.tmp 2, .tmp 3, .tmp 4] ∧ zsc.rets = [[2], [], []] ∧ zsc.body = (.seq (.reg o_58_1) zsa) := ⟨rfl, rfl, rfl⟩
def zbja := rg o_62_1.eq_1 <| rg o_62_2.eq_1 <| @ex_of T _ _ c_62_3.eq_1
def zbjb := @vd T F.zlo zse [2, 0] zbf3 rfl rfl
theorem zbjc : zse.res = [.tmp 4] ∧ zse.rets = [[2]] ∧ zse.body = (.seq (.reg o_62_1) c_62_3) := ⟨rfl, rfl, rfl⟩
def zbjd := rg o_63_1.eq_1 <| rg o_63_2.eq_1 <| rg o_63_3.eq_1 <| xg c_63_4.eq_1 <| rg o_63_5.eq_1 <| rg o_63_6.eq_1 <| xg c_63_7.eq_1 <| xg c_63_8.eq_1 <| @ex_of T _ _ c_63_9.eq_1
def zbje := @vd T F.zlu zsg [0] zbf4 rfl rfl
theorem zbjf : zsg.res = [.tmp 2, .tmp 3] ∧ zsg.rets = [[2], []] ∧ zsg.body = (.seq (.reg o_63_1) c_63_9) := ⟨rfl, rfl, rfl⟩
def zbjg := rg o_67_1.eq_1 <| rg o_67_2.eq_1 <| rg o_67_3.eq_1 <| rg o_67_4.eq_1 <| xg c_67_5.eq_1 <| rg o_67_6.eq_1 <| rg o_67_7.eq_1 <| xg c_67_8.eq_1 <| rg o_67_9.eq_1 <| rg zsh.eq_1 <| rg zsi.eq_1 <| rg zsj.eq_1 <| xg zsk.eq_1 <| xg zsl.eq_1 <| xg zsm.eq_1 <| rg zsn.eq_1 <| xg zso.eq_1 <| xg zsp.eq_1 <| xg zsq.eq_1 <| xg zsr.eq_1 <| rg zss.eq_1 <| rg zst.eq_1 <| xg zsu.eq_1 <| xg zsv.eq_1 <| xg zsw.eq_1 <| xg zsx.eq_1 <| @ex_of T _ _ zsy.eq_1
def zbjh := @vi T F.zmm zs0 zbf5 rfl
theorem zbji {n : Nat} {H : Hp} {vs : List V} : (orc T (n + 1)).inl F.zmm vs H = finI H.length true [.tmp 4] (unw T (orc T n) n H.length [] (exec T (orc T n) n H.length (.seq (.reg o_67_1) zsy) (params 0 vs) H)) := by rw [zht, zbf5, y4, zhr]; rfl
def zbjj := rg o_68_1.eq_1 <| rg o_68_2.eq_1 <| rg o_68_3.eq_1 <| xg c_68_4.eq_1 <| rg o_68_5.eq_1 <| xg c_68_6.eq_1 <| @ex_of T _ _ c_68_7.eq_1
def zbjk := @vd T F.zj1 zs2 [0] zbf6 rfl rfl
theorem zbjl : zs2.res = [.tmp 2] ∧ zs2.rets = [[4]] ∧ zs2.body = (.seq (.reg o_68_1) c_68_7) := ⟨rfl, rfl, rfl⟩
def zbjm := rg o_69_1.eq_1 <| rg o_69_2.eq_1 <| @ex_of T _ _ c_69_3.eq_1
def zbjn := @vi T F.zmn zs4 zbf7 rfl
theorem zbjo {n : Nat} {H : Hp} {vs : List V} : (orc T (n + 1)).inl F.zmn vs H = finI H.length false [.tmp 3] (unw T (orc T n) n H.length [] (exec T (orc T n) n H.length (.seq (.reg o_69_1) c_69_3) (params 0 vs) H)) := by rw [zht, zbf7, y4, zhr]; rfl
def zbjp := rg o_70_1.eq_1 <| rg o_70_2.eq_1 <| rg o_70_3.eq_1 <| rg o_70_4.eq_1 <| rg o_70_5.eq_1 <| rg o_70_6.eq_1 <| xg c_70_7.eq_1 <| xg c_70_8.eq_1 <| rg o_70_9.eq_1 <| xg zs5.eq_1 <| xg zs6.eq_1 <| xg zs7.eq_1 <| xg zs8.eq_1 <| xg zs9.eq_1 <| rg zta.eq_1 <| xg ztb.eq_1 <| @ex_of T _ _ ztc.eq_1
def zbjq := @vi T F.zmo zte zbf8 rfl
theorem zbjr {n : Nat} {H : Hp} {vs : List V} : (orc T (n + 1)).inl F.zmo vs H = finI H.length false [.tmp 4] (unw T (orc T n) n H.length [] (exec T (orc T n) n H.length (.seq (.reg o_70_1) ztc) (params 0 vs) H)) := by rw [zht, zbf8, y4, zhr]; rfl
def zbjs := rg o_71_1.eq_1 <| rg o_71_2.eq_1 <| @ex_of T _ _ c_71_3.eq_1
def zbjt := @vi T F.zmp ztg zbf9 rfl
theorem zbju {n : Nat} {H : Hp} {vs : List V} : (orc T (n + 1)).inl F.zmp vs H = finI H.length false [.tmp 3] (unw T (orc T n) n H.length [] (exec T (orc T n) n H.length (.seq (.reg o_71_1) c_71_3) (params 0 vs) H)) := by rw [zht, zbf9, y4, zhr]; rfl
def zbjv := rg o_72_1.eq_1 <| rg o_72_2.eq_1 <| rg o_72_3.eq_1 <| rg o_72_4.eq_1 <| rg o_72_5.eq_1 <| xg c_72_6.eq_1 <| rg o_72_7.eq_1 <| rg o_72_8.eq_1 <| rg o_72_9.eq_1 <| xg zth.eq_1 <| rg zti.eq_1 <| rg ztj.eq_1 <| xg ztk.eq_1 <| xg ztl.eq_1 <| xg ztm.eq_1 <| xg ztn.eq_1 <| rg zto.eq_1 <| rg ztp.eq_1 <| xg ztq.eq_1 <| xg ztr.eq_1 <| xg zts.eq_1 <| rg ztt.eq_1 <| xg ztu.eq_1 <| xg ztv.eq_1 <| xg ztw.eq_1 <| xg ztx.eq_1 <| xg zty.eq_1 <| xg ztz.eq_1 <| xg zt0.eq_1 <| xg zt1.eq_1 <| xg zt2.eq_1 <| xg zt3.eq_1 <| @ex_of T _ _ zt4.eq_1
def zbjw := @vd T F.zj2 zt6 [4, 0, 0] zbga rfl rfl
theorem zbjx : zt6.res = [.tmp 6] ∧ zt6.rets = [[4]] ∧ zt6.body = (.seq (.reg o_72_1) zt4) := ⟨rfl, rfl, rfl⟩
def zbjy := rg o_79_1.eq_1 <| rg o_79_2.eq_1 <| rg o_79_3.eq_1 <| xg c_79_4.eq_1 <| rg o_79_5.eq_1 <| rg o_79_6.eq_1 <| rg o_79_7.eq_1 <| rg o_79_8.eq_1 <| rg o_79_9.eq_1 <| xg zt7.eq_1 <| xg zt8.eq_1 <| rg zt9.eq_1 <| xg zua.eq_1 <| xg zub.eq_1 <| xg zuc.eq_1 <| xg zud.eq_1 <| xg zue.eq_1 <| rg zuf.eq_1 <| xg zug.eq_1 <| xg zuh.eq_1 <| @ex_of T _ _ zui.eq_1
def zbjz := @vd T F.zkb zuk [0, 0] zbgb rfl rfl
theorem zbj0 : zuk.res = [.tmp 4] ∧ zuk.rets = [[]] ∧ zuk.body = (.seq (.reg o_79_1) zui) := ⟨rfl, rfl, rfl⟩
def zbj1 := rg o_80_1.eq_1 <| rg o_80_2.eq_1 <| rg o_80_3.eq_1 <| And.intro (@df_of T _ _ [(6, 2), (6, 4), (7, 2), (7, 4)] o_80_3.eq_1) <| rg o_80_4.eq_1 <| rg o_80_5.eq_1 <| rg o_80_6.eq_1 <| rg o_80_7.eq_1 <| And.intro (@df_of T _ _ [(5, 3), (8, 3), (8, 6)] o_80_7.eq_1) <| xg c_80_8.eq_1 <| rg o_80_9.eq_1 <| xg zul.eq_1 <| xg zum.eq_1 <| xg zun.eq_1 <| xg zuo.eq_1 <| xg zup.eq_1 <| rg zuq.eq_1 <| xg zur.eq_1 <| xg zus.eq_1 <| xg zut.eq_1 <| @ex_of T _ _ zuu.eq_1
def zbj2 := @vd T F.zlz zuw [0] zbgc rfl rfl
theorem zbj3 : zuw.res = [.tmp 2] ∧ zuw.rets = [[2]] ∧ zuw.body = (.seq (.reg o_80_1) zuu) := ⟨rfl, rfl, rfl⟩
def zbj4 := rg o_81_1.eq_1 <| rg o_81_2.eq_1 <| rg o_81_3.eq_1 <| xg c_81_4.eq_1 <| rg o_81_5.eq_1 <| xg c_81_6.eq_1 <| @ex_of T _ _ c_81_7.eq_1
def zbj5 := @vd T F.zlm zuy [2, 0] zbgd rfl rfl
theorem zbj6 : zuy.res = [.tmp 4] ∧ zuy.rets = [[2]] ∧ zuy.body = (.seq (.reg o_81_1) c_81_7) := ⟨rfl, rfl, rfl⟩
def zbj7 := rg o_82_1.eq_1 <| rg o_82_2.eq_1 <| rg o_82_3.eq_1 <| xg c_82_4.eq_1 <| @ex_of T _ _ c_82_5.eq_1
def zbj8 := @vd T F.zl0 zu0 [0] zbge rfl rfl
theorem zbj9 : zu0.res = [.tmp 2] ∧ zu0.rets = [[2]] ∧ zu0.body = (.seq (.reg o_82_1) c_82_5) := ⟨rfl, rfl, rfl⟩
def zbka := rg o_83_1.eq_1 <| rg o_83_2.eq_1 <| @ex_of T _ _ c_83_3.eq_1
def zbkb := @vd T F.zlc zu2 [0] zbgf rfl rfl
theorem zbkc : zu2.res = [.tmp 2] ∧ zu2.rets = [[2]] ∧ zu2.body = (.seq (.reg o_83_1) c_83_3) := ⟨rfl, rfl, rfl⟩
def zbkd := rg o_84_1.eq_1 <| rg o_84_2.eq_1 <| @ex_of T _ _ c_84_3.eq_1
def zbke := @vd T F.zk9 zu4 [0] zbgg rfl rfl
theorem zbkf : zu4.res = [.tmp 2] ∧ zu4.rets = [[]] ∧ zu4.body = (.seq (.reg o_84_1) c_84_3) := ⟨rfl, rfl, rfl⟩
def zbkg := rg o_89_1.eq_1 <| rg o_89_2.eq_1 <| rg o_89_3.eq_1 <| rg o_89_4.eq_1 <| xg c_89_5.eq_1 <| rg o_89_6.eq_1 <| xg c_89_7.eq_1 <| xg c_89_8.eq_1 <| @ex_of T _ _ c_89_9.eq_1
def zbkh := @vd T F.zl7 zu6 [0] zbgh rfl rfl
theorem zbki : zu6.res = [.tmp 2, .tmp 3] ∧ zu6.rets = [[2], []] ∧ zu6.body = (.seq (.reg o_89_1) c_89_9) := ⟨rfl, rfl, rfl⟩
def zbkj := rg o_90_1.eq_1 <| rg o_90_2.eq_1 <| rg o_90_3.eq_1 <| xg c_90_4.eq_1 <| rg o_90_5.eq_1 <| rg o_90_6.eq_1 <| rg o_90_7.eq_1 <| rg o_90_8.eq_1 <| rg o_90_9.eq_1 <| rg zu7.eq_1 <| rg zu8.eq_1 <| rg zu9.eq_1 <| rg zva.eq_1 <| rg zvb.eq_1 <| rg zvc.eq_1 <| rg zvd.eq_1 <| rg zve.eq_1 <| rg zvf.eq_1 <| xg zvg.eq_1 <| xg zvh.eq_1 <| xg zvi.eq_1 <| rg zvj.eq_1 <| rg zvk.eq_1 <| xg zvl.eq_1 <| xg zvm.eq_1 <| xg zvn.eq_1 <| xg zvo.eq_1 <| xg zvp.eq_1 <| xg zvq.eq_1 <| xg zvr.eq_1 <| xg zvs.eq_1 <| xg zvt.eq_1 <| xg zvu.eq_1 <| xg zvv.eq_1 <| @ex_of T _ _ zvw.eq_1
def zbkk := @vd T F.zma zvy [0] zbgi rfl rfl
theorem zbkl : zvy.res = [.cell 2 3 true, .tmp 3] ∧ zvy.rets = [[], []] ∧ zvy.body = (.seq (.reg o_90_1) zvw) := ⟨rfl, rfl, rfl⟩
def zbkm := rg o_91_1.eq_1 <| rg o_91_2.eq_1 <| rg o_91_3.eq_1 <| rg o_91_4.eq_1 <| rg o_91_5.eq_1 <| rg o_91_6.eq_1 <| rg o_91_7.eq_1 <| xg c_91_8.eq_1 <| xg c_91_9.eq_1 <| xg zvz.eq_1 <| rg zv0.eq_1 <| xg zv1.eq_1 <| xg zv2.eq_1 <| xg zv3.eq_1 <| xg zv4.eq_1 <| xg zv5.eq_1 <| rg zv6.eq_1 <| rg zv7.eq_1 <| rg zv8.eq_1 <| rg zv9.eq_1 <| rg zwa.eq_1 <| xg zwb.eq_1 <| rg zwc.eq_1 <| xg zwd.eq_1 <| xg zwe.eq_1 <| xg zwf.eq_1 <| xg zwg.eq_1 <| xg zwh.eq_1 <| rg zwi.eq_1 <| xg zwj.eq_1 <| xg zwk.eq_1 <| xg zwl.eq_1 <| xg zwm.eq_1 <| @ex_of T _ _ zwn.eq_1
def zbkn := @vd T F.zlt zwp [0] zbgj rfl rfl
theorem zbko : zwp.res = [.tmp 2] ∧ zwp.rets = [[2]] ∧ zwp.body = (.seq (.reg o_91_1) zwn) := ⟨rfl, rfl, rfl⟩
def zbkp := rg o_92_1.eq_1 <| rg o_92_2.eq_1 <| rg o_92_3.eq_1 <| rg o_92_4.eq_1 <| rg o_92_5.eq_1 <| rg o_92_6.eq_1 <| xg c_92_7.eq_1 <| xg c_92_8.eq_1 <| rg o_92_9.eq_1 <| xg zwq.eq_1 <| xg zwr.eq_1 <| xg zws.eq_1 <| xg zwt.eq_1 <| xg zwu.eq_1 <| rg zwv.eq_1 <| xg zww.eq_1 <| @ex_of T _ _ zwx.eq_1
def zbkq := @vd T F.zmc zwz [0] zbgk rfl rfl
theorem zbkr : zwz.res = [.tmp 2] ∧ zwz.rets = [[]] ∧ zwz.body = (.seq (.reg o_92_1) zwx) := ⟨rfl, rfl, rfl⟩
def zbks := rg o_93_1.eq_1 <| rg o_93_2.eq_1 <| rg o_93_3.eq_1 <| rg o_93_4.eq_1 <| xg c_93_5.eq_1 <| rg o_93_6.eq_1 <| rg o_93_7.eq_1 <| rg o_93_8.eq_1 <| xg c_93_9.eq_1 <| rg zw0.eq_1 <| rg zw1.eq_1 <| rg zw2.eq_1 <| rg zw3.eq_1 <| xg zw4.eq_1 <| rg zw5.eq_1 <| rg zw6.eq_1 <| rg zw7.eq_1 <| rg zw8.eq_1 <| rg zw9.eq_1 <| rg zxa.eq_1 <| xg zxb.eq_1 <| rg zxc.eq_1 <| And.intro (@df_of T _ _ [(1, 3), (7, 3), (7, 4), (7, 9)] zxc.eq_1) <| xg zxd.eq_1 <| xg zxe.eq_1 <| rg zxf.eq_1 <| xg zxg.eq_1 <| xg zxh.eq_1 <| xg zxi.eq_1 <| xg zxj.eq_1 <| xg zxk.eq_1 <| rg zxl.eq_1 <| rg zxm.eq_1 <| xg zxn.eq_1 <| rg zxo.eq_1 <| rg zxp.eq_1 <| xg zxq.eq_1 <| xg zxr.eq_1 <| xg zxs.eq_1 <| xg zxt.eq_1 <| xg zxu.eq_1 <| xg zxv.eq_1 <| xg zxw.eq_1 <| xg zxx.eq_1 <| xg zxy.eq_1 <| xg zxz.eq_1 <| xg zx0.eq_1 <| @ex_of T _ _ zx1.eq_1
def zbkt := @vd T F.zmj zx3 [0] zbgl rfl rfl
theorem zbku : zx3.res = [.cell 2 6 true, .tmp 3] ∧ zx3.rets = [[], []] ∧ zx3.body = (.seq (.reg o_93_1) zx1) := ⟨rfl, rfl, rfl⟩
def zbkv := rg o_95_1.eq_1 <| rg o_95_2.eq_1 <| @ex_of T _ _ c_95_3.eq_1
def zbkw := @vi T F.zmq zx5 zbgm rfl
theorem zbkx {n : Nat} {H : Hp} {vs : List V} : (orc T (n + 1)).inl F.zmq vs H = finI H.length false [.tmp 4] (unw T (orc T n) n H.length [] (exec T (orc T n) n H.length (.seq (.reg o_95_1) c_95_3) (params 0 vs) H)) := by rw [zht, zbgm, y4, zhr]; rfl
def zbky := rg o_96_1.eq_1 <| rg o_96_2.eq_1 <| @ex_of T _ _ c_96_3.eq_1
def zbkz := @vd T F.zjq zx7 [0] zbgn rfl rfl
theorem zbk0 : zx7.res = [.tmp 2] ∧ zx7.rets = [[]] ∧ zx7.body = (.seq (.reg o_96_1) c_96_3) := ⟨rfl, rfl, rfl⟩
def zbk1 := rg o_97_1.eq_1 <| rg o_97_2.eq_1 <| @ex_of T _ _ c_97_3.eq_1
def zbk2 := @vd T F.zjp zx9 [0] zbgo rfl rfl
theorem zbk3 : zx9.res = [.tmp 2] ∧ zx9.rets = [[]] ∧ zx9.body = (.seq (.reg o_97_1) c_97_3) := ⟨rfl, rfl, rfl⟩
def zbk4 := rg o_98_1.eq_1 <| rg o_98_2.eq_1 <| rg o_98_3.eq_1 <| rg o_98_4.eq_1 <| xg c_98_5.eq_1 <| rg o_98_6.eq_1 <| rg o_98_7.eq_1 <| xg c_98_8.eq_1 <| rg o_98_9.eq_1 <| xg zya.eq_1 <| rg zyb.eq_1 <| xg zyc.eq_1 <| xg zyd.eq_1 <| xg zye.eq_1 <| xg zyf.eq_1 <| rg zyg.eq_1 <| xg zyh.eq_1 <| xg zyi.eq_1 <| @ex_of T _ _ zyj.eq_1
def zbk5 := @vd T F.zjs zyl [0, 0] zbgp rfl rfl
theorem zbk6 : zyl.res = [.tmp 4] ∧ zyl.rets = [[]] ∧ zyl.body = (.seq (.reg o_98_1) zyj) := ⟨rfl, rfl, rfl⟩
def zbk7 := rg o_99_1.eq_1 <| rg o_99_2.eq_1 <| @ex_of T _ _ c_99_3.eq_1
def zbk8 := @vd T F.zjw zyn [0] zbgq rfl rfl
theorem zbk9 : zyn.res = [.tmp 2] ∧ zyn.rets = [[]] ∧ zyn.body = (.seq (.reg o_99_1) c_99_3) := ⟨rfl, rfl, rfl⟩
def zbla := rg zyo.eq_1 <| rg zyp.eq_1 <| And.intro (@dr_of T _ _ [(10, 13), (18, 21)] zyp.eq_1 (by decide)) <| @ex_of T _ _ zyq.eq_1
def zblb := @vd T F.zki zys [0] zbgr rfl rfl
theorem zblc : zys.res = [.tmp 2] ∧ zys.rets = [[]] ∧ zys.body = (.seq (.reg zyo) zyq) := ⟨rfl, rfl, rfl⟩
def zbld := rg zyt.eq_1 <| rg zyu.eq_1 <| rg zyv.eq_1 <| rg zyw.eq_1 <| rg zyx.eq_1 <| rg zyy.eq_1 <| rg zyz.eq_1 <| xg zy0.eq_1 <| rg zy1.eq_1 <| rg zy2.eq_1 <| rg zy3.eq_1 <| xg zy4.eq_1 <| xg zy5.eq_1 <| xg zy6.eq_1 <| xg zy7.eq_1 <| rg zy8.eq_1 <| xg zy9.eq_1 <| xg zza.eq_1 <| @ex_of T _ _ zzb.eq_1
def zble := @vd T F.zkk zzd [0, 0] zbgs rfl rfl
theorem zblf : zzd.res = [.cell 4 4 true, .tmp 5] ∧ zzd.rets = [[], []] ∧ zzd.body = (.seq (.reg zyt) zzb) := ⟨rfl, rfl, rfl⟩
def zblg := rg zze.eq_1 <| rg zzf.eq_1 <| rg zzg.eq_1 <| rg zzh.eq_1 <| rg zzi.eq_1 <| rg zzj.eq_1 <| And.intro (@df_of T _ _ [(4, 2)] zzj.eq_1) <| rg zzk.eq_1 <| xg zzl.eq_1 <| rg zzm.eq_1 <| rg zzn.eq_1 <| xg zzo.eq_1 <| rg zzp.eq_1 <| rg zzq.eq_1 <| rg zzr.eq_1 <| xg zzs.eq_1 <| xg zzt.eq_1 <| xg zzu.eq_1 <| xg zzv.eq_1 <| rg zzw.eq_1 <| rg zzx.eq_1 <| rg zzy.eq_1 <| xg zzz.eq_1 <| rg zz0.eq_1 <| rg zz1.eq_1 <| rg zz2.eq_1 <| xg zz3.eq_1 <| xg zz4.eq_1 <| xg zz5.eq_1 <| xg zz6.eq_1 <| xg zz7.eq_1 <| xg zz8.eq_1 <| @ex_of T _ _ zz9.eq_1
def zblh := @vd T F.zkm z0b [0, 0] zbgt rfl rfl
theorem zbli : z0b.res = [.cell 4 4 true, .tmp 5] ∧ z0b.rets = [[], []] ∧ z0b.body = (.seq (.reg zze) zz9) := ⟨rfl, rfl, rfl⟩
def zblj := rg z0c.eq_1 <| rg z0d.eq_1 <| rg z0e.eq_1 <| rg z0f.eq_1 <| rg z0g.eq_1 <| xg z0h.eq_1 <| xg z0i.eq_1 <| rg z0j.eq_1 <| xg z0k.eq_1 <| xg z0l.eq_1 <| rg z0m.eq_1 <| rg z0n.eq_1 <| xg z0o.eq_1 <| rg z0p.eq_1 <| rg z0q.eq_1 <| rg z0r.eq_1 <| rg z0s.eq_1 <| rg z0t.eq_1 <| rg z0u.eq_1 <| And.intro (@dr_of T _ _ [(1, 6), (3, 6)] z0u.eq_1 (by decide)) <| rg z0v.eq_1 <| rg z0w.eq_1 <| xg z0x.eq_1 <| rg z0y.eq_1 <| xg z0z.eq_1 <| xg z00.eq_1 <| xg z01.eq_1 <| xg z02.eq_1 <| xg z03.eq_1 <| rg z04.eq_1 <| xg z05.eq_1 <| xg z06.eq_1 <| xg z07.eq_1 <| xg z08.eq_1 <| @ex_of T _ _ z09.eq_1
def zblk := @vd T F.zkq z1b [0, 0] zbgu rfl rfl
theorem zbll : z1b.res = [.cell 4 4 true, .tmp 5] ∧ z1b.rets = [[], []] ∧ z1b.body = (.seq (.reg z0c) z09) := ⟨rfl, rfl, rfl⟩
def zblm := rg z1c.eq_1 <| rg z1d.eq_1 <| rg z1e.eq_1 <| rg z1f.eq_1 <| rg z1g.eq_1 <| rg z1h.eq_1 <| rg z1i.eq_1 <| rg z1j.eq_1 <| rg z1k.eq_1 <| And.intro (@df_of T _ _ [(0, 5)] z1k.eq_1) <| rg z1l.eq_1 <| rg z1m.eq_1 <| xg z1n.eq_1 <| xg z1o.eq_1 <| xg z1p.eq_1 <| xg z1q.eq_1 <| xg z1r.eq_1 <| rg z1s.eq_1 <| And.intro (@dr_of T _ _ [(7, 4)] z1s.eq_1 (by decide)) <| rg z1t.eq_1 <| rg z1u.eq_1 <| rg z1v.eq_1 <| xg z1w.eq_1 <| rg z1x.eq_1 <| rg z1y.eq_1 <| xg z1z.eq_1 <| xg z10.eq_1 <| xg z11.eq_1 <| xg z12.eq_1 <| xg z13.eq_1 <| @ex_of T _ _ z14.eq_1
def zbln := @vd T F.zks z16 [0, 0] zbgv rfl rfl
theorem zblo : z16.res = [.cell 4 4 true, .tmp 5] ∧ z16.rets = [[], []] ∧ z16.body = (.seq (.reg z1c) z14) := ⟨rfl, rfl, rfl⟩
def zblp := rg z17.eq_1 <| rg z18.eq_1 <| @ex_of T _ _ z19.eq_1
def zblq := @vd T F.zk0 z2b [0] zbgw rfl rfl
theorem zblr : z2b.res = [.tmp 2] ∧ z2b.rets = [[]] ∧ z2b.body = (.seq (.reg z17) z19) := ⟨rfl, rfl, rfl⟩
def zbls := rg z2c.eq_1 <| rg z2d.eq_1 <| rg z2e.eq_1 <| rg z2f.eq_1 <| xg z2g.eq_1 <| rg z2h.eq_1 <| xg z2i.eq_1 <| xg z2j.eq_1 <| @ex_of T _ _ z2k.eq_1
def zblt := @vd T F.zk3 z2m [0] zbgx rfl rfl
theorem zblu : z2m.res = [.tmp 2, .tmp 3] ∧ z2m.rets = [[], []] ∧ z2m.body = (.seq (.reg z2c) z2k) := ⟨rfl, rfl, rfl⟩
def zblv := rg z2n.eq_1 <| rg z2o.eq_1 <| rg z2p.eq_1 <| xg z2q.eq_1 <| rg z2r.eq_1 <| rg z2s.eq_1 <| rg z2t.eq_1 <| rg z2u.eq_1 <| rg z2v.eq_1 <| xg z2w.eq_1 <| xg z2x.eq_1 <| rg z2y.eq_1 <| xg z2z.eq_1 <| xg z20.eq_1 <| xg z21.eq_1 <| xg z22.eq_1 <| xg z23.eq_1 <| rg z24.eq_1 <| xg z25.eq_1 <| xg z26.eq_1 <| @ex_of T _ _ z27.eq_1
def zblw := @vd T F.zlf z29 [0, 0] zbgy rfl rfl
theorem zblx : z29.res = [.tmp 4] ∧ z29.rets = [[]] ∧ z29.body = (.seq (.reg z2n) z27) := ⟨rfl, rfl, rfl⟩
def zbly := rg z3a.eq_1 <| rg z3b.eq_1 <| @ex_of T _ _ z3c.eq_1
def zblz := @vd T F.zld z3e [0, 0] zbgz rfl rfl
theorem zbl0 : z3e.res = [.tmp 4] ∧ z3e.rets = [[2]] ∧ z3e.body = (.seq (.reg z3a) z3c) := ⟨rfl, rfl, rfl⟩
def zbl1 := rg z3f.eq_1 <| rg z3g.eq_1 <| rg z3h.eq_1 <| xg z3i.eq_1 <| rg z3j.eq_1 <| xg z3k.eq_1 <| @ex_of T _ _ z3l.eq_1
def zbl2 := @vd T F.zlg z3n [0] zbg0 rfl rfl
theorem zbl3 : z3n.res = [.tmp 2] ∧ z3n.rets = [[2]] ∧ z3n.body = (.seq (.reg z3f) z3l) := ⟨rfl, rfl, rfl⟩
def zbl4 := rg z3o.eq_1 <| rg z3p.eq_1 <| xg z3q.eq_1 <| rg z3r.eq_1 <| rg z3s.eq_1 <| xg z3t.eq_1 <| xg z3u.eq_1 <| xg z3v.eq_1 <| rg z3w.eq_1 <| xg z3x.eq_1 <| @ex_of T _ _ z3y.eq_1
def zbl5 := @vd T F.zll z30 [2, 0] zbg1 rfl rfl
theorem zbl6 : z30.res = [.tmp 4] ∧ z30.rets = [[2]] ∧ z30.body = (.seq (.reg z3o) z3y) := ⟨rfl, rfl, rfl⟩
def zbl7 := rg z31.eq_1 <| rg z32.eq_1 <| @ex_of T _ _ z33.eq_1
def zbl8 := @vd T F.zln z35 [0] zbg2 rfl rfl
theorem zbl9 : z35.res = [.tmp 2] ∧ z35.rets = [[]] ∧ z35.body = (.seq (.reg z31) z33) := ⟨rfl, rfl, rfl⟩
def zbma := rg z36.eq_1 <| rg z37.eq_1 <| rg z38.eq_1 <| xg z39.eq_1 <| rg z4a.eq_1 <| And.intro (@df_of T _ _ [(3, 2), (7, 2), (7, 4), (7, 5), (8, 2), (8, 4), (8, 5)] z4a.eq_1) <| rg z4b.eq_1 <| rg z4c.eq_1 <| rg z4d.eq_1 <| rg z4e.eq_1 <| xg z4f.eq_1 <| rg z4g.eq_1 <| xg z4h.eq_1 <| xg z4i.eq_1 <| xg z4j.eq_1 <| xg z4k.eq_1 <| xg z4l.eq_1 <| rg z4m.eq_1 <| xg z4n.eq_1 <| xg z4o.eq_1 <| xg z4p.eq_1 <| @ex_of T _ _ z4q.eq_1
def zbmb := @vd T F.zlx z4s [0] zbg3 rfl rfl
theorem zbmc : z4s.res = [.tmp 2, .tmp 3] ∧ z4s.rets = [[2], []] ∧ z4s.body = (.seq (.reg z36) z4q) := ⟨rfl, rfl, rfl⟩
def zbmd := rg z4t.eq_1 <| rg z4u.eq_1 <| rg z4v.eq_1 <| rg z4w.eq_1 <| rg z4x.eq_1 <| rg z4y.eq_1 <| xg z4z.eq_1 <| rg z40.eq_1 <| xg z41.eq_1 <| xg z42.eq_1 <| xg z43.eq_1 <| xg z44.eq_1 <| xg z45.eq_1 <| rg z46.eq_1 <| xg z47.eq_1 <| xg z48.eq_1 <| @ex_of T _ _ z49.eq_1
def zbme := @vd T F.zlb z5b [0, 0] zbg4 rfl rfl
theorem zbmf : z5b.res = [.tmp 4] ∧ z5b.rets = [[2]] ∧ z5b.body = (.seq (.reg z4t) z49) := ⟨rfl, rfl, rfl⟩
def zbmg := rg z5c.eq_1 <| rg z5d.eq_1 <| rg z5e.eq_1 <| rg z5f.eq_1 <| rg z5g.eq_1 <| rg z5h.eq_1 <| rg z5i.eq_1 <| xg z5j.eq_1 <| rg z5k.eq_1 <| xg z5l.eq_1 <| xg z5m.eq_1 <| xg z5n.eq_1 <| xg z5o.eq_1 <| xg z5p.eq_1 <| rg z5q.eq_1 <| xg z5r.eq_1 <| xg z5s.eq_1 <| xg z5t.eq_1 <| @ex_of T _ _ z5u.eq_1
def zbmh := @vd T F.zk8 z5w [0, 0] zbg5 rfl rfl
theorem zbmi : z5w.res = [.tmp 4] ∧ z5w.rets = [[]] ∧ z5w.body = (.seq (.reg z5c) z5u) := ⟨rfl, rfl, rfl⟩
def zbmj := rg z5x.eq_1 <| rg z5y.eq_1 <| xg z5z.eq_1 <| rg z50.eq_1 <| rg z51.eq_1 <| rg z52.eq_1 <| xg z53.eq_1 <| rg z54.eq_1 <| rg z55.eq_1 <| xg z56.eq_1 <| xg z57.eq_1 <| xg z58.eq_1 <| xg z59.eq_1 <| xg z6a.eq_1 <| rg z6b.eq_1 <| xg z6c.eq_1 <| @ex_of T _ _ z6d.eq_1
def zbmk := @vd T F.zl6 z6f [0] zbg6 rfl rfl
theorem zbml : z6f.res = [.tmp 2, .tmp 3, .tmp 4] ∧ z6f.rets = [[2], [], []] ∧ z6f.body = (.seq (.reg z5x) z6d) := ⟨rfl, rfl, rfl⟩
def zbmm := rg z6g.eq_1 <| rg z6h.eq_1 <| rg z6i.eq_1 <| rg z6j.eq_1 <| rg z6k.eq_1 <| rg z6l.eq_1 <| xg z6m.eq_1 <| rg z6n.eq_1 <| xg z6o.eq_1 <| xg z6p.eq_1 <| xg z6q.eq_1 <| xg z6r.eq_1 <| xg z6s.eq_1 <| rg z6t.eq_1 <| xg z6u.eq_1 <| xg z6v.eq_1 <| @ex_of T _ _ z6w.eq_1
def zbmn := @vd T F.zl9 z6y [0] zbg7 rfl rfl
theorem zbmo : z6y.res = [.tmp 2] ∧ z6y.rets = [[]] ∧ z6y.body = (.seq (.reg z6g) z6w) := ⟨rfl, rfl, rfl⟩
def zbmp := rg z6z.eq_1 <| rg z60.eq_1 <| xg z61.eq_1 <| rg z62.eq_1 <| rg z63.eq_1 <| rg z64.eq_1 <| xg z65.eq_1 <| xg z66.eq_1 <| rg z67.eq_1 <| xg z68.eq_1 <| xg z69.eq_1 <| @ex_of T _ _ z7a.eq_1
def zbmq := @vi T F.zmr z7c zbg8 rfl
theorem zbmr {n : Nat} {H : Hp} {vs : List V} : (orc T (n + 1)).inl F.zmr vs H = finI H.length false [.tmp 4] (unw T (orc T n) n H.length [] (exec T (orc T n) n H.length (.seq (.reg z6z) z7a) (params 0 vs) H)) := by rw [zht, zbg8, y4, zhr]; rfl
def zbms := rg z7d.eq_1 <| rg z7e.eq_1 <| rg z7f.eq_1 <| rg z7g.eq_1 <| rg z7h.eq_1 <| rg z7i.eq_1 <| rg z7j.eq_1 <| xg z7k.eq_1 <| rg z7l.eq_1 <| rg z7m.eq_1 <| rg z7n.eq_1 <| rg z7o.eq_1 <| And.intro (@df_of T _ _ [(1, 3), (1, 4)] z7o.eq_1) <| rg z7p.eq_1 <| xg z7q.eq_1 <| xg z7r.eq_1 <| xg z7s.eq_1 <| xg z7t.eq_1 <| xg z7u.eq_1 <| rg z7v.eq_1 <| rg z7w.eq_1 <| rg z7x.eq_1 <| rg z7y.eq_1 <| xg z7z.eq_1 <| xg z70.eq_1 <| rg z71.eq_1 <| xg z72.eq_1 <| xg z73.eq_1 <| xg z74.eq_1 <| xg z75.eq_1 <| xg z76.eq_1 <| xg z77.eq_1 <| xg z78.eq_1 <| xg z79.eq_1 <| @ex_of T _ _ z8a.eq_1
def zbmt := @vd T F.zmf z8c [0] zbg9 rfl rfl
theorem zbmu : z8c.res = [.cell 2 4 true, .tmp 3] ∧ z8c.rets = [[], []] ∧ z8c.body = (.seq (.reg z7d) z8a) := ⟨rfl, rfl, rfl⟩
def zbmv := rg z8d.eq_1 <| rg z8e.eq_1 <| rg z8f.eq_1 <| rg z8g.eq_1 <| rg z8h.eq_1 <| rg z8i.eq_1 <| rg z8j.eq_1 <| rg z8k.eq_1 <| rg z8l.eq_1 <| xg z8m.eq_1 <| rg z8n.eq_1 <| xg z8o.eq_1 <| xg z8p.eq_1 <| xg z8q.eq_1 <| xg z8r.eq_1 <| xg z8s.eq_1 <| xg z8t.eq_1 <| xg z8u.eq_1 <| @ex_of T _ _ z8v.eq_1
def zbmw := @vd T F.zmg z8x [0] zbha rfl rfl
theorem zbmx : z8x.res = [.cell 2 3 true, .tmp 3] ∧ z8x.rets = [[], []] ∧ z8x.body = (.seq (.reg z8d) z8v) := ⟨rfl, rfl, rfl⟩
def zbmy := rg z8y.eq_1 <| rg z8z.eq_1 <| rg z80.eq_1 <| rg z81.eq_1 <| rg z82.eq_1 <| rg z83.eq_1 <| xg z84.eq_1 <| xg z85.eq_1 <| rg z86.eq_1 <| xg z87.eq_1 <| xg z88.eq_1 <| xg z89.eq_1 <| xg z9a.eq_1 <| xg z9b.eq_1 <| rg z9c.eq_1 <| xg z9d.eq_1 <| @ex_of T _ _ z9e.eq_1
def zbmz := @vi T F.zms z9g zbhb rfl
theorem zbm0 {n : Nat} {H : Hp} {vs : List V} : (orc T (n + 1)).inl F.zms vs H = finI H.length false [.tmp 4] (unw T (orc T n) n H.length [] (exec T (orc T n) n H.length (.seq (.reg z8y) z9e) (params 0 vs) H)) := by rw [zht, zbhb, y4, zhr]; rfl
def zbm1 := rg z9h.eq_1 <| rg z9i.eq_1 <| rg z9j.eq_1 <| rg z9k.eq_1 <| xg z9l.eq_1 <| rg z9m.eq_1 <| rg z9n.eq_1 <| rg z9o.eq_1 <| rg z9p.eq_1 <| xg z9q.eq_1 <| xg z9r.eq_1 <| xg z9s.eq_1 <| xg z9t.eq_1 <| xg z9u.eq_1 <| @ex_of T _ _ z9v.eq_1
def zbm2 := @vd T F.zkl z9x [2, 0, 0] zbhc rfl rfl
theorem zbm3 : z9x.res = [.tmp 6] ∧ z9x.rets = [[2]] ∧ z9x.body = (.seq (.reg z9h) z9v) := ⟨rfl, rfl, rfl⟩
def zbm4 := rg z9y.eq_1 <| rg z9z.eq_1 <| rg z90.eq_1 <| rg z91.eq_1 <| xg z92.eq_1 <| xg z93.eq_1 <| rg z94.eq_1 <| xg z95.eq_1 <| @ex_of T _ _ z96.eq_1
def zbm5 := @vd T F.zkp z98 [0, 0] zbhd rfl rfl
theorem zbm6 : z98.res = [.tmp 4] ∧ z98.rets = [[]] ∧ z98.body = (.seq (.reg z9y) z96) := ⟨rfl, rfl, rfl⟩
def zbm7 := rg z99.eq_1 <| rg zbaa.eq_1 <| rg zbab.eq_1 <| xg zbac.eq_1 <| rg zbad.eq_1 <| xg zbae.eq_1 <| xg zbaf.eq_1 <| rg zbag.eq_1 <| xg zbah.eq_1 <| xg zbai.eq_1 <| @ex_of T _ _ zbaj.eq_1
def zbm8 := @vd T F.zko zbal [0, 0] zbhe rfl rfl
theorem zbm9 : zbal.res = [.tmp 4, .tmp 5] ∧ zbal.rets = [[], []] ∧ zbal.body = (.seq (.reg z99) zbaj) := ⟨rfl, rfl, rfl⟩
def zbna := rg zbam.eq_1 <| rg zban.eq_1 <| rg zbao.eq_1 <| xg zbap.eq_1 <| rg zbaq.eq_1 <| rg zbar.eq_1 <| And.intro (@dr_of T _ _ [(5, 3)] zbar.eq_1 (by decide)) <| rg zbas.eq_1 <| rg zbat.eq_1 <| rg zbau.eq_1 <| rg zbav.eq_1 <| xg zbaw.eq_1 <| xg zbax.eq_1 <| rg zbay.eq_1 <| rg zbaz.eq_1 <| rg zba0.eq_1 <| xg zba1.eq_1 <| rg zba2.eq_1 <| rg zba3.eq_1 <| xg zba4.eq_1 <| xg zba5.eq_1 <| xg zba6.eq_1 <| xg zba7.eq_1 <| xg zba8.eq_1 <| xg zba9.eq_1 <| xg zbba.eq_1 <| @ex_of T _ _ zbbb.eq_1
def zbnb := @vd T F.zkr zbbd [0, 0] zbhf rfl rfl
theorem zbnc : zbbd.res = [.cell 4 4 true, .tmp 5] ∧ zbbd.rets = [[], []] ∧ zbbd.body = (.seq (.reg zbam) zbbb) := ⟨rfl, rfl, rfl⟩
def zbnd := rg zbbe.eq_1 <| rg zbbf.eq_1 <| @ex_of T _ _ zbbg.eq_1
def zbne := @vi T F.zmu zbbi zbhg rfl
theorem zbnf {n : Nat} {H : Hp} {vs : List V} : (orc T (n + 1)).inl F.zmu vs H = finI H.length false [.tmp 4] (unw T (orc T n) n H.length [] (exec T (orc T n) n H.length (.seq (.reg zbbe) zbbg) (params 0 vs) H)) := by rw [zht, zbhg, y4, zhr]; rfl
def zbng := rg zbbj.eq_1 <| rg zbbk.eq_1 <| @ex_of T _ _ zbbl.eq_1
def zbnh := @vd T F.zkx zbbn [0] zbhh rfl rfl
theorem zbni : zbbn.res = [.tmp 2] ∧ zbbn.rets = [[]] ∧ zbbn.body = (.seq (.reg zbbj) zbbl) := ⟨rfl, rfl, rfl⟩
def zbnj := rg zbbo.eq_1 <| rg zbbp.eq_1 <| rg zbbq.eq_1 <| rg zbbr.eq_1 <| rg zbbs.eq_1 <| rg zbbt.eq_1 <| rg zbbu.eq_1 <| rg zbbv.eq_1 <| xg zbbw.eq_1 <| rg zbbx.eq_1 <| xg zbby.eq_1 <| rg zbbz.eq_1 <| xg zbb0.eq_1 <| xg zbb1.eq_1 <| xg zbb2.eq_1 <| rg zbb3.eq_1 <| xg zbb4.eq_1 <| rg zbb5.eq_1 <| xg zbb6.eq_1 <| xg zbb7.eq_1 <| xg zbb8.eq_1 <| xg zbb9.eq_1 <| rg zbca.eq_1 <| xg zbcb.eq_1 <| xg zbcc.eq_1 <| xg zbcd.eq_1 <| xg zbce.eq_1 <| xg zbcf.eq_1 <| rg zbcg.eq_1 <| xg zbch.eq_1 <| xg zbci.eq_1 <| @ex_of T _ _ zbcj.eq_1
def zbnk := @vd T F.zk2 zbcl [0] zbhi rfl rfl
theorem zbnl : zbcl.res = [.tmp 2, .tmp 3] ∧ zbcl.rets = [[], []] ∧ zbcl.body = (.seq (.reg zbbo) zbcj) := ⟨rfl, rfl, rfl⟩
def zbnm := rg zbcm.eq_1 <| rg zbcn.eq_1 <| rg zbco.eq_1 <| rg zbcp.eq_1 <| xg zbcq.eq_1 <| rg zbcr.eq_1 <| xg zbcs.eq_1 <| xg zbct.eq_1 <| @ex_of T _ _ zbcu.eq_1
def zbnn := @vd T F.zlj zbcw [0] zbhj rfl rfl
theorem zbno : zbcw.res = [.tmp 2, .tmp 3] ∧ zbcw.rets = [[], []] ∧ zbcw.body = (.seq (.reg zbcm) zbcu) := ⟨rfl, rfl, rfl⟩
def zbnp := rg zbcx.eq_1 <| rg zbcy.eq_1 <| rg zbcz.eq_1 <| xg zbc0.eq_1 <| rg zbc1.eq_1 <| xg zbc2.eq_1 <| @ex_of T _ _ zbc3.eq_1
def zbnq := @vd T F.zlv zbc5 [0] zbhk rfl rfl
theorem zbnr : zbc5.res = [.tmp 2] ∧ zbc5.rets = [[]] ∧ zbc5.body = (.seq (.reg zbcx) zbc3) := ⟨rfl, rfl, rfl⟩
def zbns := rg zbc6.eq_1 <| rg zbc7.eq_1 <| rg zbc8.eq_1 <| rg zbc9.eq_1 <| rg zbda.eq_1 <| rg zbdb.eq_1 <| rg zbdc.eq_1 <| rg zbdd.eq_1 <| rg zbde.eq_1 <| rg zbdf.eq_1 <| xg zbdg.eq_1 <| rg zbdh.eq_1 <| xg zbdi.eq_1 <| xg zbdj.eq_1 <| xg zbdk.eq_1 <| xg zbdl.eq_1 <| xg zbdm.eq_1 <| rg zbdn.eq_1 <| xg zbdo.eq_1 <| xg zbdp.eq_1 <| xg zbdq.eq_1 <| rg zbdr.eq_1 <| xg zbds.eq_1 <| xg zbdt.eq_1 <| xg zbdu.eq_1 <| xg zbdv.eq_1 <| xg zbdw.eq_1 <| rg zbdx.eq_1 <| xg zbdy.eq_1 <| xg zbdz.eq_1 <| @ex_of T _ _ zbd0.eq_1
def zbnt := @vd T F.zk6 zbd2 [] zbhl rfl rfl
theorem zbnu : zbd2.res = [.cell 0 256 true] ∧ zbd2.rets = [[]] ∧ zbd2.body = (.seq (.reg zbc6) zbd0) := ⟨rfl, rfl, rfl⟩
def zbnv := rg zbd3.eq_1 <| rg zbd4.eq_1 <| rg zbd5.eq_1 <| rg zbd6.eq_1 <| xg zbd7.eq_1 <| xg zbd8.eq_1 <| @ex_of T _ _ zbd9.eq_1
def zbnw := @vi T F.zmv zbeb zbhm rfl
theorem zbnx {n : Nat} {H : Hp} {vs : List V} : (orc T (n + 1)).inl F.zmv vs H = finI H.length false [.tmp 2, .tmp 3, .tmp 4] (unw T (orc T n) n H.length [] (exec T (orc T n) n H.length (.seq (.reg zbd3) zbd9) (params 0 vs) H)) := by rw [zht, zbhm, y4, zhr]; rfl
def zbny := rg zbec.eq_1 <| rg zbed.eq_1 <| rg zbee.eq_1 <| rg zbef.eq_1 <| rg zbeg.eq_1 <| rg zbeh.eq_1 <| xg zbei.eq_1 <| xg zbej.eq_1 <| rg zbek.eq_1 <| xg zbel.eq_1 <| xg zbem.eq_1 <| xg zben.eq_1 <| xg zbeo.eq_1 <| xg zbep.eq_1 <| rg zbeq.eq_1 <| xg zber.eq_1 <| @ex_of T _ _ zbes.eq_1
def zbnz := @vi T F.zmw zbeu zbhn rfl
theorem zbn0 {n : Nat} {H : Hp} {vs : List V} : (orc T (n + 1)).inl F.zmw vs H = finI H.length false [.tmp 4] (unw T (orc T n) n H.length [] (exec T (orc T n) n H.length (.seq (.reg zbec) zbes) (params 0 vs) H)) := by rw [zht, zbhn, y4, zhr]; rfl
def zbn1 := rg zbev.eq_1 <| rg zbew.eq_1 <| @ex_of T _ _ zbex.eq_1
def zbn2 := @vd T F.zli zbez [0] zbho rfl rfl
theorem zbn3 : zbez.res = [.tmp 2] ∧ zbez.rets = [[]] ∧ zbez.body = (.seq (.reg zbev) zbex) := ⟨rfl, rfl, rfl⟩
def zbn4 := rg zbe0.eq_1 <| rg zbe1.eq_1 <| rg zbe2.eq_1 <| rg zbe3.eq_1 <| rg zbe4.eq_1 <| xg zbe5.eq_1 <| xg zbe6.eq_1 <| xg zbe7.eq_1 <| @ex_of T _ _ zbe8.eq_1
def zbn5 := @vi T F.zmx zbfa zbhp rfl
theorem zbn6 {n : Nat} {H : Hp} {vs : List V} : (orc T (n + 1)).inl F.zmx vs H = finI H.length false [.tmp 4] (unw T (orc T n) n H.length [] (exec T (orc T n) n H.length (.seq (.reg zbe0) zbe8) (params 0 vs) H)) := by rw [zht, zbhp, y4, zhr]; rfl
def zbn7 := rg zbfb.eq_1 <| rg zbfc.eq_1 <| @ex_of T _ _ zbfd.eq_1
def zbn8 := @vi T F.zmy zbff zbhq rfl
theorem zbn9 {n : Nat} {H : Hp} {vs : List V} : (orc T (n + 1)).inl F.zmy vs H = finI H.length false [.tmp 1] (unw T (orc T n) n H.length [] (exec T (orc T n) n H.length (.seq (.reg zbfb) zbfd) (params 0 vs) H)) := by rw [zht, zbhq, y4, zhr]; rfl
def zboa := rg zbfg.eq_1 <| rg zbfh.eq_1 <| @ex_of T _ _ zbfi.eq_1
def zbob := @vi T F.zmz zbfk zbhr rfl
theorem zboc {n : Nat} {H : Hp} {vs : List V} : (orc T (n + 1)).inl F.zmz vs H = finI H.length false [.tmp 1] (unw T (orc T n) n H.length [] (exec T (orc T n) n H.length (.seq (.reg zbfg) zbfi) (params 0 vs) H)) := by rw [zht, zbhr, y4, zhr]; rfl
end Go.Dvm.C
