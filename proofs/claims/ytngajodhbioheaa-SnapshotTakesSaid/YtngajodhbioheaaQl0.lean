/- What each piece of the code comes to: part 1. -/
import Derived.Test.YtngajodhbioheaaQc0
set_option linter.all false
set_option maxRecDepth 100000
set_option maxHeartbeats 4000000
namespace Go.Dvm.C
open Go Go.Dvm
def ke := And.intro @Ow.enc.eq_1 <| And.intro @Sl.enc.eq_1 <| And.intro @I.zjm.enc.eq_1 <| And.intro @I.zjn.enc.eq_1 <| And.intro @I.zjo.enc.eq_1 <| And.intro @I.zjp.enc.eq_1 <| And.intro @I.zjr.enc.eq_1 <| And.intro @I.zjq.enc.eq_1 <| And.intro @arrEnc.eq_1 <| @I.zjs.enc.eq_1
def kf := And.intro @ke @kn
def tab : List (Nat × MFun) := [(7, zmt), (18, zmv), (22, zmx), (23, zne), (28, zng), (29, zn6), (30, zok), (31, zoo), (32, zpa), (37, zpq), (44, zps), (50, zpu), (52, zqf), (53, zqp), (54, zqr), (55, zrj), (62, zrl), (63, zrn), (64, zrp), (65, zss), (66, zs4), (67, zto), (68, ztq), (69, zts), (70, zt2), (71, zt4), (72, zt5), (80, zuh), (81, zuj), (82, zul), (83, zun), (84, zup), (88, zvd), (91, zv4), (95, zv6), (96, zv8), (97, zwa), (98, zwm), (99, zwo), (100, zwt), (101, zxe), (102, zyc), (103, zzc), (104, zz7), (109, z0c), (116, z0p), (117, z0u), (118, z0z), (119, z1m), (120, z2t), (121, z3q), (122, z41), (134, z5o), (135, z57), (136, z6s), (138, z7d), (139, z7q), (142, z74), (145, z8n), (146, z84), (147, z9f), (148, z9s), (149, zbaa), (150, zba2), (158, zbbj), (159, zbb4), (160, zbc5), (161, zbd8), (166, zbeh), (167, zbfe), (169, zbff)]
abbrev T : Nat → Option MFun := look tab
theorem zbfg : T F.zmk = some zmt := rfl
theorem zbfh : T F.zkf = some zmv := rfl
theorem zbfi : T F.zj3 = some zmx := rfl
theorem zbfj : T F.zk1 = some zne := rfl
theorem zbfk : T F.zlw = some zng := rfl
theorem zbfl : T F.zmf = some zn6 := rfl
theorem zbfm : T F.zmj = some zok := rfl
theorem zbfn : T F.zkd = some zoo := rfl
theorem zbfo : T F.zmc = some zpa := rfl
theorem zbfp : T F.zlv = some zpq := rfl
theorem zbfq : T F.zke = some zps := rfl
theorem zbfr : T F.zj4 = some zpu := rfl
theorem zbfs : T F.zjz = some zqf := rfl
theorem zbft : T F.zj2 = some zqp := rfl
theorem zbfu : T F.zkm = some zqr := rfl
theorem zbfv : T F.zky = some zrj := rfl
theorem zbfw : T F.zlg = some zrl := rfl
theorem zbfx : T F.zlm = some zrn := rfl
theorem zbfy : T F.zly = some zrp := rfl
theorem zbfz : T F.zma = some zss := rfl
theorem zbf0 : T F.zmh = some zs4 := rfl
theorem zbf1 : T F.zml = some zto := rfl
theorem zbf2 : T F.zj5 = some ztq := rfl
theorem zbf3 : T F.zmm = some zts := rfl
theorem zbf4 : T F.zmn = some zt2 := rfl
theorem zbf5 : T F.zmo = some zt4 := rfl
theorem zbf6 : T F.zj6 = some zt5 := rfl
theorem zbf7 : T F.zlr = some zuh := rfl
theorem zbf8 : T F.zle = some zuj := rfl
theorem zbf9 : T F.zls = some zul := rfl
theorem zbga : T F.zla = some zun := rfl
theorem zbgb : T F.zk7 = some zup := rfl
theorem zbgc : T F.zkk = some zvd := rfl
theorem zbgd : T F.zll = some zv4 := rfl
theorem zbge : T F.zmp = some zv6 := rfl
theorem zbgf : T F.zju = some zv8 := rfl
theorem zbgg : T F.zjt = some zwa := rfl
theorem zbgh : T F.zjw = some zwm := rfl
theorem zbgi : T F.zj0 = some zwo := rfl
theorem zbgj : T F.zkl = some zwt := rfl
theorem zbgk : T F.zkn = some zxe := rfl
theorem zbgl : T F.zkp = some zyc := rfl
theorem zbgm : T F.zkv = some zzc := rfl
theorem zbgn : T F.zkx = some zz7 := rfl
theorem zbgo : T F.zlb = some z0c := rfl
theorem zbgp : T F.zld = some z0p := rfl
theorem zbgq : T F.zlf = some z0u := rfl
theorem zbgr : T F.zlx = some z0z := rfl
theorem zbgs : T F.zlz = some z1m := rfl
theorem zbgt : T F.zl0 = some z2t := rfl
theorem zbgu : T F.zl7 = some z3q := rfl
theorem zbgv : T F.zl9 = some z41 := rfl
theorem zbgw : T F.zlp = some z5o := rfl
theorem zbgx : T F.zk9 = some z57 := rfl
theorem zbgy : T F.zk6 = some z6s := rfl
theorem zbgz : T F.zkh = some z7d := rfl
theorem zbg0 : T F.zki = some z7q := rfl
theorem zbg1 : T F.zmq = some z74 := rfl
theorem zbg2 : T F.zmr = some z8n := rfl
theorem zbg3 : T F.zko = some z84 := rfl
theorem zbg4 : T F.zks = some z9f := rfl
theorem zbg5 : T F.zkr = some z9s := rfl
theorem zbg6 : T F.zku = some zbaa := rfl
theorem zbg7 : T F.zkw = some zba2 := rfl
theorem zbg8 : T F.zl2 = some zbbj := rfl
theorem zbg9 : T F.zl4 = some zbb4 := rfl
theorem zbha : T F.zl6 = some zbc5 := rfl
theorem zbhb : T F.zl8 = some zbd8 := rfl
theorem zbhc : T F.zln = some zbeh := rfl
theorem zbhd : T F.zk4 = some zbfe := rfl
theorem zbhe : T F.zkt = some zbff := rfl
def rg {P : Prop} {c c' : List MO} (h : c = c') (p : P) := ra (T := T) h p
def xg {P : Prop} {c c' : MC} (h : c = c') (p : P) := xa (T := T) h p
def zbhf := rg o_7_1.eq_1 <| rg o_7_2.eq_1 <| rg o_7_3.eq_1 <| rg o_7_4.eq_1 <| rg o_7_5.eq_1 <| xg c_7_6.eq_1 <| rg o_7_7.eq_1 <| rg o_7_8.eq_1 <| rg o_7_9.eq_1 <| rg o_7_10.eq_1 <| rg o_7_11.eq_1 <| rg o_7_12.eq_1 <| rg o_7_13.eq_1 <| And.intro (@df_of T _ _ [(6, 3), (7, 3)] o_7_13.eq_1) <| rg o_7_14.eq_1 <| rg o_7_15.eq_1 <| xg c_7_16.eq_1 <| xg c_7_17.eq_1 <| xg c_7_18.eq_1 <| xg c_7_19.eq_1 <| xg c_7_20.eq_1 <| xg c_7_21.eq_1 <| xg c_7_22.eq_1 <| xg c_7_23.eq_1 <| xg c_7_24.eq_1 <| xg c_7_25.eq_1 <| xg c_7_26.eq_1 <| @ex_of T _ _ c_7_27.eq_1
def zbhg := @vd T F.zmk zmt [0, 0, 0] zbfg rfl rfl
theorem zbhh : zmt.res = [.tmp 6] ∧ zmt.rets = [[]] ∧ zmt.body = (.seq (.reg o_7_1) c_7_27) := ⟨rfl, rfl, rfl⟩
def zbhi := rg o_18_1.eq_1 <| rg o_18_2.eq_1 <| @ex_of T _ _ c_18_3.eq_1
def zbhj := @vd T F.zkf zmv [0] zbfh rfl rfl
theorem zbhk : zmv.res = [.tmp 2] ∧ zmv.rets = [[]] ∧ zmv.body = (.seq (.reg o_18_1) c_18_3) := ⟨rfl, rfl, rfl⟩
def zbhl := rg o_22_1.eq_1 <| rg o_22_2.eq_1 <| @ex_of T _ _ c_22_3.eq_1
def zbhm := @vd T F.zj3 zmx [0] zbfi rfl rfl
theorem zbhn : zmx.res = [.tmp 2] ∧ zmx.rets = [[]] ∧ zmx.body = (.seq (.reg o_22_1) c_22_3) := ⟨rfl, rfl, rfl⟩
def zbho := rg o_23_1.eq_1 <| rg o_23_2.eq_1 <| rg o_23_3.eq_1 <| rg o_23_4.eq_1 <| rg o_23_5.eq_1 <| rg o_23_6.eq_1 <| rg o_23_7.eq_1 <| rg o_23_8.eq_1 <| xg c_23_9.eq_1 <| xg zmy.eq_1 <| rg zmz.eq_1 <| rg zm0.eq_1 <| And.intro (@df_of T _ _ [(1, 6)] zm0.eq_1) <| xg zm1.eq_1 <| xg zm2.eq_1 <| xg zm3.eq_1 <| rg zm4.eq_1 <| xg zm5.eq_1 <| xg zm6.eq_1 <| xg zm7.eq_1 <| xg zm8.eq_1 <| xg zm9.eq_1 <| rg zna.eq_1 <| xg znb.eq_1 <| @ex_of T _ _ znc.eq_1
def zbhp := @vd T F.zk1 zne [0, 0] zbfj rfl rfl
theorem zbhq : zne.res = [.cell 4 6 true, .tmp 5] ∧ zne.rets = [[], []] ∧ zne.body = (.seq (.reg o_23_1) znc) := ⟨rfl, rfl, rfl⟩
def zbhr := rg o_28_1.eq_1 <| rg o_28_2.eq_1 <| rg o_28_3.eq_1 <| rg o_28_4.eq_1 <| xg c_28_5.eq_1 <| xg c_28_6.eq_1 <| @ex_of T _ _ c_28_7.eq_1
def zbhs := @vd T F.zlw zng [] zbfk rfl rfl
theorem zbht : zng.res = [.tmp 0] ∧ zng.rets = [[]] ∧ zng.body = (.seq (.reg o_28_1) c_28_7) := ⟨rfl, rfl, rfl⟩
def zbhu := rg o_29_1.eq_1 <| rg o_29_2.eq_1 <| rg o_29_3.eq_1 <| xg c_29_4.eq_1 <| rg o_29_5.eq_1 <| rg o_29_6.eq_1 <| xg c_29_7.eq_1 <| rg o_29_8.eq_1 <| rg o_29_9.eq_1 <| rg znh.eq_1 <| xg zni.eq_1 <| rg znj.eq_1 <| And.intro (@df_of T _ _ [(1, 11), (4, 11), (6, 11)] znj.eq_1) <| rg znk.eq_1 <| rg znl.eq_1 <| rg znm.eq_1 <| rg znn.eq_1 <| rg zno.eq_1 <| xg znp.eq_1 <| xg znq.eq_1 <| xg znr.eq_1 <| xg zns.eq_1 <| xg znt.eq_1 <| xg znu.eq_1 <| xg znv.eq_1 <| xg znw.eq_1 <| rg znx.eq_1 <| xg zny.eq_1 <| xg znz.eq_1 <| xg zn0.eq_1 <| xg zn1.eq_1 <| rg zn2.eq_1 <| xg zn3.eq_1 <| @ex_of T _ _ zn4.eq_1
def zbhv := @vd T F.zmf zn6 [0, 0] zbfl rfl rfl
theorem zbhw : zn6.res = [.cell 4 6 true, .tmp 5] ∧ zn6.rets = [[], []] ∧ zn6.body = (.seq (.reg o_29_1) zn4) := ⟨rfl, rfl, rfl⟩
def zbhx := rg o_30_1.eq_1 <| rg o_30_2.eq_1 <| rg o_30_3.eq_1 <| rg o_30_4.eq_1 <| xg c_30_5.eq_1 <| rg o_30_6.eq_1 <| rg o_30_7.eq_1 <| xg c_30_8.eq_1 <| rg o_30_9.eq_1 <| rg zn7.eq_1 <| xg zn8.eq_1 <| rg zn9.eq_1 <| xg zoa.eq_1 <| xg zob.eq_1 <| xg zoc.eq_1 <| xg zod.eq_1 <| rg zoe.eq_1 <| xg zof.eq_1 <| xg zog.eq_1 <| xg zoh.eq_1 <| @ex_of T _ _ zoi.eq_1
def zbhy := @vd T F.zmj zok [0, 0] zbfm rfl rfl
theorem zbhz : zok.res = [.tmp 4] ∧ zok.rets = [[]] ∧ zok.body = (.seq (.reg o_30_1) zoi) := ⟨rfl, rfl, rfl⟩
def zbh0 := rg o_31_1.eq_1 <| rg o_31_2.eq_1 <| rg o_31_3.eq_1 <| rg o_31_4.eq_1 <| rg o_31_5.eq_1 <| xg c_31_6.eq_1 <| rg o_31_7.eq_1 <| xg c_31_8.eq_1 <| xg c_31_9.eq_1 <| xg zol.eq_1 <| @ex_of T _ _ zom.eq_1
def zbh1 := @vd T F.zkd zoo [0, 0] zbfn rfl rfl
theorem zbh2 : zoo.res = [.tmp 4] ∧ zoo.rets = [[4]] ∧ zoo.body = (.seq (.reg o_31_1) zom) := ⟨rfl, rfl, rfl⟩
def zbh3 := rg o_32_1.eq_1 <| rg o_32_2.eq_1 <| rg o_32_3.eq_1 <| rg o_32_4.eq_1 <| rg o_32_5.eq_1 <| xg c_32_6.eq_1 <| rg o_32_7.eq_1 <| rg o_32_8.eq_1 <| rg o_32_9.eq_1 <| xg zop.eq_1 <| xg zoq.eq_1 <| rg zor.eq_1 <| rg zos.eq_1 <| xg zot.eq_1 <| xg zou.eq_1 <| rg zov.eq_1 <| xg zow.eq_1 <| xg zox.eq_1 <| xg zoy.eq_1 <| xg zoz.eq_1 <| rg zo0.eq_1 <| rg zo1.eq_1 <| xg zo2.eq_1 <| rg zo3.eq_1 <| xg zo4.eq_1 <| xg zo5.eq_1 <| xg zo6.eq_1 <| xg zo7.eq_1 <| @ex_of T _ _ zo8.eq_1
def zbh4 := @vd T F.zmc zpa [0, 0] zbfo rfl rfl
theorem zbh5 : zpa.res = [.tmp 4] ∧ zpa.rets = [[4]] ∧ zpa.body = (.seq (.reg o_32_1) zo8) := ⟨rfl, rfl, rfl⟩
def zbh6 := rg o_37_1.eq_1 <| rg o_37_2.eq_1 <| rg o_37_3.eq_1 <| xg c_37_4.eq_1 <| rg o_37_5.eq_1 <| rg o_37_6.eq_1 <| And.intro (@df_of T _ _ [(3, 0), (3, 1), (6, 0), (6, 1), (6, 4)] o_37_6.eq_1) <| rg o_37_7.eq_1 <| rg o_37_8.eq_1 <| xg c_37_9.eq_1 <| rg zpb.eq_1 <| rg zpc.eq_1 <| rg zpd.eq_1 <| xg zpe.eq_1 <| xg zpf.eq_1 <| xg zpg.eq_1 <| xg zph.eq_1 <| rg zpi.eq_1 <| xg zpj.eq_1 <| xg zpk.eq_1 <| xg zpl.eq_1 <| xg zpm.eq_1 <| xg zpn.eq_1 <| @ex_of T _ _ zpo.eq_1
def zbh7 := @vd T F.zlv zpq [0] zbfp rfl rfl
theorem zbh8 : zpq.res = [.tmp 2, .tmp 3] ∧ zpq.rets = [[2], []] ∧ zpq.body = (.seq (.reg o_37_1) zpo) := ⟨rfl, rfl, rfl⟩
def zbh9 := rg o_44_1.eq_1 <| rg o_44_2.eq_1 <| @ex_of T _ _ c_44_3.eq_1
def zbia := @vd T F.zke zps [0] zbfq rfl rfl
theorem zbib : zps.res = [.tmp 2] ∧ zps.rets = [[]] ∧ zps.body = (.seq (.reg o_44_1) c_44_3) := ⟨rfl, rfl, rfl⟩
def zbic := rg o_50_1.eq_1 <| rg o_50_2.eq_1 <| rg o_50_3.eq_1 <| xg c_50_4.eq_1 <| rg o_50_5.eq_1 <| xg c_50_6.eq_1 <| @ex_of T _ _ c_50_7.eq_1
def zbid := @vd T F.zj4 zpu [0] zbfr rfl rfl
theorem zbie : zpu.res = [.tmp 2] ∧ zpu.rets = [[2]] ∧ zpu.body = (.seq (.reg o_50_1) c_50_7) := ⟨rfl, rfl, rfl⟩
def zbif := rg o_52_1.eq_1 <| rg o_52_2.eq_1 <| rg o_52_3.eq_1 <| xg c_52_4.eq_1 <| rg o_52_5.eq_1 <| rg o_52_6.eq_1 <| rg o_52_7.eq_1 <| rg o_52_8.eq_1 <| xg c_52_9.eq_1 <| rg zpv.eq_1 <| rg zpw.eq_1 <| rg zpx.eq_1 <| xg zpy.eq_1 <| rg zpz.eq_1 <| rg zp0.eq_1 <| rg zp1.eq_1 <| rg zp2.eq_1 <| rg zp3.eq_1 <| xg zp4.eq_1 <| xg zp5.eq_1 <| xg zp6.eq_1 <| xg zp7.eq_1 <| xg zp8.eq_1 <| rg zp9.eq_1 <| xg zqa.eq_1 <| xg zqb.eq_1 <| xg zqc.eq_1 <| @ex_of T _ _ zqd.eq_1
def zbig := @vd T F.zjz zqf [0] zbfs rfl rfl
theorem zbih : zqf.res = [.tmp 2] ∧ zqf.rets = [[]] ∧ zqf.body = (.seq (.reg o_52_1) zqd) := ⟨rfl, rfl, rfl⟩
def zbii := rg o_53_1.eq_1 <| rg o_53_2.eq_1 <| rg o_53_3.eq_1 <| rg o_53_4.eq_1 <| rg o_53_5.eq_1 <| rg o_53_6.eq_1 <| xg c_53_7.eq_1 <| xg c_53_8.eq_1 <| rg o_53_9.eq_1 <| xg zqg.eq_1 <| xg zqh.eq_1 <| xg zqi.eq_1 <| xg zqj.eq_1 <| xg zqk.eq_1 <| rg zql.eq_1 <| xg zqm.eq_1 <| @ex_of T _ _ zqn.eq_1
def zbij := @vd T F.zj2 zqp [0] zbft rfl rfl
theorem zbik : zqp.res = [.tmp 2] ∧ zqp.rets = [[]] ∧ zqp.body = (.seq (.reg o_53_1) zqn) := ⟨rfl, rfl, rfl⟩
def zbil := rg o_54_1.eq_1 <| rg o_54_2.eq_1 <| @ex_of T _ _ c_54_3.eq_1
def zbim := @vd T F.zkm zqr [0] zbfu rfl rfl
theorem zbin : zqr.res = [.tmp 2] ∧ zqr.rets = [[]] ∧ zqr.body = (.seq (.reg o_54_1) c_54_3) := ⟨rfl, rfl, rfl⟩
def zbio := rg o_55_1.eq_1 <| rg o_55_2.eq_1 <| rg o_55_3.eq_1 <| rg o_55_4.eq_1 <| rg o_55_5.eq_1 <| rg o_55_6.eq_1 <| rg o_55_7.eq_1 <| rg o_55_8.eq_1 <| rg o_55_9.eq_1 <| xg zqs.eq_1 <| rg zqt.eq_1 <| xg zqu.eq_1 <| xg zqv.eq_1 <| xg zqw.eq_1 <| xg zqx.eq_1 <| xg zqy.eq_1 <| rg zqz.eq_1 <| rg zq0.eq_1 <| rg zq1.eq_1 <| xg zq2.eq_1 <| rg zq3.eq_1 <| rg zq4.eq_1 <| rg zq5.eq_1 <| xg zq6.eq_1 <| rg zq7.eq_1 <| rg zq8.eq_1 <| rg zq9.eq_1 <| xg zra.eq_1 <| xg zrb.eq_1 <| xg zrc.eq_1 <| xg zrd.eq_1 <| rg zre.eq_1 <| xg zrf.eq_1 <| xg zrg.eq_1 <| @ex_of T _ _ zrh.eq_1
def zbip := @vd T F.zky zrj [0, 0] zbfv rfl rfl
theorem zbiq : zrj.res = [.cell 4 4 true, .tmp 5] ∧ zrj.rets = [[], []] ∧ zrj.body = (.seq (.reg o_55_1) zrh) := ⟨rfl, rfl, rfl⟩
def zbir := rg o_62_1.eq_1 <| rg o_62_2.eq_1 <| @ex_of T _ _ c_62_3.eq_1
def zbis := @vd T F.zlg zrl [2, 0] zbfw rfl rfl
theorem zbit : zrl.res = [.tmp 4] ∧ zrl.rets = [[2]] ∧ zrl.body = (.seq (.reg o_62_1) c_62_3) := ⟨rfl, rfl, rfl⟩
def zbiu := rg o_63_1.eq_1 <| rg o_63_2.eq_1 <| rg o_63_3.eq_1 <| xg c_63_4.eq_1 <| rg o_63_5.eq_1 <| rg o_63_6.eq_1 <| xg c_63_7.eq_1 <| xg c_63_8.eq_1 <| @ex_of T _ _ c_63_9.eq_1
def zbiv := @vd T F.zlm zrn [0] zbfx rfl rfl
theorem zbiw : zrn.res = [.tmp 2, .tmp 3] ∧ zrn.rets = [[2], []] ∧ zrn.body = (.seq (.reg o_63_1) c_63_9) := ⟨rfl, rfl, rfl⟩
def zbix := rg o_64_1.eq_1 <| rg o_64_2.eq_1 <| rg o_64_3.eq_1 <| xg c_64_4.eq_1 <| @ex_of T _ _ c_64_5.eq_1
def zbiy := @vd T F.zly zrp [0] zbfy rfl rfl
theorem zbiz : zrp.res = [.tmp 2] ∧ zrp.rets = [[]] ∧ zrp.body = (.seq (.reg o_64_1) c_64_5) := ⟨rfl, rfl, rfl⟩
def zbi0 := rg o_65_1.eq_1 <| rg o_65_2.eq_1 <| rg o_65_3.eq_1 <| rg o_65_4.eq_1 <| xg c_65_5.eq_1 <| rg o_65_6.eq_1 <| rg o_65_7.eq_1 <| xg c_65_8.eq_1 <| rg o_65_9.eq_1 <| rg zrq.eq_1 <| rg zrr.eq_1 <| rg zrs.eq_1 <| xg zrt.eq_1 <| rg zru.eq_1 <| xg zrv.eq_1 <| xg zrw.eq_1 <| xg zrx.eq_1 <| rg zry.eq_1 <| rg zrz.eq_1 <| rg zr0.eq_1 <| rg zr1.eq_1 <| rg zr2.eq_1 <| xg zr3.eq_1 <| rg zr4.eq_1 <| rg zr5.eq_1 <| rg zr6.eq_1 <| xg zr7.eq_1 <| rg zr8.eq_1 <| rg zr9.eq_1 <| rg zsa.eq_1 <| rg zsb.eq_1 <| rg zsc.eq_1 <| xg zsd.eq_1 <| xg zse.eq_1 <| xg zsf.eq_1 <| xg zsg.eq_1 <| xg zsh.eq_1 <| rg zsi.eq_1 <| xg zsj.eq_1 <| xg zsk.eq_1 <| xg zsl.eq_1 <| xg zsm.eq_1 <| xg zsn.eq_1 <| xg zso.eq_1 <| xg zsp.eq_1 <| @ex_of T _ _ zsq.eq_1
def zbi1 := @vd T F.zma zss [0, 0] zbfz rfl rfl
theorem zbi2 : zss.res = [.cell 4 4 true, .tmp 5] ∧ zss.rets = [[], []] ∧ zss.body = (.seq (.reg o_65_1) zsq) := ⟨rfl, rfl, rfl⟩
def zbi3 := rg o_66_1.eq_1 <| rg o_66_2.eq_1 <| rg o_66_3.eq_1 <| xg c_66_4.eq_1 <| rg o_66_5.eq_1 <| rg o_66_6.eq_1 <| xg c_66_7.eq_1 <| rg o_66_8.eq_1 <| rg o_66_9.eq_1 <| xg zst.eq_1 <| rg zsu.eq_1 <| xg zsv.eq_1 <| xg zsw.eq_1 <| xg zsx.eq_1 <| xg zsy.eq_1 <| rg zsz.eq_1 <| xg zs0.eq_1 <| xg zs1.eq_1 <| @ex_of T _ _ zs2.eq_1
def zbi4 := @vd T F.zmh zs4 [0, 0] zbf0 rfl rfl
theorem zbi5 : zs4.res = [.tmp 4] ∧ zs4.rets = [[]] ∧ zs4.body = (.seq (.reg o_66_1) zs2) := ⟨rfl, rfl, rfl⟩
def zbi6 := rg o_67_1.eq_1 <| rg o_67_2.eq_1 <| rg o_67_3.eq_1 <| rg o_67_4.eq_1 <| xg c_67_5.eq_1 <| rg o_67_6.eq_1 <| rg o_67_7.eq_1 <| xg c_67_8.eq_1 <| rg o_67_9.eq_1 <| rg zs5.eq_1 <| rg zs6.eq_1 <| rg zs7.eq_1 <| xg zs8.eq_1 <| xg zs9.eq_1 <| xg zta.eq_1 <| rg ztb.eq_1 <| xg ztc.eq_1 <| xg ztd.eq_1 <| xg zte.eq_1 <| xg ztf.eq_1 <| rg ztg.eq_1 <| rg zth.eq_1 <| xg zti.eq_1 <| xg ztj.eq_1 <| xg ztk.eq_1 <| xg ztl.eq_1 <| @ex_of T _ _ ztm.eq_1
def zbi7 := @vi T F.zml zto zbf1 rfl
theorem zbi8 {n : Nat} {H : Hp} {vs : List V} : (orc T (n + 1)).inl F.zml vs H = finI H.length true [.tmp 4] (unw T (orc T n) n H.length [] (exec T (orc T n) n H.length (.seq (.reg o_67_1) ztm) (params 0 vs) H)) := by rw [zhv, zbf1, y6, zht]; rfl
def zbi9 := rg o_68_1.eq_1 <| rg o_68_2.eq_1 <| rg o_68_3.eq_1 <| xg c_68_4.eq_1 <| rg o_68_5.eq_1 <| xg c_68_6.eq_1 <| @ex_of T _ _ c_68_7.eq_1
def zbja := @vd T F.zj5 ztq [0] zbf2 rfl rfl
theorem zbjb : ztq.res = [.tmp 2] ∧ ztq.rets = [[4]] ∧ ztq.body = (.seq (.reg o_68_1) c_68_7) := ⟨rfl, rfl, rfl⟩
def zbjc := rg o_69_1.eq_1 <| rg o_69_2.eq_1 <| @ex_of T _ _ c_69_3.eq_1
def zbjd := @vi T F.zmm zts zbf3 rfl
theorem zbje {n : Nat} {H : Hp} {vs : List V} : (orc T (n + 1)).inl F.zmm vs H = finI H.length false [.tmp 3] (unw T (orc T n) n H.length [] (exec T (orc T n) n H.length (.seq (.reg o_69_1) c_69_3) (params 0 vs) H)) := by rw [zhv, zbf3, y6, zht]; rfl
def zbjf := rg o_70_1.eq_1 <| rg o_70_2.eq_1 <| rg o_70_3.eq_1 <| rg o_70_4.eq_1 <| rg o_70_5.eq_1 <| rg o_70_6.eq_1 <| xg c_70_7.eq_1 <| xg c_70_8.eq_1 <| rg o_70_9.eq_1 <| xg ztt.eq_1 <| xg ztu.eq_1 <| xg ztv.eq_1 <| xg ztw.eq_1 <| xg ztx.eq_1 <| rg zty.eq_1 <| xg ztz.eq_1 <| @ex_of T _ _ zt0.eq_1
def zbjg := @vi T F.zmn zt2 zbf4 rfl
theorem zbjh {n : Nat} {H : Hp} {vs : List V} : (orc T (n + 1)).inl F.zmn vs H = finI H.length false [.tmp 4] (unw T (orc T n) n H.length [] (exec T (orc T n) n H.length (.seq (.reg o_70_1) zt0) (params 0 vs) H)) := by rw [zhv, zbf4, y6, zht]; rfl
def zbji := rg o_71_1.eq_1 <| rg o_71_2.eq_1 <| @ex_of T _ _ c_71_3.eq_1
def zbjj := @vi T F.zmo zt4 zbf5 rfl
theorem zbjk {n : Nat} {H : Hp} {vs : List V} : (orc T (n + 1)).inl F.zmo vs H = finI H.length false [.tmp 3] (unw T (orc T n) n H.length [] (exec T (orc T n) n H.length (.seq (.reg o_71_1) c_71_3) (params 0 vs) H)) := by rw [zhv, zbf5, y6, zht]; rfl
def zbjl := @vd T F.zj6 zt5 [4, 0, 4] zbf6 rfl rfl
theorem zbjm : zt5.res = [.tmp 6] ∧ zt5.rets = [[4]] ∧ zt5.body = .fail := ⟨rfl, rfl, rfl⟩
def zbjn := rg o_80_1.eq_1 <| rg o_80_2.eq_1 <| rg o_80_3.eq_1 <| And.intro (@df_of T _ _ [(6, 2), (6, 4), (7, 2), (7, 4)] o_80_3.eq_1) <| rg o_80_4.eq_1 <| rg o_80_5.eq_1 <| rg o_80_6.eq_1 <| rg o_80_7.eq_1 <| And.intro (@df_of T _ _ [(5, 3), (8, 3), (8, 6)] o_80_7.eq_1) <| xg c_80_8.eq_1 <| rg o_80_9.eq_1 <| xg zt6.eq_1 <| xg zt7.eq_1 <| xg zt8.eq_1 <| xg zt9.eq_1 <| xg zua.eq_1 <| rg zub.eq_1 <| xg zuc.eq_1 <| xg zud.eq_1 <| xg zue.eq_1 <| @ex_of T _ _ zuf.eq_1
def zbjo := @vd T F.zlr zuh [0] zbf7 rfl rfl
theorem zbjp : zuh.res = [.tmp 2] ∧ zuh.rets = [[2]] ∧ zuh.body = (.seq (.reg o_80_1) zuf) := ⟨rfl, rfl, rfl⟩
def zbjq := rg o_81_1.eq_1 <| rg o_81_2.eq_1 <| rg o_81_3.eq_1 <| xg c_81_4.eq_1 <| rg o_81_5.eq_1 <| xg c_81_6.eq_1 <| @ex_of T _ _ c_81_7.eq_1
def zbjr := @vd T F.zle zuj [2, 0] zbf8 rfl rfl
theorem zbjs : zuj.res = [.tmp 4] ∧ zuj.rets = [[2]] ∧ zuj.body = (.seq (.reg o_81_1) c_81_7) := ⟨rfl, rfl, rfl⟩
def zbjt := rg o_82_1.eq_1 <| rg o_82_2.eq_1 <| rg o_82_3.eq_1 <| xg c_82_4.eq_1 <| @ex_of T _ _ c_82_5.eq_1
def zbju := @vd T F.zls zul [0] zbf9 rfl rfl
theorem zbjv : zul.res = [.tmp 2] ∧ zul.rets = [[2]] ∧ zul.body = (.seq (.reg o_82_1) c_82_5) := ⟨rfl, rfl, rfl⟩
def zbjw := rg o_83_1.eq_1 <| rg o_83_2.eq_1 <| @ex_of T _ _ c_83_3.eq_1
def zbjx := @vd T F.zla zun [0] zbga rfl rfl
theorem zbjy : zun.res = [.tmp 2] ∧ zun.rets = [[2]] ∧ zun.body = (.seq (.reg o_83_1) c_83_3) := ⟨rfl, rfl, rfl⟩
def zbjz := rg o_84_1.eq_1 <| rg o_84_2.eq_1 <| @ex_of T _ _ c_84_3.eq_1
def zbj0 := @vd T F.zk7 zup [0] zbgb rfl rfl
theorem zbj1 : zup.res = [.tmp 2] ∧ zup.rets = [[]] ∧ zup.body = (.seq (.reg o_84_1) c_84_3) := ⟨rfl, rfl, rfl⟩
def zbj2 := rg o_88_1.eq_1 <| rg o_88_2.eq_1 <| rg o_88_3.eq_1 <| xg c_88_4.eq_1 <| rg o_88_5.eq_1 <| rg o_88_6.eq_1 <| xg c_88_7.eq_1 <| rg o_88_8.eq_1 <| rg o_88_9.eq_1 <| xg zuq.eq_1 <| rg zur.eq_1 <| rg zus.eq_1 <| xg zut.eq_1 <| rg zuu.eq_1 <| rg zuv.eq_1 <| xg zuw.eq_1 <| rg zux.eq_1 <| And.intro (@dr_of T _ _ [(1, 10), (3, 10), (4, 10)] zux.eq_1 (by decide)) <| rg zuy.eq_1 <| xg zuz.eq_1 <| rg zu0.eq_1 <| xg zu1.eq_1 <| xg zu2.eq_1 <| xg zu3.eq_1 <| xg zu4.eq_1 <| rg zu5.eq_1 <| xg zu6.eq_1 <| xg zu7.eq_1 <| xg zu8.eq_1 <| xg zu9.eq_1 <| xg zva.eq_1 <| @ex_of T _ _ zvb.eq_1
def zbj3 := @vd T F.zkk zvd [0] zbgc rfl rfl
theorem zbj4 : zvd.res = [.tmp 2] ∧ zvd.rets = [[]] ∧ zvd.body = (.seq (.reg o_88_1) zvb) := ⟨rfl, rfl, rfl⟩
def zbj5 := rg o_91_1.eq_1 <| rg o_91_2.eq_1 <| rg o_91_3.eq_1 <| rg o_91_4.eq_1 <| rg o_91_5.eq_1 <| rg o_91_6.eq_1 <| rg o_91_7.eq_1 <| xg c_91_8.eq_1 <| xg c_91_9.eq_1 <| xg zve.eq_1 <| rg zvf.eq_1 <| xg zvg.eq_1 <| xg zvh.eq_1 <| xg zvi.eq_1 <| xg zvj.eq_1 <| xg zvk.eq_1 <| rg zvl.eq_1 <| rg zvm.eq_1 <| rg zvn.eq_1 <| rg zvo.eq_1 <| rg zvp.eq_1 <| xg zvq.eq_1 <| rg zvr.eq_1 <| xg zvs.eq_1 <| xg zvt.eq_1 <| xg zvu.eq_1 <| xg zvv.eq_1 <| xg zvw.eq_1 <| rg zvx.eq_1 <| xg zvy.eq_1 <| xg zvz.eq_1 <| xg zv0.eq_1 <| xg zv1.eq_1 <| @ex_of T _ _ zv2.eq_1
def zbj6 := @vd T F.zll zv4 [0] zbgd rfl rfl
theorem zbj7 : zv4.res = [.tmp 2] ∧ zv4.rets = [[2]] ∧ zv4.body = (.seq (.reg o_91_1) zv2) := ⟨rfl, rfl, rfl⟩
def zbj8 := rg o_95_1.eq_1 <| rg o_95_2.eq_1 <| @ex_of T _ _ c_95_3.eq_1
def zbj9 := @vi T F.zmp zv6 zbge rfl
theorem zbka {n : Nat} {H : Hp} {vs : List V} : (orc T (n + 1)).inl F.zmp vs H = finI H.length false [.tmp 4] (unw T (orc T n) n H.length [] (exec T (orc T n) n H.length (.seq (.reg o_95_1) c_95_3) (params 0 vs) H)) := by rw [zhv, zbge, y6, zht]; rfl
def zbkb := rg o_96_1.eq_1 <| rg o_96_2.eq_1 <| @ex_of T _ _ c_96_3.eq_1
def zbkc := @vd T F.zju zv8 [0] zbgf rfl rfl
theorem zbkd : zv8.res = [.tmp 2] ∧ zv8.rets = [[]] ∧ zv8.body = (.seq (.reg o_96_1) c_96_3) := ⟨rfl, rfl, rfl⟩
def zbke := rg o_97_1.eq_1 <| rg o_97_2.eq_1 <| @ex_of T _ _ c_97_3.eq_1
def zbkf := @vd T F.zjt zwa [0] zbgg rfl rfl
theorem zbkg : zwa.res = [.tmp 2] ∧ zwa.rets = [[]] ∧ zwa.body = (.seq (.reg o_97_1) c_97_3) := ⟨rfl, rfl, rfl⟩
def zbkh := rg o_98_1.eq_1 <| rg o_98_2.eq_1 <| rg o_98_3.eq_1 <| rg o_98_4.eq_1 <| xg c_98_5.eq_1 <| rg o_98_6.eq_1 <| rg o_98_7.eq_1 <| xg c_98_8.eq_1 <| rg o_98_9.eq_1 <| xg zwb.eq_1 <| rg zwc.eq_1 <| xg zwd.eq_1 <| xg zwe.eq_1 <| xg zwf.eq_1 <| xg zwg.eq_1 <| rg zwh.eq_1 <| xg zwi.eq_1 <| xg zwj.eq_1 <| @ex_of T _ _ zwk.eq_1
def zbki := @vd T F.zjw zwm [0, 0] zbgh rfl rfl
theorem zbkj : zwm.res = [.tmp 4] ∧ zwm.rets = [[]] ∧ zwm.body = (.seq (.reg o_98_1) zwk) := ⟨rfl, rfl, rfl⟩
def zbkk := rg o_99_1.eq_1 <| rg o_99_2.eq_1 <| @ex_of T _ _ c_99_3.eq_1
def zbkl := @vd T F.zj0 zwo [0] zbgi rfl rfl
theorem zbkm : zwo.res = [.tmp 2] ∧ zwo.rets = [[]] ∧ zwo.body = (.seq (.reg o_99_1) c_99_3) := ⟨rfl, rfl, rfl⟩
def zbkn := rg zwp.eq_1 <| rg zwq.eq_1 <| And.intro (@dr_of T _ _ [(10, 13), (18, 21)] zwq.eq_1 (by decide)) <| @ex_of T _ _ zwr.eq_1
def zbko := @vd T F.zkl zwt [0] zbgj rfl rfl
theorem zbkp : zwt.res = [.tmp 2] ∧ zwt.rets = [[]] ∧ zwt.body = (.seq (.reg zwp) zwr) := ⟨rfl, rfl, rfl⟩
def zbkq := rg zwu.eq_1 <| rg zwv.eq_1 <| rg zww.eq_1 <| rg zwx.eq_1 <| rg zwy.eq_1 <| rg zwz.eq_1 <| rg zw0.eq_1 <| xg zw1.eq_1 <| rg zw2.eq_1 <| rg zw3.eq_1 <| rg zw4.eq_1 <| xg zw5.eq_1 <| xg zw6.eq_1 <| xg zw7.eq_1 <| xg zw8.eq_1 <| rg zw9.eq_1 <| xg zxa.eq_1 <| xg zxb.eq_1 <| @ex_of T _ _ zxc.eq_1
def zbkr := @vd T F.zkn zxe [0, 0] zbgk rfl rfl
theorem zbks : zxe.res = [.cell 4 4 true, .tmp 5] ∧ zxe.rets = [[], []] ∧ zxe.body = (.seq (.reg zwu) zxc) := ⟨rfl, rfl, rfl⟩
def zbkt := rg zxf.eq_1 <| rg zxg.eq_1 <| rg zxh.eq_1 <| rg zxi.eq_1 <| rg zxj.eq_1 <| rg zxk.eq_1 <| And.intro (@df_of T _ _ [(4, 2)] zxk.eq_1) <| rg zxl.eq_1 <| xg zxm.eq_1 <| rg zxn.eq_1 <| rg zxo.eq_1 <| xg zxp.eq_1 <| rg zxq.eq_1 <| rg zxr.eq_1 <| rg zxs.eq_1 <| xg zxt.eq_1 <| xg zxu.eq_1 <| xg zxv.eq_1 <| xg zxw.eq_1 <| rg zxx.eq_1 <| rg zxy.eq_1 <| rg zxz.eq_1 <| xg zx0.eq_1 <| rg zx1.eq_1 <| rg zx2.eq_1 <| rg zx3.eq_1 <| xg zx4.eq_1 <| xg zx5.eq_1 <| xg zx6.eq_1 <| xg zx7.eq_1 <| xg zx8.eq_1 <| xg zx9.eq_1 <| @ex_of T _ _ zya.eq_1
def zbku := @vd T F.zkp zyc [0, 0] zbgl rfl rfl
theorem zbkv : zyc.res = [.cell 4 4 true, .tmp 5] ∧ zyc.rets = [[], []] ∧ zyc.body = (.seq (.reg zxf) zya) := ⟨rfl, rfl, rfl⟩
def zbkw := rg zyd.eq_1 <| rg zye.eq_1 <| rg zyf.eq_1 <| rg zyg.eq_1 <| rg zyh.eq_1 <| xg zyi.eq_1 <| xg zyj.eq_1 <| rg zyk.eq_1 <| xg zyl.eq_1 <| xg zym.eq_1 <| rg zyn.eq_1 <| rg zyo.eq_1 <| xg zyp.eq_1 <| rg zyq.eq_1 <| rg zyr.eq_1 <| rg zys.eq_1 <| rg zyt.eq_1 <| rg zyu.eq_1 <| rg zyv.eq_1 <| And.intro (@dr_of T _ _ [(1, 6), (3, 6)] zyv.eq_1 (by decide)) <| rg zyw.eq_1 <| rg zyx.eq_1 <| xg zyy.eq_1 <| rg zyz.eq_1 <| xg zy0.eq_1 <| xg zy1.eq_1 <| xg zy2.eq_1 <| xg zy3.eq_1 <| xg zy4.eq_1 <| rg zy5.eq_1 <| xg zy6.eq_1 <| xg zy7.eq_1 <| xg zy8.eq_1 <| xg zy9.eq_1 <| @ex_of T _ _ zza.eq_1
def zbkx := @vd T F.zkv zzc [0, 0] zbgm rfl rfl
theorem zbky : zzc.res = [.cell 4 4 true, .tmp 5] ∧ zzc.rets = [[], []] ∧ zzc.body = (.seq (.reg zyd) zza) := ⟨rfl, rfl, rfl⟩
def zbkz := rg zzd.eq_1 <| rg zze.eq_1 <| rg zzf.eq_1 <| rg zzg.eq_1 <| rg zzh.eq_1 <| rg zzi.eq_1 <| rg zzj.eq_1 <| rg zzk.eq_1 <| rg zzl.eq_1 <| And.intro (@df_of T _ _ [(0, 5)] zzl.eq_1) <| rg zzm.eq_1 <| rg zzn.eq_1 <| xg zzo.eq_1 <| xg zzp.eq_1 <| xg zzq.eq_1 <| xg zzr.eq_1 <| xg zzs.eq_1 <| rg zzt.eq_1 <| And.intro (@dr_of T _ _ [(7, 4)] zzt.eq_1 (by decide)) <| rg zzu.eq_1 <| rg zzv.eq_1 <| rg zzw.eq_1 <| xg zzx.eq_1 <| rg zzy.eq_1 <| rg zzz.eq_1 <| xg zz0.eq_1 <| xg zz1.eq_1 <| xg zz2.eq_1 <| xg zz3.eq_1 <| xg zz4.eq_1 <| @ex_of T _ _ zz5.eq_1
def zbk0 := @vd T F.zkx zz7 [0, 0] zbgn rfl rfl
theorem zbk1 : zz7.res = [.cell 4 4 true, .tmp 5] ∧ zz7.rets = [[], []] ∧ zz7.body = (.seq (.reg zzd) zz5) := ⟨rfl, rfl, rfl⟩
def zbk2 := rg zz8.eq_1 <| rg zz9.eq_1 <| @ex_of T _ _ z0a.eq_1
def zbk3 := @vd T F.zlb z0c [0, 0] zbgo rfl rfl
theorem zbk4 : z0c.res = [.tmp 4] ∧ z0c.rets = [[2]] ∧ z0c.body = (.seq (.reg zz8) z0a) := ⟨rfl, rfl, rfl⟩
def zbk5 := rg z0d.eq_1 <| rg z0e.eq_1 <| xg z0f.eq_1 <| rg z0g.eq_1 <| rg z0h.eq_1 <| xg z0i.eq_1 <| xg z0j.eq_1 <| xg z0k.eq_1 <| rg z0l.eq_1 <| xg z0m.eq_1 <| @ex_of T _ _ z0n.eq_1
def zbk6 := @vd T F.zld z0p [2, 0] zbgp rfl rfl
theorem zbk7 : z0p.res = [.tmp 4] ∧ z0p.rets = [[2]] ∧ z0p.body = (.seq (.reg z0d) z0n) := ⟨rfl, rfl, rfl⟩
def zbk8 := rg z0q.eq_1 <| rg z0r.eq_1 <| @ex_of T _ _ z0s.eq_1
def zbk9 := @vd T F.zlf z0u [0] zbgq rfl rfl
theorem zbla : z0u.res = [.tmp 2] ∧ z0u.rets = [[]] ∧ z0u.body = (.seq (.reg z0q) z0s) := ⟨rfl, rfl, rfl⟩
def zblb := rg z0v.eq_1 <| rg z0w.eq_1 <| And.intro (@dr_of T _ _ [(10, 13), (18, 21)] z0w.eq_1 (by decide)) <| @ex_of T _ _ z0x.eq_1
def zblc := @vd T F.zlx z0z [0] zbgr rfl rfl
theorem zbld : z0z.res = [.tmp 2] ∧ z0z.rets = [[]] ∧ z0z.body = (.seq (.reg z0v) z0x) := ⟨rfl, rfl, rfl⟩
def zble := rg z00.eq_1 <| rg z01.eq_1 <| rg z02.eq_1 <| rg z03.eq_1 <| rg z04.eq_1 <| xg z05.eq_1 <| xg z06.eq_1 <| rg z07.eq_1 <| rg z08.eq_1 <| rg z09.eq_1 <| xg z1a.eq_1 <| xg z1b.eq_1 <| rg z1c.eq_1 <| rg z1d.eq_1 <| xg z1e.eq_1 <| rg z1f.eq_1 <| xg z1g.eq_1 <| xg z1h.eq_1 <| xg z1i.eq_1 <| xg z1j.eq_1 <| @ex_of T _ _ z1k.eq_1
def zblf := @vd T F.zlz z1m [0, 0] zbgs rfl rfl
theorem zblg : z1m.res = [.cell 4 4 true, .tmp 5] ∧ z1m.rets = [[], []] ∧ z1m.body = (.seq (.reg z00) z1k) := ⟨rfl, rfl, rfl⟩
def zblh := rg z1n.eq_1 <| rg z1o.eq_1 <| rg z1p.eq_1 <| rg z1q.eq_1 <| rg z1r.eq_1 <| rg z1s.eq_1 <| xg z1t.eq_1 <| rg z1u.eq_1 <| rg z1v.eq_1 <| rg z1w.eq_1 <| rg z1x.eq_1 <| xg z1y.eq_1 <| xg z1z.eq_1 <| xg z10.eq_1 <| xg z11.eq_1 <| rg z12.eq_1 <| rg z13.eq_1 <| rg z14.eq_1 <| xg z15.eq_1 <| rg z16.eq_1 <| rg z17.eq_1 <| rg z18.eq_1 <| rg z19.eq_1 <| And.intro (@df_of T _ _ [(2, 4), (3, 4)] z19.eq_1) <| xg z2a.eq_1 <| xg z2b.eq_1 <| rg z2c.eq_1 <| rg z2d.eq_1 <| And.intro (@df_of T _ _ [(4, 6), (5, 6)] z2d.eq_1) <| xg z2e.eq_1 <| xg z2f.eq_1 <| xg z2g.eq_1 <| xg z2h.eq_1 <| rg z2i.eq_1 <| rg z2j.eq_1 <| xg z2k.eq_1 <| xg z2l.eq_1 <| xg z2m.eq_1 <| xg z2n.eq_1 <| rg z2o.eq_1 <| xg z2p.eq_1 <| xg z2q.eq_1 <| @ex_of T _ _ z2r.eq_1
def zbli := @vd T F.zl0 z2t [0, 0] zbgt rfl rfl
theorem zblj : z2t.res = [.cell 4 4 true, .tmp 5] ∧ z2t.rets = [[], []] ∧ z2t.body = (.seq (.reg z1n) z2r) := ⟨rfl, rfl, rfl⟩
def zblk := rg z2u.eq_1 <| rg z2v.eq_1 <| rg z2w.eq_1 <| xg z2x.eq_1 <| rg z2y.eq_1 <| rg z2z.eq_1 <| xg z20.eq_1 <| rg z21.eq_1 <| rg z22.eq_1 <| rg z23.eq_1 <| rg z24.eq_1 <| xg z25.eq_1 <| rg z26.eq_1 <| rg z27.eq_1 <| xg z28.eq_1 <| rg z29.eq_1 <| rg z3a.eq_1 <| rg z3b.eq_1 <| xg z3c.eq_1 <| rg z3d.eq_1 <| And.intro (@df_of T _ _ [(1, 6), (3, 6)] z3d.eq_1) <| xg z3e.eq_1 <| xg z3f.eq_1 <| rg z3g.eq_1 <| xg z3h.eq_1 <| xg z3i.eq_1 <| xg z3j.eq_1 <| xg z3k.eq_1 <| xg z3l.eq_1 <| xg z3m.eq_1 <| xg z3n.eq_1 <| @ex_of T _ _ z3o.eq_1
def zbll := @vd T F.zl7 z3q [0, 0] zbgu rfl rfl
theorem zblm : z3q.res = [.cell 4 4 true, .tmp 5] ∧ z3q.rets = [[], []] ∧ z3q.body = (.seq (.reg z2u) z3o) := ⟨rfl, rfl, rfl⟩
def zbln := rg z3r.eq_1 <| rg z3s.eq_1 <| rg z3t.eq_1 <| rg z3u.eq_1 <| xg z3v.eq_1 <| xg z3w.eq_1 <| rg z3x.eq_1 <| rg z3y.eq_1 <| xg z3z.eq_1 <| rg z30.eq_1 <| rg z31.eq_1 <| xg z32.eq_1 <| rg z33.eq_1 <| rg z34.eq_1 <| rg z35.eq_1 <| rg z36.eq_1 <| xg z37.eq_1 <| rg z38.eq_1 <| rg z39.eq_1 <| xg z4a.eq_1 <| rg z4b.eq_1 <| rg z4c.eq_1 <| xg z4d.eq_1 <| rg z4e.eq_1 <| rg z4f.eq_1 <| xg z4g.eq_1 <| rg z4h.eq_1 <| rg z4i.eq_1 <| xg z4j.eq_1 <| rg z4k.eq_1 <| rg z4l.eq_1 <| rg z4m.eq_1 <| xg z4n.eq_1 <| xg z4o.eq_1 <| xg z4p.eq_1 <| xg z4q.eq_1 <| xg z4r.eq_1 <| xg z4s.eq_1 <| xg z4t.eq_1 <| xg z4u.eq_1 <| xg z4v.eq_1 <| xg z4w.eq_1 <| xg z4x.eq_1 <| xg z4y.eq_1 <| @ex_of T _ _ z4z.eq_1
def zblo := @vd T F.zl9 z41 [0, 0] zbgv rfl rfl
theorem zblp : z41.res = [.cell 4 4 true, .tmp 5] ∧ z41.rets = [[], []] ∧ z41.body = (.seq (.reg z3r) z4z) := ⟨rfl, rfl, rfl⟩
def zblq := rg z42.eq_1 <| rg z43.eq_1 <| rg z44.eq_1 <| xg z45.eq_1 <| rg z46.eq_1 <| And.intro (@df_of T _ _ [(3, 2), (7, 2), (7, 4), (7, 5), (8, 2), (8, 4), (8, 5)] z46.eq_1) <| rg z47.eq_1 <| rg z48.eq_1 <| rg z49.eq_1 <| rg z5a.eq_1 <| xg z5b.eq_1 <| rg z5c.eq_1 <| xg z5d.eq_1 <| xg z5e.eq_1 <| xg z5f.eq_1 <| xg z5g.eq_1 <| xg z5h.eq_1 <| rg z5i.eq_1 <| xg z5j.eq_1 <| xg z5k.eq_1 <| xg z5l.eq_1 <| @ex_of T _ _ z5m.eq_1
def zblr := @vd T F.zlp z5o [0] zbgw rfl rfl
theorem zbls : z5o.res = [.tmp 2, .tmp 3] ∧ z5o.rets = [[2], []] ∧ z5o.body = (.seq (.reg z42) z5m) := ⟨rfl, rfl, rfl⟩
def zblt := rg z5p.eq_1 <| rg z5q.eq_1 <| rg z5r.eq_1 <| rg z5s.eq_1 <| rg z5t.eq_1 <| rg z5u.eq_1 <| xg z5v.eq_1 <| rg z5w.eq_1 <| xg z5x.eq_1 <| xg z5y.eq_1 <| xg z5z.eq_1 <| xg z50.eq_1 <| xg z51.eq_1 <| rg z52.eq_1 <| xg z53.eq_1 <| xg z54.eq_1 <| @ex_of T _ _ z55.eq_1
def zblu := @vd T F.zk9 z57 [0, 0] zbgx rfl rfl
theorem zblv : z57.res = [.tmp 4] ∧ z57.rets = [[2]] ∧ z57.body = (.seq (.reg z5p) z55) := ⟨rfl, rfl, rfl⟩
def zblw := rg z58.eq_1 <| rg z59.eq_1 <| rg z6a.eq_1 <| rg z6b.eq_1 <| rg z6c.eq_1 <| rg z6d.eq_1 <| rg z6e.eq_1 <| xg z6f.eq_1 <| rg z6g.eq_1 <| xg z6h.eq_1 <| xg z6i.eq_1 <| xg z6j.eq_1 <| xg z6k.eq_1 <| xg z6l.eq_1 <| rg z6m.eq_1 <| xg z6n.eq_1 <| xg z6o.eq_1 <| xg z6p.eq_1 <| @ex_of T _ _ z6q.eq_1
def zblx := @vd T F.zk6 z6s [0, 0] zbgy rfl rfl
theorem zbly : z6s.res = [.tmp 4] ∧ z6s.rets = [[]] ∧ z6s.body = (.seq (.reg z58) z6q) := ⟨rfl, rfl, rfl⟩
def zblz := rg z6t.eq_1 <| rg z6u.eq_1 <| rg z6v.eq_1 <| xg z6w.eq_1 <| rg z6x.eq_1 <| rg z6y.eq_1 <| xg z6z.eq_1 <| rg z60.eq_1 <| rg z61.eq_1 <| xg z62.eq_1 <| rg z63.eq_1 <| xg z64.eq_1 <| xg z65.eq_1 <| xg z66.eq_1 <| xg z67.eq_1 <| rg z68.eq_1 <| xg z69.eq_1 <| xg z7a.eq_1 <| @ex_of T _ _ z7b.eq_1
def zbl0 := @vd T F.zkh z7d [0, 0] zbgz rfl rfl
theorem zbl1 : z7d.res = [.tmp 4] ∧ z7d.rets = [[]] ∧ z7d.body = (.seq (.reg z6t) z7b) := ⟨rfl, rfl, rfl⟩
def zbl2 := rg z7e.eq_1 <| rg z7f.eq_1 <| rg z7g.eq_1 <| xg z7h.eq_1 <| rg z7i.eq_1 <| rg z7j.eq_1 <| xg z7k.eq_1 <| rg z7l.eq_1 <| xg z7m.eq_1 <| xg z7n.eq_1 <| @ex_of T _ _ z7o.eq_1
def zbl3 := @vd T F.zki z7q [0] zbg0 rfl rfl
theorem zbl4 : z7q.res = [.tmp 2] ∧ z7q.rets = [[]] ∧ z7q.body = (.seq (.reg z7e) z7o) := ⟨rfl, rfl, rfl⟩
def zbl5 := rg z7r.eq_1 <| rg z7s.eq_1 <| xg z7t.eq_1 <| rg z7u.eq_1 <| rg z7v.eq_1 <| rg z7w.eq_1 <| xg z7x.eq_1 <| xg z7y.eq_1 <| rg z7z.eq_1 <| xg z70.eq_1 <| xg z71.eq_1 <| @ex_of T _ _ z72.eq_1
def zbl6 := @vi T F.zmq z74 zbg1 rfl
theorem zbl7 {n : Nat} {H : Hp} {vs : List V} : (orc T (n + 1)).inl F.zmq vs H = finI H.length false [.tmp 4] (unw T (orc T n) n H.length [] (exec T (orc T n) n H.length (.seq (.reg z7r) z72) (params 0 vs) H)) := by rw [zhv, zbg1, y6, zht]; rfl
def zbl8 := rg z75.eq_1 <| rg z76.eq_1 <| rg z77.eq_1 <| rg z78.eq_1 <| rg z79.eq_1 <| rg z8a.eq_1 <| xg z8b.eq_1 <| xg z8c.eq_1 <| rg z8d.eq_1 <| xg z8e.eq_1 <| xg z8f.eq_1 <| xg z8g.eq_1 <| xg z8h.eq_1 <| xg z8i.eq_1 <| rg z8j.eq_1 <| xg z8k.eq_1 <| @ex_of T _ _ z8l.eq_1
def zbl9 := @vi T F.zmr z8n zbg2 rfl
theorem zbma {n : Nat} {H : Hp} {vs : List V} : (orc T (n + 1)).inl F.zmr vs H = finI H.length false [.tmp 4] (unw T (orc T n) n H.length [] (exec T (orc T n) n H.length (.seq (.reg z75) z8l) (params 0 vs) H)) := by rw [zhv, zbg2, y6, zht]; rfl
def zbmb := rg z8o.eq_1 <| rg z8p.eq_1 <| rg z8q.eq_1 <| rg z8r.eq_1 <| xg z8s.eq_1 <| rg z8t.eq_1 <| rg z8u.eq_1 <| rg z8v.eq_1 <| rg z8w.eq_1 <| xg z8x.eq_1 <| xg z8y.eq_1 <| xg z8z.eq_1 <| xg z80.eq_1 <| xg z81.eq_1 <| @ex_of T _ _ z82.eq_1
def zbmc := @vd T F.zko z84 [2, 0, 0] zbg3 rfl rfl
theorem zbmd : z84.res = [.tmp 6] ∧ z84.rets = [[2]] ∧ z84.body = (.seq (.reg z8o) z82) := ⟨rfl, rfl, rfl⟩
def zbme := rg z85.eq_1 <| rg z86.eq_1 <| rg z87.eq_1 <| rg z88.eq_1 <| xg z89.eq_1 <| xg z9a.eq_1 <| rg z9b.eq_1 <| xg z9c.eq_1 <| @ex_of T _ _ z9d.eq_1
def zbmf := @vd T F.zks z9f [0, 0] zbg4 rfl rfl
theorem zbmg : z9f.res = [.tmp 4] ∧ z9f.rets = [[]] ∧ z9f.body = (.seq (.reg z85) z9d) := ⟨rfl, rfl, rfl⟩
def zbmh := rg z9g.eq_1 <| rg z9h.eq_1 <| rg z9i.eq_1 <| xg z9j.eq_1 <| rg z9k.eq_1 <| xg z9l.eq_1 <| xg z9m.eq_1 <| rg z9n.eq_1 <| xg z9o.eq_1 <| xg z9p.eq_1 <| @ex_of T _ _ z9q.eq_1
def zbmi := @vd T F.zkr z9s [0, 0] zbg5 rfl rfl
theorem zbmj : z9s.res = [.tmp 4, .tmp 5] ∧ z9s.rets = [[], []] ∧ z9s.body = (.seq (.reg z9g) z9q) := ⟨rfl, rfl, rfl⟩
def zbmk := rg z9t.eq_1 <| rg z9u.eq_1 <| rg z9v.eq_1 <| rg z9w.eq_1 <| rg z9x.eq_1 <| rg z9y.eq_1 <| xg z9z.eq_1 <| xg z90.eq_1 <| rg z91.eq_1 <| rg z92.eq_1 <| xg z93.eq_1 <| xg z94.eq_1 <| rg z95.eq_1 <| xg z96.eq_1 <| xg z97.eq_1 <| @ex_of T _ _ z98.eq_1
def zbml := @vd T F.zku zbaa [0, 0, 0] zbg6 rfl rfl
theorem zbmm : zbaa.res = [.tmp 6, .tmp 7] ∧ zbaa.rets = [[], []] ∧ zbaa.body = (.seq (.reg z9t) z98) := ⟨rfl, rfl, rfl⟩
def zbmn := rg zbab.eq_1 <| rg zbac.eq_1 <| rg zbad.eq_1 <| xg zbae.eq_1 <| rg zbaf.eq_1 <| rg zbag.eq_1 <| And.intro (@dr_of T _ _ [(5, 3)] zbag.eq_1 (by decide)) <| rg zbah.eq_1 <| rg zbai.eq_1 <| rg zbaj.eq_1 <| rg zbak.eq_1 <| xg zbal.eq_1 <| xg zbam.eq_1 <| rg zban.eq_1 <| rg zbao.eq_1 <| rg zbap.eq_1 <| xg zbaq.eq_1 <| rg zbar.eq_1 <| rg zbas.eq_1 <| xg zbat.eq_1 <| xg zbau.eq_1 <| xg zbav.eq_1 <| xg zbaw.eq_1 <| xg zbax.eq_1 <| xg zbay.eq_1 <| xg zbaz.eq_1 <| @ex_of T _ _ zba0.eq_1
def zbmo := @vd T F.zkw zba2 [0, 0] zbg7 rfl rfl
theorem zbmp : zba2.res = [.cell 4 4 true, .tmp 5] ∧ zba2.rets = [[], []] ∧ zba2.body = (.seq (.reg zbab) zba0) := ⟨rfl, rfl, rfl⟩
def zbmq := rg zba3.eq_1 <| rg zba4.eq_1 <| rg zba5.eq_1 <| xg zba6.eq_1 <| rg zba7.eq_1 <| rg zba8.eq_1 <| xg zba9.eq_1 <| rg zbba.eq_1 <| xg zbbb.eq_1 <| xg zbbc.eq_1 <| xg zbbd.eq_1 <| xg zbbe.eq_1 <| rg zbbf.eq_1 <| xg zbbg.eq_1 <| @ex_of T _ _ zbbh.eq_1
def zbmr := @vd T F.zl2 zbbj [0, 0] zbg8 rfl rfl
theorem zbms : zbbj.res = [.tmp 4] ∧ zbbj.rets = [[]] ∧ zbbj.body = (.seq (.reg zba3) zbbh) := ⟨rfl, rfl, rfl⟩
def zbmt := rg zbbk.eq_1 <| rg zbbl.eq_1 <| rg zbbm.eq_1 <| rg zbbn.eq_1 <| xg zbbo.eq_1 <| rg zbbp.eq_1 <| rg zbbq.eq_1 <| rg zbbr.eq_1 <| xg zbbs.eq_1 <| xg zbbt.eq_1 <| rg zbbu.eq_1 <| xg zbbv.eq_1 <| xg zbbw.eq_1 <| xg zbbx.eq_1 <| xg zbby.eq_1 <| rg zbbz.eq_1 <| xg zbb0.eq_1 <| xg zbb1.eq_1 <| @ex_of T _ _ zbb2.eq_1
def zbmu := @vd T F.zl4 zbb4 [0, 0] zbg9 rfl rfl
theorem zbmv : zbb4.res = [.tmp 4] ∧ zbb4.rets = [[2]] ∧ zbb4.body = (.seq (.reg zbbk) zbb2) := ⟨rfl, rfl, rfl⟩
def zbmw := rg zbb5.eq_1 <| rg zbb6.eq_1 <| rg zbb7.eq_1 <| rg zbb8.eq_1 <| rg zbb9.eq_1 <| xg zbca.eq_1 <| rg zbcb.eq_1 <| rg zbcc.eq_1 <| rg zbcd.eq_1 <| rg zbce.eq_1 <| xg zbcf.eq_1 <| xg zbcg.eq_1 <| xg zbch.eq_1 <| rg zbci.eq_1 <| rg zbcj.eq_1 <| rg zbck.eq_1 <| xg zbcl.eq_1 <| xg zbcm.eq_1 <| xg zbcn.eq_1 <| rg zbco.eq_1 <| xg zbcp.eq_1 <| xg zbcq.eq_1 <| xg zbcr.eq_1 <| xg zbcs.eq_1 <| rg zbct.eq_1 <| rg zbcu.eq_1 <| rg zbcv.eq_1 <| xg zbcw.eq_1 <| xg zbcx.eq_1 <| rg zbcy.eq_1 <| xg zbcz.eq_1 <| xg zbc0.eq_1 <| xg zbc1.eq_1 <| xg zbc2.eq_1 <| @ex_of T _ _ zbc3.eq_1
def zbmx := @vd T F.zl6 zbc5 [0, 0, 0] zbha rfl rfl
theorem zbmy : zbc5.res = [.tmp 6] ∧ zbc5.rets = [[2]] ∧ zbc5.body = (.seq (.reg zbb5) zbc3) := ⟨rfl, rfl, rfl⟩
def zbmz := rg zbc6.eq_1 <| rg zbc7.eq_1 <| rg zbc8.eq_1 <| xg zbc9.eq_1 <| rg zbda.eq_1 <| rg zbdb.eq_1 <| rg zbdc.eq_1 <| rg zbdd.eq_1 <| rg zbde.eq_1 <| rg zbdf.eq_1 <| xg zbdg.eq_1 <| rg zbdh.eq_1 <| rg zbdi.eq_1 <| xg zbdj.eq_1 <| rg zbdk.eq_1 <| rg zbdl.eq_1 <| rg zbdm.eq_1 <| xg zbdn.eq_1 <| rg zbdo.eq_1 <| rg zbdp.eq_1 <| xg zbdq.eq_1 <| rg zbdr.eq_1 <| rg zbds.eq_1 <| rg zbdt.eq_1 <| xg zbdu.eq_1 <| xg zbdv.eq_1 <| xg zbdw.eq_1 <| xg zbdx.eq_1 <| xg zbdy.eq_1 <| xg zbdz.eq_1 <| xg zbd0.eq_1 <| xg zbd1.eq_1 <| xg zbd2.eq_1 <| xg zbd3.eq_1 <| xg zbd4.eq_1 <| xg zbd5.eq_1 <| @ex_of T _ _ zbd6.eq_1
def zbm0 := @vd T F.zl8 zbd8 [0, 0] zbhb rfl rfl
theorem zbm1 : zbd8.res = [.cell 4 4 true, .tmp 5] ∧ zbd8.rets = [[], []] ∧ zbd8.body = (.seq (.reg zbc6) zbd6) := ⟨rfl, rfl, rfl⟩
def zbm2 := rg zbd9.eq_1 <| rg zbea.eq_1 <| rg zbeb.eq_1 <| xg zbec.eq_1 <| rg zbed.eq_1 <| xg zbee.eq_1 <| @ex_of T _ _ zbef.eq_1
def zbm3 := @vd T F.zln zbeh [0] zbhc rfl rfl
theorem zbm4 : zbeh.res = [.tmp 2] ∧ zbeh.rets = [[]] ∧ zbeh.body = (.seq (.reg zbd9) zbef) := ⟨rfl, rfl, rfl⟩
def zbm5 := rg zbei.eq_1 <| rg zbej.eq_1 <| rg zbek.eq_1 <| rg zbel.eq_1 <| rg zbem.eq_1 <| rg zben.eq_1 <| rg zbeo.eq_1 <| rg zbep.eq_1 <| rg zbeq.eq_1 <| rg zber.eq_1 <| xg zbes.eq_1 <| rg zbet.eq_1 <| xg zbeu.eq_1 <| xg zbev.eq_1 <| xg zbew.eq_1 <| xg zbex.eq_1 <| xg zbey.eq_1 <| rg zbez.eq_1 <| xg zbe0.eq_1 <| xg zbe1.eq_1 <| xg zbe2.eq_1 <| rg zbe3.eq_1 <| xg zbe4.eq_1 <| xg zbe5.eq_1 <| xg zbe6.eq_1 <| xg zbe7.eq_1 <| xg zbe8.eq_1 <| rg zbe9.eq_1 <| xg zbfa.eq_1 <| xg zbfb.eq_1 <| @ex_of T _ _ zbfc.eq_1
def zbm6 := @vd T F.zk4 zbfe [] zbhd rfl rfl
theorem zbm7 : zbfe.res = [.cell 0 256 true] ∧ zbfe.rets = [[]] ∧ zbfe.body = (.seq (.reg zbei) zbfc) := ⟨rfl, rfl, rfl⟩
def zbm8 := @vd T F.zkt zbff [2, 0, 2] zbhe rfl rfl
theorem zbm9 : zbff.res = [.tmp 6] ∧ zbff.rets = [[2]] ∧ zbff.body = .fail := ⟨rfl, rfl, rfl⟩
end Go.Dvm.C
