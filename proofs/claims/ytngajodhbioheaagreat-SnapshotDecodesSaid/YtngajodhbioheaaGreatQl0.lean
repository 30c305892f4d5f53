/- What each piece of the code comes to: part 1. -/
import Derived.Test.YtngajodhbioheaaGreatQc0
set_option linter.all false
set_option maxRecDepth 100000
set_option maxHeartbeats 4000000
namespace Go.Dvm.C
open Go Go.Dvm
def ke := And.intro @Ow.enc.eq_1 <| And.intro @Sl.enc.eq_1 <| And.intro @I.zjf.enc.eq_1 <| And.intro @I.zjg.enc.eq_1 <| And.intro @I.zjh.enc.eq_1 <| And.intro @I.zji.enc.eq_1 <| And.intro @I.zjj.enc.eq_1 <| And.intro @arrEnc.eq_1 <| @I.zjk.enc.eq_1
def kf := And.intro @ke @kn
def tab : List (Nat × MFun) := [(3, znu), (4, znw), (5, zny), (6, zn0), (7, zn2), (8, zn4), (9, zn6), (10, zn8), (11, zo0), (12, zpr), (13, zp1), (14, zp3), (15, zq7), (16, zq9), (17, zrb), (18, zrv), (19, zr5), (20, zr7), (21, zsh), (22, zsj), (23, zsv), (24, zsx), (25, ztp), (26, ztt), (27, zt5), (28, zt7), (29, zt9), (30, zub), (31, zul), (32, zun), (33, zux), (34, zu2), (35, zve), (36, zv5), (37, zwh), (38, zw2), (39, zxc), (40, zxq), (41, zxs), (42, zx2), (43, zya), (44, zzg), (45, zz6), (46, z0u), (47, z04), (48, z06), (49, z1i), (50, z17), (51, z2y), (52, z3k), (53, z34), (54, z36), (55, z38), (56, z4i), (57, z4k), (58, z5a), (59, z5o), (60, z5q), (61, z5u), (62, z5w), (63, z56), (64, z6o), (65, z7d), (66, z71), (67, z73), (68, z75), (69, z77), (70, z79), (71, z8b), (72, z8n), (73, z8p), (74, z9d), (75, z93), (76, zbah), (77, zbaj), (78, zbav), (79, zbaz), (80, zba1), (81, zba9), (82, zbbb), (83, zbbf), (85, zbby), (88, zbb0), (89, zbb2), (90, zbb4), (91, zbb6), (92, zbck), (93, zbcm), (94, zbco), (95, zbcq), (96, zbcs), (97, zbcu), (98, zbc4), (99, zbdc), (100, zbdl), (103, zbdq), (104, zbdv), (108, zbee)]
abbrev T : Nat → Option MFun := look tab
theorem zbef : T F.zne = some znu := rfl
theorem zbeg : T F.zlf = some znw := rfl
theorem zbeh : T F.zl8 = some zny := rfl
theorem zbei : T F.zm9 = some zn0 := rfl
theorem zbej : T F.znd = some zn2 := rfl
theorem zbek : T F.zkg = some zn4 := rfl
theorem zbel : T F.zle = some zn6 := rfl
theorem zbem : T F.zlt = some zn8 := rfl
theorem zben : T F.zlw = some zo0 := rfl
theorem zbeo : T F.zk9 = some zpr := rfl
theorem zbep : T F.zly = some zp1 := rfl
theorem zbeq : T F.zk0 = some zp3 := rfl
theorem zber : T F.zl7 = some zq7 := rfl
theorem zbes : T F.zkk = some zq9 := rfl
theorem zbet : T F.zmo = some zrb := rfl
theorem zbeu : T F.zmp = some zrv := rfl
theorem zbev : T F.zmr = some zr5 := rfl
theorem zbew : T F.zmi = some zr7 := rfl
theorem zbex : T F.zm4 = some zsh := rfl
theorem zbey : T F.zm7 = some zsj := rfl
theorem zbez : T F.znb = some zsv := rfl
theorem zbe0 : T F.zjn = some zsx := rfl
theorem zbe1 : T F.zj4 = some ztp := rfl
theorem zbe2 : T F.zkd = some ztt := rfl
theorem zbe3 : T F.zku = some zt5 := rfl
theorem zbe4 : T F.zkn = some zt7 := rfl
theorem zbe5 : T F.zlb = some zt9 := rfl
theorem zbe6 : T F.zk3 = some zub := rfl
theorem zbe7 : T F.zls = some zul := rfl
theorem zbe8 : T F.zlm = some zun := rfl
theorem zbe9 : T F.zlv = some zux := rfl
theorem zbfa : T F.znf = some zu2 := rfl
theorem zbfb : T F.zkz = some zve := rfl
theorem zbfc : T F.zl3 = some zv5 := rfl
theorem zbfd : T F.zl4 = some zwh := rfl
theorem zbfe : T F.zjt = some zw2 := rfl
theorem zbff : T F.zkj = some zxc := rfl
theorem zbfg : T F.zmn = some zxq := rfl
theorem zbfh : T F.zmd = some zxs := rfl
theorem zbfi : T F.zmk = some zx2 := rfl
theorem zbfj : T F.zmh = some zya := rfl
theorem zbfk : T F.zm1 = some zzg := rfl
theorem zbfl : T F.zm3 = some zz6 := rfl
theorem zbfm : T F.zmy = some z0u := rfl
theorem zbfn : T F.zm6 = some z04 := rfl
theorem zbfo : T F.zjm = some z06 := rfl
theorem zbfp : T F.zju = some z1i := rfl
theorem zbfq : T F.zjx = some z17 := rfl
theorem zbfr : T F.zj1 = some z2y := rfl
theorem zbfs : T F.zj3 = some z3k := rfl
theorem zbft : T F.zng = some z34 := rfl
theorem zbfu : T F.zj5 = some z36 := rfl
theorem zbfv : T F.znh = some z38 := rfl
theorem zbfw : T F.zni = some z4i := rfl
theorem zbfx : T F.znj = some z4k := rfl
theorem zbfy : T F.zj6 = some z5a := rfl
theorem zbfz : T F.zks = some z5o := rfl
theorem zbf0 : T F.zkq = some z5q := rfl
theorem zbf1 : T F.zkm = some z5u := rfl
theorem zbf2 : T F.zla = some z5w := rfl
theorem zbf3 : T F.zk2 = some z56 := rfl
theorem zbf4 : T F.zlq = some z6o := rfl
theorem zbf5 : T F.zll = some z7d := rfl
theorem zbf6 : T F.zkx = some z71 := rfl
theorem zbf7 : T F.znk = some z73 := rfl
theorem zbf8 : T F.zl0 = some z75 := rfl
theorem zbf9 : T F.znl = some z77 := rfl
theorem zbga : T F.zjo = some z79 := rfl
theorem zbgb : T F.zjl = some z8b := rfl
theorem zbgc : T F.zjq = some z8n := rfl
theorem zbgd : T F.zkh = some z8p := rfl
theorem zbge : T F.zml = some z9d := rfl
theorem zbgf : T F.zmc = some z93 := rfl
theorem zbgg : T F.zmf = some zbah := rfl
theorem zbgh : T F.zmt = some zbaj := rfl
theorem zbgi : T F.zmv = some zbav := rfl
theorem zbgj : T F.zmw = some zbaz := rfl
theorem zbgk : T F.zjv = some zba1 := rfl
theorem zbgl : T F.zjw = some zba9 := rfl
theorem zbgm : T F.zj0 = some zbbb := rfl
theorem zbgn : T F.zjz = some zbbf := rfl
theorem zbgo : T F.zj2 = some zbby := rfl
theorem zbgp : T F.zko = some zbb0 := rfl
theorem zbgq : T F.zkp = some zbb2 := rfl
theorem zbgr : T F.zk4 = some zbb4 := rfl
theorem zbgs : T F.zlj = some zbb6 := rfl
theorem zbgt : T F.zlo = some zbck := rfl
theorem zbgu : T F.zlp = some zbcm := rfl
theorem zbgv : T F.znn = some zbco := rfl
theorem zbgw : T F.zno = some zbcq := rfl
theorem zbgx : T F.znp = some zbcs := rfl
theorem zbgy : T F.zlz = some zbcu := rfl
theorem zbgz : T F.znq = some zbc4 := rfl
theorem zbg0 : T F.zma = some zbdc := rfl
theorem zbg1 : T F.zms = some zbdl := rfl
theorem zbg2 : T F.znr = some zbdq := rfl
theorem zbg3 : T F.zlg = some zbdv := rfl
theorem zbg4 : T F.zns = some zbee := rfl
def rg {P : Prop} {c c' : List MO} (h : c = c') (p : P) := ra (T := T) h p
def xg {P : Prop} {c c' : MC} (h : c = c') (p : P) := xa (T := T) h p
def zbg5 := rg o_3_1.eq_1 <| rg o_3_2.eq_1 <| rg o_3_3.eq_1 <| rg o_3_4.eq_1 <| xg c_3_5.eq_1 <| rg o_3_6.eq_1 <| rg o_3_7.eq_1 <| rg o_3_8.eq_1 <| rg o_3_9.eq_1 <| xg c_3_10.eq_1 <| xg c_3_11.eq_1 <| xg c_3_12.eq_1 <| xg c_3_13.eq_1 <| xg c_3_14.eq_1 <| @ex_of T _ _ c_3_15.eq_1
def zbg6 := @vd T F.zne znu [0] zbef rfl rfl
theorem zbg7 : znu.res = [.tmp 2] ∧ znu.rets = [[]] ∧ znu.body = (.seq (.reg o_3_1) c_3_15) := ⟨rfl, rfl, rfl⟩
def zbg8 := rg o_4_1.eq_1 <| rg o_4_2.eq_1 <| rg o_4_3.eq_1 <| rg o_4_4.eq_1 <| xg c_4_5.eq_1 <| xg c_4_6.eq_1 <| @ex_of T _ _ c_4_7.eq_1
def zbg9 := @vd T F.zlf znw [] zbeg rfl rfl
theorem zbha : znw.res = [.tmp 0] ∧ znw.rets = [[]] ∧ znw.body = (.seq (.reg o_4_1) c_4_7) := ⟨rfl, rfl, rfl⟩
def zbhb := rg o_5_1.eq_1 <| rg o_5_2.eq_1 <| rg o_5_3.eq_1 <| rg o_5_4.eq_1 <| rg o_5_5.eq_1 <| rg o_5_6.eq_1 <| rg o_5_7.eq_1 <| xg c_5_8.eq_1 <| xg c_5_9.eq_1 <| rg o_5_10.eq_1 <| rg o_5_11.eq_1 <| rg o_5_12.eq_1 <| xg c_5_13.eq_1 <| rg o_5_14.eq_1 <| rg o_5_15.eq_1 <| rg o_5_16.eq_1 <| rg o_5_17.eq_1 <| rg o_5_18.eq_1 <| rg o_5_19.eq_1 <| And.intro (@dr_of T _ _ [(4, 1)] o_5_19.eq_1 (by decide)) <| rg o_5_20.eq_1 <| xg c_5_21.eq_1 <| xg c_5_22.eq_1 <| xg c_5_23.eq_1 <| rg o_5_24.eq_1 <| rg o_5_25.eq_1 <| rg o_5_26.eq_1 <| xg c_5_27.eq_1 <| rg o_5_28.eq_1 <| rg o_5_29.eq_1 <| rg o_5_30.eq_1 <| xg c_5_31.eq_1 <| xg c_5_32.eq_1 <| rg o_5_33.eq_1 <| xg c_5_34.eq_1 <| xg c_5_35.eq_1 <| xg c_5_36.eq_1 <| xg c_5_37.eq_1 <| xg c_5_38.eq_1 <| xg c_5_39.eq_1 <| xg c_5_40.eq_1 <| xg c_5_41.eq_1 <| xg c_5_42.eq_1 <| xg c_5_43.eq_1 <| @ex_of T _ _ c_5_44.eq_1
def zbhc := @vd T F.zl8 zny [0] zbeh rfl rfl
theorem zbhd : zny.res = [.cell 2 6 true, .tmp 3] ∧ zny.rets = [[], []] ∧ zny.body = (.seq (.reg o_5_1) c_5_44) := ⟨rfl, rfl, rfl⟩
def zbhe := rg o_6_1.eq_1 <| rg o_6_2.eq_1 <| rg o_6_3.eq_1 <| rg o_6_4.eq_1 <| rg o_6_5.eq_1 <| xg c_6_6.eq_1 <| rg o_6_7.eq_1 <| rg o_6_8.eq_1 <| xg c_6_9.eq_1 <| rg o_6_10.eq_1 <| rg o_6_11.eq_1 <| rg o_6_12.eq_1 <| xg c_6_13.eq_1 <| rg o_6_14.eq_1 <| rg o_6_15.eq_1 <| rg o_6_16.eq_1 <| xg c_6_17.eq_1 <| rg o_6_18.eq_1 <| rg o_6_19.eq_1 <| xg c_6_20.eq_1 <| xg c_6_21.eq_1 <| xg c_6_22.eq_1 <| xg c_6_23.eq_1 <| rg o_6_24.eq_1 <| rg o_6_25.eq_1 <| xg c_6_26.eq_1 <| rg o_6_27.eq_1 <| rg o_6_28.eq_1 <| rg o_6_29.eq_1 <| xg c_6_30.eq_1 <| rg o_6_31.eq_1 <| rg o_6_32.eq_1 <| xg c_6_33.eq_1 <| rg o_6_34.eq_1 <| rg o_6_35.eq_1 <| rg o_6_36.eq_1 <| xg c_6_37.eq_1 <| rg o_6_38.eq_1 <| rg o_6_39.eq_1 <| rg o_6_40.eq_1 <| rg o_6_41.eq_1 <| xg c_6_42.eq_1 <| rg o_6_43.eq_1 <| xg c_6_44.eq_1 <| xg c_6_45.eq_1 <| xg c_6_46.eq_1 <| xg c_6_47.eq_1 <| xg c_6_48.eq_1 <| xg c_6_49.eq_1 <| xg c_6_50.eq_1 <| xg c_6_51.eq_1 <| xg c_6_52.eq_1 <| xg c_6_53.eq_1 <| xg c_6_54.eq_1 <| xg c_6_55.eq_1 <| xg c_6_56.eq_1 <| xg c_6_57.eq_1 <| xg c_6_58.eq_1 <| xg c_6_59.eq_1 <| xg c_6_60.eq_1 <| @ex_of T _ _ c_6_61.eq_1
def zbhf := @vd T F.zm9 zn0 [0] zbei rfl rfl
theorem zbhg : zn0.res = [.cell 2 6 true, .tmp 3] ∧ zn0.rets = [[], []] ∧ zn0.body = (.seq (.reg o_6_1) c_6_61) := ⟨rfl, rfl, rfl⟩
def zbhh := rg o_7_1.eq_1 <| rg o_7_2.eq_1 <| rg o_7_3.eq_1 <| rg o_7_4.eq_1 <| xg c_7_5.eq_1 <| rg o_7_6.eq_1 <| rg o_7_7.eq_1 <| xg c_7_8.eq_1 <| rg o_7_9.eq_1 <| rg o_7_10.eq_1 <| xg c_7_11.eq_1 <| rg o_7_12.eq_1 <| xg c_7_13.eq_1 <| xg c_7_14.eq_1 <| xg c_7_15.eq_1 <| xg c_7_16.eq_1 <| rg o_7_17.eq_1 <| xg c_7_18.eq_1 <| xg c_7_19.eq_1 <| xg c_7_20.eq_1 <| @ex_of T _ _ c_7_21.eq_1
def zbhi := @vd T F.znd zn2 [0, 0] zbej rfl rfl
theorem zbhj : zn2.res = [.tmp 4] ∧ zn2.rets = [[]] ∧ zn2.body = (.seq (.reg o_7_1) c_7_21) := ⟨rfl, rfl, rfl⟩
def zbhk := rg o_8_1.eq_1 <| rg o_8_2.eq_1 <| rg o_8_3.eq_1 <| rg o_8_4.eq_1 <| rg o_8_5.eq_1 <| rg o_8_6.eq_1 <| rg o_8_7.eq_1 <| rg o_8_8.eq_1 <| xg c_8_9.eq_1 <| xg c_8_10.eq_1 <| rg o_8_11.eq_1 <| rg o_8_12.eq_1 <| And.intro (@df_of T _ _ [(1, 6)] o_8_12.eq_1) <| xg c_8_13.eq_1 <| xg c_8_14.eq_1 <| xg c_8_15.eq_1 <| rg o_8_16.eq_1 <| xg c_8_17.eq_1 <| xg c_8_18.eq_1 <| xg c_8_19.eq_1 <| xg c_8_20.eq_1 <| xg c_8_21.eq_1 <| rg o_8_22.eq_1 <| xg c_8_23.eq_1 <| @ex_of T _ _ c_8_24.eq_1
def zbhl := @vd T F.zkg zn4 [0, 0] zbek rfl rfl
theorem zbhm : zn4.res = [.cell 4 6 true, .tmp 5] ∧ zn4.rets = [[], []] ∧ zn4.body = (.seq (.reg o_8_1) c_8_24) := ⟨rfl, rfl, rfl⟩
def zbhn := rg o_9_1.eq_1 <| rg o_9_2.eq_1 <| rg o_9_3.eq_1 <| xg c_9_4.eq_1 <| rg o_9_5.eq_1 <| rg o_9_6.eq_1 <| And.intro (@df_of T _ _ [(3, 0), (3, 1), (6, 0), (6, 1), (6, 4)] o_9_6.eq_1) <| rg o_9_7.eq_1 <| rg o_9_8.eq_1 <| xg c_9_9.eq_1 <| rg o_9_10.eq_1 <| rg o_9_11.eq_1 <| rg o_9_12.eq_1 <| xg c_9_13.eq_1 <| xg c_9_14.eq_1 <| xg c_9_15.eq_1 <| xg c_9_16.eq_1 <| rg o_9_17.eq_1 <| xg c_9_18.eq_1 <| xg c_9_19.eq_1 <| xg c_9_20.eq_1 <| xg c_9_21.eq_1 <| xg c_9_22.eq_1 <| @ex_of T _ _ c_9_23.eq_1
def zbho := @vd T F.zle zn6 [0] zbel rfl rfl
theorem zbhp : zn6.res = [.tmp 2, .tmp 3] ∧ zn6.rets = [[2], []] ∧ zn6.body = (.seq (.reg o_9_1) c_9_23) := ⟨rfl, rfl, rfl⟩
def zbhq := rg o_10_1.eq_1 <| rg o_10_2.eq_1 <| rg o_10_3.eq_1 <| rg o_10_4.eq_1 <| xg c_10_5.eq_1 <| rg o_10_6.eq_1 <| xg c_10_7.eq_1 <| xg c_10_8.eq_1 <| @ex_of T _ _ c_10_9.eq_1
def zbhr := @vd T F.zlt zn8 [0] zbem rfl rfl
theorem zbhs : zn8.res = [.tmp 2, .tmp 3] ∧ zn8.rets = [[2], []] ∧ zn8.body = (.seq (.reg o_10_1) c_10_9) := ⟨rfl, rfl, rfl⟩
def zbht := rg o_11_1.eq_1 <| rg o_11_2.eq_1 <| rg o_11_3.eq_1 <| xg c_11_4.eq_1 <| rg o_11_5.eq_1 <| rg o_11_6.eq_1 <| rg o_11_7.eq_1 <| rg o_11_8.eq_1 <| rg o_11_9.eq_1 <| rg zn9.eq_1 <| rg zoa.eq_1 <| rg zob.eq_1 <| rg zoc.eq_1 <| rg zod.eq_1 <| rg zoe.eq_1 <| rg zof.eq_1 <| rg zog.eq_1 <| rg zoh.eq_1 <| xg zoi.eq_1 <| xg zoj.eq_1 <| xg zok.eq_1 <| rg zol.eq_1 <| rg zom.eq_1 <| xg zon.eq_1 <| xg zoo.eq_1 <| xg zop.eq_1 <| xg zoq.eq_1 <| xg zor.eq_1 <| xg zos.eq_1 <| xg zot.eq_1 <| xg zou.eq_1 <| xg zov.eq_1 <| xg zow.eq_1 <| xg zox.eq_1 <| @ex_of T _ _ zoy.eq_1
def zbhu := @vd T F.zlw zo0 [0] zben rfl rfl
theorem zbhv : zo0.res = [.cell 2 3 true, .tmp 3] ∧ zo0.rets = [[], []] ∧ zo0.body = (.seq (.reg o_11_1) zoy) := ⟨rfl, rfl, rfl⟩
def zbhw := rg o_12_1.eq_1 <| rg o_12_2.eq_1 <| rg o_12_3.eq_1 <| rg o_12_4.eq_1 <| rg o_12_5.eq_1 <| rg o_12_6.eq_1 <| rg o_12_7.eq_1 <| xg c_12_8.eq_1 <| xg c_12_9.eq_1 <| xg zo1.eq_1 <| rg zo2.eq_1 <| xg zo3.eq_1 <| xg zo4.eq_1 <| xg zo5.eq_1 <| xg zo6.eq_1 <| xg zo7.eq_1 <| rg zo8.eq_1 <| rg zo9.eq_1 <| rg zpa.eq_1 <| rg zpb.eq_1 <| rg zpc.eq_1 <| xg zpd.eq_1 <| rg zpe.eq_1 <| xg zpf.eq_1 <| xg zpg.eq_1 <| xg zph.eq_1 <| xg zpi.eq_1 <| xg zpj.eq_1 <| rg zpk.eq_1 <| xg zpl.eq_1 <| xg zpm.eq_1 <| xg zpn.eq_1 <| xg zpo.eq_1 <| @ex_of T _ _ zpp.eq_1
def zbhx := @vd T F.zk9 zpr [0] zbeo rfl rfl
theorem zbhy : zpr.res = [.tmp 2] ∧ zpr.rets = [[2]] ∧ zpr.body = (.seq (.reg o_12_1) zpp) := ⟨rfl, rfl, rfl⟩
def zbhz := rg o_13_1.eq_1 <| rg o_13_2.eq_1 <| rg o_13_3.eq_1 <| rg o_13_4.eq_1 <| rg o_13_5.eq_1 <| rg o_13_6.eq_1 <| xg c_13_7.eq_1 <| xg c_13_8.eq_1 <| rg o_13_9.eq_1 <| xg zps.eq_1 <| xg zpt.eq_1 <| xg zpu.eq_1 <| xg zpv.eq_1 <| xg zpw.eq_1 <| rg zpx.eq_1 <| xg zpy.eq_1 <| @ex_of T _ _ zpz.eq_1
def zbh0 := @vd T F.zly zp1 [0] zbep rfl rfl
theorem zbh1 : zp1.res = [.tmp 2] ∧ zp1.rets = [[]] ∧ zp1.body = (.seq (.reg o_13_1) zpz) := ⟨rfl, rfl, rfl⟩
def zbh2 := rg o_14_1.eq_1 <| rg o_14_2.eq_1 <| @ex_of T _ _ c_14_3.eq_1
def zbh3 := @vd T F.zk0 zp3 [0] zbeq rfl rfl
theorem zbh4 : zp3.res = [.tmp 2] ∧ zp3.rets = [[]] ∧ zp3.body = (.seq (.reg o_14_1) c_14_3) := ⟨rfl, rfl, rfl⟩
def zbh5 := rg o_15_1.eq_1 <| rg o_15_2.eq_1 <| rg o_15_3.eq_1 <| rg o_15_4.eq_1 <| xg c_15_5.eq_1 <| rg o_15_6.eq_1 <| rg o_15_7.eq_1 <| rg o_15_8.eq_1 <| xg c_15_9.eq_1 <| rg zp4.eq_1 <| rg zp5.eq_1 <| rg zp6.eq_1 <| rg zp7.eq_1 <| xg zp8.eq_1 <| rg zp9.eq_1 <| rg zqa.eq_1 <| rg zqb.eq_1 <| rg zqc.eq_1 <| rg zqd.eq_1 <| rg zqe.eq_1 <| xg zqf.eq_1 <| rg zqg.eq_1 <| And.intro (@df_of T _ _ [(1, 3), (7, 3), (7, 4), (7, 9)] zqg.eq_1) <| xg zqh.eq_1 <| xg zqi.eq_1 <| rg zqj.eq_1 <| xg zqk.eq_1 <| xg zql.eq_1 <| xg zqm.eq_1 <| xg zqn.eq_1 <| xg zqo.eq_1 <| rg zqp.eq_1 <| rg zqq.eq_1 <| xg zqr.eq_1 <| rg zqs.eq_1 <| rg zqt.eq_1 <| xg zqu.eq_1 <| xg zqv.eq_1 <| xg zqw.eq_1 <| xg zqx.eq_1 <| xg zqy.eq_1 <| xg zqz.eq_1 <| xg zq0.eq_1 <| xg zq1.eq_1 <| xg zq2.eq_1 <| xg zq3.eq_1 <| xg zq4.eq_1 <| @ex_of T _ _ zq5.eq_1
def zbh6 := @vd T F.zl7 zq7 [0] zber rfl rfl
theorem zbh7 : zq7.res = [.cell 2 6 true, .tmp 3] ∧ zq7.rets = [[], []] ∧ zq7.body = (.seq (.reg o_15_1) zq5) := ⟨rfl, rfl, rfl⟩
def zbh8 := rg o_16_1.eq_1 <| rg o_16_2.eq_1 <| @ex_of T _ _ c_16_3.eq_1
def zbh9 := @vd T F.zkk zq9 [0] zbes rfl rfl
theorem zbia : zq9.res = [.tmp 2] ∧ zq9.rets = [[]] ∧ zq9.body = (.seq (.reg o_16_1) c_16_3) := ⟨rfl, rfl, rfl⟩
def zbib := rg o_17_1.eq_1 <| rg o_17_2.eq_1 <| rg o_17_3.eq_1 <| rg o_17_4.eq_1 <| xg c_17_5.eq_1 <| rg o_17_6.eq_1 <| xg c_17_7.eq_1 <| xg c_17_8.eq_1 <| @ex_of T _ _ c_17_9.eq_1
def zbic := @vd T F.zmo zrb [0] zbet rfl rfl
theorem zbid : zrb.res = [.tmp 2, .tmp 3] ∧ zrb.rets = [[2], []] ∧ zrb.body = (.seq (.reg o_17_1) c_17_9) := ⟨rfl, rfl, rfl⟩
def zbie := rg o_18_1.eq_1 <| rg o_18_2.eq_1 <| rg o_18_3.eq_1 <| xg c_18_4.eq_1 <| rg o_18_5.eq_1 <| rg o_18_6.eq_1 <| rg o_18_7.eq_1 <| rg o_18_8.eq_1 <| rg o_18_9.eq_1 <| xg zrc.eq_1 <| rg zrd.eq_1 <| rg zre.eq_1 <| xg zrf.eq_1 <| rg zrg.eq_1 <| rg zrh.eq_1 <| rg zri.eq_1 <| xg zrj.eq_1 <| rg zrk.eq_1 <| xg zrl.eq_1 <| xg zrm.eq_1 <| xg zrn.eq_1 <| xg zro.eq_1 <| xg zrp.eq_1 <| xg zrq.eq_1 <| xg zrr.eq_1 <| xg zrs.eq_1 <| @ex_of T _ _ zrt.eq_1
def zbif := @vd T F.zmp zrv [0] zbeu rfl rfl
theorem zbig : zrv.res = [.tmp 2, .tmp 3, .tmp 4, .tmp 5] ∧ zrv.rets = [[], [], [], []] ∧ zrv.body = (.seq (.reg o_18_1) zrt) := ⟨rfl, rfl, rfl⟩
def zbih := rg o_19_1.eq_1 <| rg o_19_2.eq_1 <| rg o_19_3.eq_1 <| xg c_19_4.eq_1 <| rg o_19_5.eq_1 <| rg o_19_6.eq_1 <| rg o_19_7.eq_1 <| xg c_19_8.eq_1 <| xg c_19_9.eq_1 <| rg zrw.eq_1 <| xg zrx.eq_1 <| xg zry.eq_1 <| xg zrz.eq_1 <| xg zr0.eq_1 <| rg zr1.eq_1 <| xg zr2.eq_1 <| @ex_of T _ _ zr3.eq_1
def zbii := @vd T F.zmr zr5 [0] zbev rfl rfl
theorem zbij : zr5.res = [.tmp 2] ∧ zr5.rets = [[]] ∧ zr5.body = (.seq (.reg o_19_1) zr3) := ⟨rfl, rfl, rfl⟩
def zbik := rg o_20_1.eq_1 <| rg o_20_2.eq_1 <| @ex_of T _ _ c_20_3.eq_1
def zbil := @vd T F.zmi zr7 [0] zbew rfl rfl
theorem zbim : zr7.res = [.tmp 2] ∧ zr7.rets = [[]] ∧ zr7.body = (.seq (.reg o_20_1) c_20_3) := ⟨rfl, rfl, rfl⟩
def zbin := rg o_21_1.eq_1 <| rg o_21_2.eq_1 <| rg o_21_3.eq_1 <| rg o_21_4.eq_1 <| xg c_21_5.eq_1 <| rg o_21_6.eq_1 <| rg o_21_7.eq_1 <| rg o_21_8.eq_1 <| rg o_21_9.eq_1 <| xg zr8.eq_1 <| rg zr9.eq_1 <| xg zsa.eq_1 <| xg zsb.eq_1 <| xg zsc.eq_1 <| xg zsd.eq_1 <| xg zse.eq_1 <| @ex_of T _ _ zsf.eq_1
def zbio := @vd T F.zm4 zsh [0] zbex rfl rfl
theorem zbip : zsh.res = [.cell 2 6 true, .tmp 3] ∧ zsh.rets = [[], []] ∧ zsh.body = (.seq (.reg o_21_1) zsf) := ⟨rfl, rfl, rfl⟩
def zbiq := rg o_22_1.eq_1 <| rg o_22_2.eq_1 <| rg o_22_3.eq_1 <| rg o_22_4.eq_1 <| xg c_22_5.eq_1 <| xg c_22_6.eq_1 <| @ex_of T _ _ c_22_7.eq_1
def zbir := @vd T F.zm7 zsj [0] zbey rfl rfl
theorem zbis : zsj.res = [.tmp 2] ∧ zsj.rets = [[]] ∧ zsj.body = (.seq (.reg o_22_1) c_22_7) := ⟨rfl, rfl, rfl⟩
def zbit := rg o_23_1.eq_1 <| rg o_23_2.eq_1 <| rg o_23_3.eq_1 <| xg c_23_4.eq_1 <| rg o_23_5.eq_1 <| rg o_23_6.eq_1 <| xg c_23_7.eq_1 <| rg o_23_8.eq_1 <| rg o_23_9.eq_1 <| xg zsk.eq_1 <| rg zsl.eq_1 <| xg zsm.eq_1 <| xg zsn.eq_1 <| xg zso.eq_1 <| xg zsp.eq_1 <| rg zsq.eq_1 <| xg zsr.eq_1 <| xg zss.eq_1 <| @ex_of T _ _ zst.eq_1
def zbiu := @vd T F.znb zsv [0, 0] zbez rfl rfl
theorem zbiv : zsv.res = [.tmp 4] ∧ zsv.rets = [[]] ∧ zsv.body = (.seq (.reg o_23_1) zst) := ⟨rfl, rfl, rfl⟩
def zbiw := rg o_24_1.eq_1 <| rg o_24_2.eq_1 <| @ex_of T _ _ c_24_3.eq_1
def zbix := @vd T F.zjn zsx [0] zbe0 rfl rfl
theorem zbiy : zsx.res = [.tmp 2] ∧ zsx.rets = [[]] ∧ zsx.body = (.seq (.reg o_24_1) c_24_3) := ⟨rfl, rfl, rfl⟩
def zbiz := rg o_25_1.eq_1 <| rg o_25_2.eq_1 <| rg o_25_3.eq_1 <| rg o_25_4.eq_1 <| rg o_25_5.eq_1 <| rg o_25_6.eq_1 <| rg o_25_7.eq_1 <| rg o_25_8.eq_1 <| rg o_25_9.eq_1 <| xg zsy.eq_1 <| rg zsz.eq_1 <| xg zs0.eq_1 <| xg zs1.eq_1 <| xg zs2.eq_1 <| xg zs3.eq_1 <| xg zs4.eq_1 <| rg zs5.eq_1 <| rg zs6.eq_1 <| rg zs7.eq_1 <| xg zs8.eq_1 <| rg zs9.eq_1 <| rg zta.eq_1 <| rg ztb.eq_1 <| xg ztc.eq_1 <| rg ztd.eq_1 <| rg zte.eq_1 <| rg ztf.eq_1 <| xg ztg.eq_1 <| xg zth.eq_1 <| xg zti.eq_1 <| xg ztj.eq_1 <| rg ztk.eq_1 <| xg ztl.eq_1 <| xg ztm.eq_1 <| @ex_of T _ _ ztn.eq_1
def zbi0 := @vd T F.zj4 ztp [0, 0] zbe1 rfl rfl
theorem zbi1 : ztp.res = [.cell 4 4 true, .tmp 5] ∧ ztp.rets = [[], []] ∧ ztp.body = (.seq (.reg o_25_1) ztn) := ⟨rfl, rfl, rfl⟩
def zbi2 := rg o_26_1.eq_1 <| rg o_26_2.eq_1 <| rg o_26_3.eq_1 <| rg o_26_4.eq_1 <| rg o_26_5.eq_1 <| xg c_26_6.eq_1 <| rg o_26_7.eq_1 <| xg c_26_8.eq_1 <| xg c_26_9.eq_1 <| xg ztq.eq_1 <| @ex_of T _ _ ztr.eq_1
def zbi3 := @vd T F.zkd ztt [0, 0] zbe2 rfl rfl
theorem zbi4 : ztt.res = [.tmp 4] ∧ ztt.rets = [[4]] ∧ ztt.body = (.seq (.reg o_26_1) ztr) := ⟨rfl, rfl, rfl⟩
def zbi5 := rg o_27_1.eq_1 <| rg o_27_2.eq_1 <| rg o_27_3.eq_1 <| And.intro (@df_of T _ _ [(6, 2), (6, 4), (7, 2), (7, 4)] o_27_3.eq_1) <| rg o_27_4.eq_1 <| rg o_27_5.eq_1 <| rg o_27_6.eq_1 <| rg o_27_7.eq_1 <| And.intro (@df_of T _ _ [(5, 3), (8, 3), (8, 6)] o_27_7.eq_1) <| xg c_27_8.eq_1 <| rg o_27_9.eq_1 <| xg ztu.eq_1 <| xg ztv.eq_1 <| xg ztw.eq_1 <| xg ztx.eq_1 <| xg zty.eq_1 <| rg ztz.eq_1 <| xg zt0.eq_1 <| xg zt1.eq_1 <| xg zt2.eq_1 <| @ex_of T _ _ zt3.eq_1
def zbi6 := @vd T F.zku zt5 [0] zbe3 rfl rfl
theorem zbi7 : zt5.res = [.tmp 2] ∧ zt5.rets = [[2]] ∧ zt5.body = (.seq (.reg o_27_1) zt3) := ⟨rfl, rfl, rfl⟩
def zbi8 := rg o_28_1.eq_1 <| rg o_28_2.eq_1 <| rg o_28_3.eq_1 <| xg c_28_4.eq_1 <| rg o_28_5.eq_1 <| xg c_28_6.eq_1 <| @ex_of T _ _ c_28_7.eq_1
def zbi9 := @vd T F.zkn zt7 [2, 0] zbe4 rfl rfl
theorem zbja : zt7.res = [.tmp 4] ∧ zt7.rets = [[2]] ∧ zt7.body = (.seq (.reg o_28_1) c_28_7) := ⟨rfl, rfl, rfl⟩
def zbjb := rg o_29_1.eq_1 <| rg o_29_2.eq_1 <| rg o_29_3.eq_1 <| xg c_29_4.eq_1 <| @ex_of T _ _ c_29_5.eq_1
def zbjc := @vd T F.zlb zt9 [0] zbe5 rfl rfl
theorem zbjd : zt9.res = [.tmp 2] ∧ zt9.rets = [[2]] ∧ zt9.body = (.seq (.reg o_29_1) c_29_5) := ⟨rfl, rfl, rfl⟩
def zbje := rg o_30_1.eq_1 <| rg o_30_2.eq_1 <| @ex_of T _ _ c_30_3.eq_1
def zbjf := @vd T F.zk3 zub [0] zbe6 rfl rfl
theorem zbjg : zub.res = [.tmp 2] ∧ zub.rets = [[2]] ∧ zub.body = (.seq (.reg o_30_1) c_30_3) := ⟨rfl, rfl, rfl⟩
def zbjh := rg o_31_1.eq_1 <| rg o_31_2.eq_1 <| xg c_31_3.eq_1 <| rg o_31_4.eq_1 <| rg o_31_5.eq_1 <| rg o_31_6.eq_1 <| xg c_31_7.eq_1 <| rg o_31_8.eq_1 <| rg o_31_9.eq_1 <| xg zuc.eq_1 <| xg zud.eq_1 <| xg zue.eq_1 <| xg zuf.eq_1 <| xg zug.eq_1 <| rg zuh.eq_1 <| xg zui.eq_1 <| @ex_of T _ _ zuj.eq_1
def zbji := @vd T F.zls zul [0] zbe7 rfl rfl
theorem zbjj : zul.res = [.tmp 2, .tmp 3, .tmp 4] ∧ zul.rets = [[2], [], []] ∧ zul.body = (.seq (.reg o_31_1) zuj) := ⟨rfl, rfl, rfl⟩
def zbjk := rg o_32_1.eq_1 <| rg o_32_2.eq_1 <| rg o_32_3.eq_1 <| rg o_32_4.eq_1 <| xg c_32_5.eq_1 <| rg o_32_6.eq_1 <| xg c_32_7.eq_1 <| xg c_32_8.eq_1 <| @ex_of T _ _ c_32_9.eq_1
def zbjl := @vd T F.zlm zun [0] zbe8 rfl rfl
theorem zbjm : zun.res = [.tmp 2, .tmp 3] ∧ zun.rets = [[], []] ∧ zun.body = (.seq (.reg o_32_1) c_32_9) := ⟨rfl, rfl, rfl⟩
def zbjn := rg o_33_1.eq_1 <| rg o_33_2.eq_1 <| rg o_33_3.eq_1 <| rg o_33_4.eq_1 <| rg o_33_5.eq_1 <| rg o_33_6.eq_1 <| xg c_33_7.eq_1 <| rg o_33_8.eq_1 <| xg c_33_9.eq_1 <| xg zuo.eq_1 <| xg zup.eq_1 <| xg zuq.eq_1 <| xg zur.eq_1 <| rg zus.eq_1 <| xg zut.eq_1 <| xg zuu.eq_1 <| @ex_of T _ _ zuv.eq_1
def zbjo := @vd T F.zlv zux [0] zbe9 rfl rfl
theorem zbjp : zux.res = [.tmp 2] ∧ zux.rets = [[]] ∧ zux.body = (.seq (.reg o_33_1) zuv) := ⟨rfl, rfl, rfl⟩
def zbjq := rg o_34_1.eq_1 <| rg o_34_2.eq_1 <| xg c_34_3.eq_1 <| rg o_34_4.eq_1 <| rg o_34_5.eq_1 <| rg o_34_6.eq_1 <| xg c_34_7.eq_1 <| xg c_34_8.eq_1 <| rg o_34_9.eq_1 <| xg zuy.eq_1 <| xg zuz.eq_1 <| @ex_of T _ _ zu0.eq_1
def zbjr := @vi T F.znf zu2 zbfa rfl
theorem zbjs {n : Nat} {H : Hp} {vs : List V} : (orc T (n + 1)).inl F.znf vs H = finI H.length false [.tmp 4] (unw T (orc T n) n H.length [] (exec T (orc T n) n H.length (.seq (.reg o_34_1) zu0) (params 0 vs) H)) := by rw [zht, zbfa, y5, zhr]; rfl
def zbjt := rg o_35_1.eq_1 <| rg o_35_2.eq_1 <| rg o_35_3.eq_1 <| rg o_35_4.eq_1 <| rg o_35_5.eq_1 <| rg o_35_6.eq_1 <| rg o_35_7.eq_1 <| xg c_35_8.eq_1 <| rg o_35_9.eq_1 <| xg zu3.eq_1 <| xg zu4.eq_1 <| xg zu5.eq_1 <| xg zu6.eq_1 <| xg zu7.eq_1 <| rg zu8.eq_1 <| xg zu9.eq_1 <| xg zva.eq_1 <| xg zvb.eq_1 <| @ex_of T _ _ zvc.eq_1
def zbju := @vd T F.zkz zve [0, 0] zbfb rfl rfl
theorem zbjv : zve.res = [.tmp 4] ∧ zve.rets = [[]] ∧ zve.body = (.seq (.reg o_35_1) zvc) := ⟨rfl, rfl, rfl⟩
def zbjw := rg o_36_1.eq_1 <| rg o_36_2.eq_1 <| rg o_36_3.eq_1 <| rg o_36_4.eq_1 <| rg o_36_5.eq_1 <| rg o_36_6.eq_1 <| rg o_36_7.eq_1 <| xg c_36_8.eq_1 <| rg o_36_9.eq_1 <| rg zvf.eq_1 <| rg zvg.eq_1 <| rg zvh.eq_1 <| And.intro (@df_of T _ _ [(1, 3), (1, 4)] zvh.eq_1) <| rg zvi.eq_1 <| xg zvj.eq_1 <| xg zvk.eq_1 <| xg zvl.eq_1 <| xg zvm.eq_1 <| xg zvn.eq_1 <| rg zvo.eq_1 <| rg zvp.eq_1 <| rg zvq.eq_1 <| rg zvr.eq_1 <| xg zvs.eq_1 <| xg zvt.eq_1 <| rg zvu.eq_1 <| xg zvv.eq_1 <| xg zvw.eq_1 <| xg zvx.eq_1 <| xg zvy.eq_1 <| xg zvz.eq_1 <| xg zv0.eq_1 <| xg zv1.eq_1 <| xg zv2.eq_1 <| @ex_of T _ _ zv3.eq_1
def zbjx := @vd T F.zl3 zv5 [0] zbfc rfl rfl
theorem zbjy : zv5.res = [.cell 2 4 true, .tmp 3] ∧ zv5.rets = [[], []] ∧ zv5.body = (.seq (.reg o_36_1) zv3) := ⟨rfl, rfl, rfl⟩
def zbjz := rg o_37_1.eq_1 <| rg o_37_2.eq_1 <| rg o_37_3.eq_1 <| rg o_37_4.eq_1 <| rg o_37_5.eq_1 <| rg o_37_6.eq_1 <| rg o_37_7.eq_1 <| rg o_37_8.eq_1 <| rg o_37_9.eq_1 <| xg zv6.eq_1 <| rg zv7.eq_1 <| xg zv8.eq_1 <| xg zv9.eq_1 <| xg zwa.eq_1 <| xg zwb.eq_1 <| xg zwc.eq_1 <| xg zwd.eq_1 <| xg zwe.eq_1 <| @ex_of T _ _ zwf.eq_1
def zbj0 := @vd T F.zl4 zwh [0] zbfd rfl rfl
theorem zbj1 : zwh.res = [.cell 2 3 true, .tmp 3] ∧ zwh.rets = [[], []] ∧ zwh.body = (.seq (.reg o_37_1) zwf) := ⟨rfl, rfl, rfl⟩
def zbj2 := rg o_38_1.eq_1 <| rg o_38_2.eq_1 <| rg o_38_3.eq_1 <| xg c_38_4.eq_1 <| rg o_38_5.eq_1 <| rg o_38_6.eq_1 <| rg o_38_7.eq_1 <| rg o_38_8.eq_1 <| xg c_38_9.eq_1 <| rg zwi.eq_1 <| rg zwj.eq_1 <| rg zwk.eq_1 <| xg zwl.eq_1 <| rg zwm.eq_1 <| rg zwn.eq_1 <| rg zwo.eq_1 <| rg zwp.eq_1 <| rg zwq.eq_1 <| xg zwr.eq_1 <| xg zws.eq_1 <| xg zwt.eq_1 <| xg zwu.eq_1 <| xg zwv.eq_1 <| rg zww.eq_1 <| xg zwx.eq_1 <| xg zwy.eq_1 <| xg zwz.eq_1 <| @ex_of T _ _ zw0.eq_1
def zbj3 := @vd T F.zjt zw2 [0] zbfe rfl rfl
theorem zbj4 : zw2.res = [.tmp 2] ∧ zw2.rets = [[]] ∧ zw2.body = (.seq (.reg o_38_1) zw0) := ⟨rfl, rfl, rfl⟩
def zbj5 := rg o_39_1.eq_1 <| rg o_39_2.eq_1 <| rg o_39_3.eq_1 <| rg o_39_4.eq_1 <| rg o_39_5.eq_1 <| rg o_39_6.eq_1 <| xg c_39_7.eq_1 <| xg c_39_8.eq_1 <| rg o_39_9.eq_1 <| xg zw3.eq_1 <| xg zw4.eq_1 <| xg zw5.eq_1 <| xg zw6.eq_1 <| xg zw7.eq_1 <| rg zw8.eq_1 <| xg zw9.eq_1 <| @ex_of T _ _ zxa.eq_1
def zbj6 := @vd T F.zkj zxc [0] zbff rfl rfl
theorem zbj7 : zxc.res = [.tmp 2] ∧ zxc.rets = [[]] ∧ zxc.body = (.seq (.reg o_39_1) zxa) := ⟨rfl, rfl, rfl⟩
def zbj8 := rg o_40_1.eq_1 <| rg o_40_2.eq_1 <| rg o_40_3.eq_1 <| rg o_40_4.eq_1 <| xg c_40_5.eq_1 <| rg o_40_6.eq_1 <| rg o_40_7.eq_1 <| rg o_40_8.eq_1 <| xg c_40_9.eq_1 <| rg zxd.eq_1 <| rg zxe.eq_1 <| xg zxf.eq_1 <| xg zxg.eq_1 <| xg zxh.eq_1 <| xg zxi.eq_1 <| xg zxj.eq_1 <| rg zxk.eq_1 <| xg zxl.eq_1 <| xg zxm.eq_1 <| xg zxn.eq_1 <| @ex_of T _ _ zxo.eq_1
def zbj9 := @vd T F.zmn zxq [0] zbfg rfl rfl
theorem zbka : zxq.res = [.tmp 2, .tmp 3, .tmp 4] ∧ zxq.rets = [[2], [], []] ∧ zxq.body = (.seq (.reg o_40_1) zxo) := ⟨rfl, rfl, rfl⟩
def zbkb := rg o_41_1.eq_1 <| rg o_41_2.eq_1 <| rg o_41_3.eq_1 <| rg o_41_4.eq_1 <| xg c_41_5.eq_1 <| rg o_41_6.eq_1 <| xg c_41_7.eq_1 <| xg c_41_8.eq_1 <| @ex_of T _ _ c_41_9.eq_1
def zbkc := @vd T F.zmd zxs [0] zbfh rfl rfl
theorem zbkd : zxs.res = [.tmp 2, .tmp 3] ∧ zxs.rets = [[], []] ∧ zxs.body = (.seq (.reg o_41_1) c_41_9) := ⟨rfl, rfl, rfl⟩
def zbke := rg o_42_1.eq_1 <| rg o_42_2.eq_1 <| rg o_42_3.eq_1 <| rg o_42_4.eq_1 <| xg c_42_5.eq_1 <| rg o_42_6.eq_1 <| rg o_42_7.eq_1 <| xg c_42_8.eq_1 <| rg o_42_9.eq_1 <| xg zxt.eq_1 <| xg zxu.eq_1 <| xg zxv.eq_1 <| xg zxw.eq_1 <| rg zxx.eq_1 <| xg zxy.eq_1 <| xg zxz.eq_1 <| @ex_of T _ _ zx0.eq_1
def zbkf := @vd T F.zmk zx2 [0] zbfi rfl rfl
theorem zbkg : zx2.res = [.tmp 2] ∧ zx2.rets = [[]] ∧ zx2.body = (.seq (.reg o_42_1) zx0) := ⟨rfl, rfl, rfl⟩
def zbkh := rg o_43_1.eq_1 <| rg o_43_2.eq_1 <| rg o_43_3.eq_1 <| rg o_43_4.eq_1 <| xg c_43_5.eq_1 <| rg o_43_6.eq_1 <| rg o_43_7.eq_1 <| xg c_43_8.eq_1 <| xg c_43_9.eq_1 <| xg zx3.eq_1 <| xg zx4.eq_1 <| rg zx5.eq_1 <| xg zx6.eq_1 <| xg zx7.eq_1 <| @ex_of T _ _ zx8.eq_1
def zbki := @vd T F.zmh zya [0, 0] zbfj rfl rfl
theorem zbkj : zya.res = [.tmp 4] ∧ zya.rets = [[]] ∧ zya.body = (.seq (.reg o_43_1) zx8) := ⟨rfl, rfl, rfl⟩
def zbkk := rg o_44_1.eq_1 <| rg o_44_2.eq_1 <| rg o_44_3.eq_1 <| rg o_44_4.eq_1 <| rg o_44_5.eq_1 <| rg o_44_6.eq_1 <| xg c_44_7.eq_1 <| rg o_44_8.eq_1 <| rg o_44_9.eq_1 <| rg zyb.eq_1 <| xg zyc.eq_1 <| rg zyd.eq_1 <| rg zye.eq_1 <| rg zyf.eq_1 <| xg zyg.eq_1 <| rg zyh.eq_1 <| rg zyi.eq_1 <| rg zyj.eq_1 <| xg zyk.eq_1 <| rg zyl.eq_1 <| rg zym.eq_1 <| xg zyn.eq_1 <| xg zyo.eq_1 <| xg zyp.eq_1 <| rg zyq.eq_1 <| xg zyr.eq_1 <| xg zys.eq_1 <| xg zyt.eq_1 <| xg zyu.eq_1 <| rg zyv.eq_1 <| rg zyw.eq_1 <| xg zyx.eq_1 <| rg zyy.eq_1 <| rg zyz.eq_1 <| rg zy0.eq_1 <| xg zy1.eq_1 <| rg zy2.eq_1 <| xg zy3.eq_1 <| xg zy4.eq_1 <| xg zy5.eq_1 <| xg zy6.eq_1 <| xg zy7.eq_1 <| xg zy8.eq_1 <| xg zy9.eq_1 <| xg zza.eq_1 <| xg zzb.eq_1 <| xg zzc.eq_1 <| xg zzd.eq_1 <| @ex_of T _ _ zze.eq_1
def zbkl := @vd T F.zm1 zzg [0] zbfk rfl rfl
theorem zbkm : zzg.res = [.cell 2 4 true, .tmp 3] ∧ zzg.rets = [[], []] ∧ zzg.body = (.seq (.reg o_44_1) zze) := ⟨rfl, rfl, rfl⟩
def zbkn := rg o_45_1.eq_1 <| rg o_45_2.eq_1 <| rg o_45_3.eq_1 <| rg o_45_4.eq_1 <| xg c_45_5.eq_1 <| rg o_45_6.eq_1 <| rg o_45_7.eq_1 <| rg o_45_8.eq_1 <| xg c_45_9.eq_1 <| rg zzh.eq_1 <| rg zzi.eq_1 <| rg zzj.eq_1 <| rg zzk.eq_1 <| rg zzl.eq_1 <| xg zzm.eq_1 <| rg zzn.eq_1 <| rg zzo.eq_1 <| xg zzp.eq_1 <| xg zzq.eq_1 <| xg zzr.eq_1 <| xg zzs.eq_1 <| xg zzt.eq_1 <| rg zzu.eq_1 <| xg zzv.eq_1 <| xg zzw.eq_1 <| xg zzx.eq_1 <| xg zzy.eq_1 <| rg zzz.eq_1 <| xg zz0.eq_1 <| xg zz1.eq_1 <| xg zz2.eq_1 <| xg zz3.eq_1 <| @ex_of T _ _ zz4.eq_1
def zbko := @vd T F.zm3 zz6 [0] zbfl rfl rfl
theorem zbkp : zz6.res = [.tmp 2, .tmp 3] ∧ zz6.rets = [[4], []] ∧ zz6.body = (.seq (.reg o_45_1) zz4) := ⟨rfl, rfl, rfl⟩
def zbkq := rg o_46_1.eq_1 <| rg o_46_2.eq_1 <| rg o_46_3.eq_1 <| xg c_46_4.eq_1 <| rg o_46_5.eq_1 <| rg o_46_6.eq_1 <| xg c_46_7.eq_1 <| rg o_46_8.eq_1 <| rg o_46_9.eq_1 <| xg zz7.eq_1 <| rg zz8.eq_1 <| rg zz9.eq_1 <| xg z0a.eq_1 <| rg z0b.eq_1 <| rg z0c.eq_1 <| xg z0d.eq_1 <| rg z0e.eq_1 <| And.intro (@dr_of T _ _ [(1, 10), (3, 10), (4, 10)] z0e.eq_1 (by decide)) <| rg z0f.eq_1 <| xg z0g.eq_1 <| rg z0h.eq_1 <| xg z0i.eq_1 <| xg z0j.eq_1 <| xg z0k.eq_1 <| xg z0l.eq_1 <| rg z0m.eq_1 <| xg z0n.eq_1 <| xg z0o.eq_1 <| xg z0p.eq_1 <| xg z0q.eq_1 <| xg z0r.eq_1 <| @ex_of T _ _ z0s.eq_1
def zbkr := @vd T F.zmy z0u [0] zbfm rfl rfl
theorem zbks : z0u.res = [.tmp 2] ∧ z0u.rets = [[]] ∧ z0u.body = (.seq (.reg o_46_1) z0s) := ⟨rfl, rfl, rfl⟩
def zbkt := rg o_47_1.eq_1 <| rg o_47_2.eq_1 <| rg o_47_3.eq_1 <| xg c_47_4.eq_1 <| rg o_47_5.eq_1 <| rg o_47_6.eq_1 <| rg o_47_7.eq_1 <| xg c_47_8.eq_1 <| xg c_47_9.eq_1 <| rg z0v.eq_1 <| xg z0w.eq_1 <| xg z0x.eq_1 <| xg z0y.eq_1 <| xg z0z.eq_1 <| rg z00.eq_1 <| xg z01.eq_1 <| @ex_of T _ _ z02.eq_1
def zbku := @vd T F.zm6 z04 [0] zbfn rfl rfl
theorem zbkv : z04.res = [.tmp 2] ∧ z04.rets = [[]] ∧ z04.body = (.seq (.reg o_47_1) z02) := ⟨rfl, rfl, rfl⟩
def zbkw := rg o_48_1.eq_1 <| rg o_48_2.eq_1 <| And.intro (@dr_of T _ _ [(10, 13), (18, 21)] o_48_2.eq_1 (by decide)) <| @ex_of T _ _ c_48_3.eq_1
def zbkx := @vd T F.zjm z06 [0] zbfo rfl rfl
theorem zbky : z06.res = [.tmp 2] ∧ z06.rets = [[]] ∧ z06.body = (.seq (.reg o_48_1) c_48_3) := ⟨rfl, rfl, rfl⟩
def zbkz := rg o_49_1.eq_1 <| rg o_49_2.eq_1 <| rg o_49_3.eq_1 <| rg o_49_4.eq_1 <| rg o_49_5.eq_1 <| rg o_49_6.eq_1 <| rg o_49_7.eq_1 <| xg c_49_8.eq_1 <| rg o_49_9.eq_1 <| rg z07.eq_1 <| rg z08.eq_1 <| xg z09.eq_1 <| xg z1a.eq_1 <| xg z1b.eq_1 <| xg z1c.eq_1 <| rg z1d.eq_1 <| xg z1e.eq_1 <| xg z1f.eq_1 <| @ex_of T _ _ z1g.eq_1
def zbk0 := @vd T F.zju z1i [0, 0] zbfp rfl rfl
theorem zbk1 : z1i.res = [.cell 4 4 true, .tmp 5] ∧ z1i.rets = [[], []] ∧ z1i.body = (.seq (.reg o_49_1) z1g) := ⟨rfl, rfl, rfl⟩
def zbk2 := rg o_50_1.eq_1 <| rg o_50_2.eq_1 <| rg o_50_3.eq_1 <| rg o_50_4.eq_1 <| rg o_50_5.eq_1 <| rg o_50_6.eq_1 <| And.intro (@df_of T _ _ [(4, 2)] o_50_6.eq_1) <| rg o_50_7.eq_1 <| xg c_50_8.eq_1 <| rg o_50_9.eq_1 <| rg z1j.eq_1 <| xg z1k.eq_1 <| rg z1l.eq_1 <| rg z1m.eq_1 <| rg z1n.eq_1 <| xg z1o.eq_1 <| xg z1p.eq_1 <| xg z1q.eq_1 <| xg z1r.eq_1 <| rg z1s.eq_1 <| rg z1t.eq_1 <| rg z1u.eq_1 <| xg z1v.eq_1 <| rg z1w.eq_1 <| rg z1x.eq_1 <| rg z1y.eq_1 <| xg z1z.eq_1 <| xg z10.eq_1 <| xg z11.eq_1 <| xg z12.eq_1 <| xg z13.eq_1 <| xg z14.eq_1 <| @ex_of T _ _ z15.eq_1
def zbk3 := @vd T F.zjx z17 [0, 0] zbfq rfl rfl
theorem zbk4 : z17.res = [.cell 4 4 true, .tmp 5] ∧ z17.rets = [[], []] ∧ z17.body = (.seq (.reg o_50_1) z15) := ⟨rfl, rfl, rfl⟩
def zbk5 := rg o_51_1.eq_1 <| rg o_51_2.eq_1 <| rg o_51_3.eq_1 <| rg o_51_4.eq_1 <| rg o_51_5.eq_1 <| xg c_51_6.eq_1 <| xg c_51_7.eq_1 <| rg o_51_8.eq_1 <| xg c_51_9.eq_1 <| xg z18.eq_1 <| rg z19.eq_1 <| rg z2a.eq_1 <| xg z2b.eq_1 <| rg z2c.eq_1 <| rg z2d.eq_1 <| rg z2e.eq_1 <| rg z2f.eq_1 <| rg z2g.eq_1 <| rg z2h.eq_1 <| And.intro (@dr_of T _ _ [(1, 6), (3, 6)] z2h.eq_1 (by decide)) <| rg z2i.eq_1 <| rg z2j.eq_1 <| xg z2k.eq_1 <| rg z2l.eq_1 <| xg z2m.eq_1 <| xg z2n.eq_1 <| xg z2o.eq_1 <| xg z2p.eq_1 <| xg z2q.eq_1 <| rg z2r.eq_1 <| xg z2s.eq_1 <| xg z2t.eq_1 <| xg z2u.eq_1 <| xg z2v.eq_1 <| @ex_of T _ _ z2w.eq_1
def zbk6 := @vd T F.zj1 z2y [0, 0] zbfr rfl rfl
theorem zbk7 : z2y.res = [.cell 4 4 true, .tmp 5] ∧ z2y.rets = [[], []] ∧ z2y.body = (.seq (.reg o_51_1) z2w) := ⟨rfl, rfl, rfl⟩
def zbk8 := rg o_52_1.eq_1 <| rg o_52_2.eq_1 <| rg o_52_3.eq_1 <| rg o_52_4.eq_1 <| rg o_52_5.eq_1 <| rg o_52_6.eq_1 <| rg o_52_7.eq_1 <| rg o_52_8.eq_1 <| rg o_52_9.eq_1 <| And.intro (@df_of T _ _ [(0, 5)] o_52_9.eq_1) <| rg z2z.eq_1 <| rg z20.eq_1 <| xg z21.eq_1 <| xg z22.eq_1 <| xg z23.eq_1 <| xg z24.eq_1 <| xg z25.eq_1 <| rg z26.eq_1 <| And.intro (@dr_of T _ _ [(7, 4)] z26.eq_1 (by decide)) <| rg z27.eq_1 <| rg z28.eq_1 <| rg z29.eq_1 <| xg z3a.eq_1 <| rg z3b.eq_1 <| rg z3c.eq_1 <| xg z3d.eq_1 <| xg z3e.eq_1 <| xg z3f.eq_1 <| xg z3g.eq_1 <| xg z3h.eq_1 <| @ex_of T _ _ z3i.eq_1
def zbk9 := @vd T F.zj3 z3k [0, 0] zbfs rfl rfl
theorem zbla : z3k.res = [.cell 4 4 true, .tmp 5] ∧ z3k.rets = [[], []] ∧ z3k.body = (.seq (.reg o_52_1) z3i) := ⟨rfl, rfl, rfl⟩
def zblb := rg o_53_1.eq_1 <| rg o_53_2.eq_1 <| rg o_53_3.eq_1 <| rg o_53_4.eq_1 <| xg c_53_5.eq_1 <| rg o_53_6.eq_1 <| rg o_53_7.eq_1 <| xg c_53_8.eq_1 <| rg o_53_9.eq_1 <| rg z3l.eq_1 <| rg z3m.eq_1 <| rg z3n.eq_1 <| xg z3o.eq_1 <| xg z3p.eq_1 <| xg z3q.eq_1 <| rg z3r.eq_1 <| xg z3s.eq_1 <| xg z3t.eq_1 <| xg z3u.eq_1 <| xg z3v.eq_1 <| rg z3w.eq_1 <| rg z3x.eq_1 <| xg z3y.eq_1 <| xg z3z.eq_1 <| xg z30.eq_1 <| xg z31.eq_1 <| @ex_of T _ _ z32.eq_1
def zblc := @vi T F.zng z34 zbft rfl
theorem zbld {n : Nat} {H : Hp} {vs : List V} : (orc T (n + 1)).inl F.zng vs H = finI H.length true [.tmp 4] (unw T (orc T n) n H.length [] (exec T (orc T n) n H.length (.seq (.reg o_53_1) z32) (params 0 vs) H)) := by rw [zht, zbft, y5, zhr]; rfl
def zble := rg o_54_1.eq_1 <| rg o_54_2.eq_1 <| rg o_54_3.eq_1 <| xg c_54_4.eq_1 <| rg o_54_5.eq_1 <| xg c_54_6.eq_1 <| @ex_of T _ _ c_54_7.eq_1
def zblf := @vd T F.zj5 z36 [0] zbfu rfl rfl
theorem zblg : z36.res = [.tmp 2] ∧ z36.rets = [[4]] ∧ z36.body = (.seq (.reg o_54_1) c_54_7) := ⟨rfl, rfl, rfl⟩
def zblh := rg o_55_1.eq_1 <| rg o_55_2.eq_1 <| @ex_of T _ _ c_55_3.eq_1
def zbli := @vi T F.znh z38 zbfv rfl
theorem zblj {n : Nat} {H : Hp} {vs : List V} : (orc T (n + 1)).inl F.znh vs H = finI H.length false [.tmp 3] (unw T (orc T n) n H.length [] (exec T (orc T n) n H.length (.seq (.reg o_55_1) c_55_3) (params 0 vs) H)) := by rw [zht, zbfv, y5, zhr]; rfl
def zblk := rg o_56_1.eq_1 <| rg o_56_2.eq_1 <| rg o_56_3.eq_1 <| rg o_56_4.eq_1 <| rg o_56_5.eq_1 <| rg o_56_6.eq_1 <| xg c_56_7.eq_1 <| xg c_56_8.eq_1 <| rg o_56_9.eq_1 <| xg z39.eq_1 <| xg z4a.eq_1 <| xg z4b.eq_1 <| xg z4c.eq_1 <| xg z4d.eq_1 <| rg z4e.eq_1 <| xg z4f.eq_1 <| @ex_of T _ _ z4g.eq_1
def zbll := @vi T F.zni z4i zbfw rfl
theorem zblm {n : Nat} {H : Hp} {vs : List V} : (orc T (n + 1)).inl F.zni vs H = finI H.length false [.tmp 4] (unw T (orc T n) n H.length [] (exec T (orc T n) n H.length (.seq (.reg o_56_1) z4g) (params 0 vs) H)) := by rw [zht, zbfw, y5, zhr]; rfl
def zbln := rg o_57_1.eq_1 <| rg o_57_2.eq_1 <| @ex_of T _ _ c_57_3.eq_1
def zblo := @vi T F.znj z4k zbfx rfl
theorem zblp {n : Nat} {H : Hp} {vs : List V} : (orc T (n + 1)).inl F.znj vs H = finI H.length false [.tmp 3] (unw T (orc T n) n H.length [] (exec T (orc T n) n H.length (.seq (.reg o_57_1) c_57_3) (params 0 vs) H)) := by rw [zht, zbfx, y5, zhr]; rfl
def zblq := rg o_58_1.eq_1 <| rg o_58_2.eq_1 <| rg o_58_3.eq_1 <| rg o_58_4.eq_1 <| rg o_58_5.eq_1 <| xg c_58_6.eq_1 <| rg o_58_7.eq_1 <| rg o_58_8.eq_1 <| rg o_58_9.eq_1 <| xg z4l.eq_1 <| rg z4m.eq_1 <| rg z4n.eq_1 <| xg z4o.eq_1 <| xg z4p.eq_1 <| xg z4q.eq_1 <| xg z4r.eq_1 <| rg z4s.eq_1 <| rg z4t.eq_1 <| xg z4u.eq_1 <| xg z4v.eq_1 <| xg z4w.eq_1 <| rg z4x.eq_1 <| xg z4y.eq_1 <| xg z4z.eq_1 <| xg z40.eq_1 <| xg z41.eq_1 <| xg z42.eq_1 <| xg z43.eq_1 <| xg z44.eq_1 <| xg z45.eq_1 <| xg z46.eq_1 <| xg z47.eq_1 <| @ex_of T _ _ z48.eq_1
def zblr := @vd T F.zj6 z5a [4, 0, 0] zbfy rfl rfl
theorem zbls : z5a.res = [.tmp 6] ∧ z5a.rets = [[4]] ∧ z5a.body = (.seq (.reg o_58_1) z48) := ⟨rfl, rfl, rfl⟩
def zblt := rg o_59_1.eq_1 <| rg o_59_2.eq_1 <| rg o_59_3.eq_1 <| xg c_59_4.eq_1 <| rg o_59_5.eq_1 <| And.intro (@df_of T _ _ [(3, 2), (7, 2), (7, 4), (7, 5), (8, 2), (8, 4), (8, 5)] o_59_5.eq_1) <| rg o_59_6.eq_1 <| rg o_59_7.eq_1 <| rg o_59_8.eq_1 <| rg o_59_9.eq_1 <| xg z5b.eq_1 <| rg z5c.eq_1 <| xg z5d.eq_1 <| xg z5e.eq_1 <| xg z5f.eq_1 <| xg z5g.eq_1 <| xg z5h.eq_1 <| rg z5i.eq_1 <| xg z5j.eq_1 <| xg z5k.eq_1 <| xg z5l.eq_1 <| @ex_of T _ _ z5m.eq_1
def zblu := @vd T F.zks z5o [0] zbfz rfl rfl
theorem zblv : z5o.res = [.tmp 2, .tmp 3] ∧ z5o.rets = [[2], []] ∧ z5o.body = (.seq (.reg o_59_1) z5m) := ⟨rfl, rfl, rfl⟩
def zblw := rg o_60_1.eq_1 <| rg o_60_2.eq_1 <| @ex_of T _ _ c_60_3.eq_1
def zblx := @vd T F.zkq z5q [2, 0] zbf0 rfl rfl
theorem zbly : z5q.res = [.tmp 4] ∧ z5q.rets = [[2]] ∧ z5q.body = (.seq (.reg o_60_1) c_60_3) := ⟨rfl, rfl, rfl⟩
def zblz := rg o_61_1.eq_1 <| rg o_61_2.eq_1 <| xg c_61_3.eq_1 <| rg o_61_4.eq_1 <| rg o_61_5.eq_1 <| xg c_61_6.eq_1 <| xg c_61_7.eq_1 <| xg c_61_8.eq_1 <| rg o_61_9.eq_1 <| xg z5r.eq_1 <| @ex_of T _ _ z5s.eq_1
def zbl0 := @vd T F.zkm z5u [2, 0] zbf1 rfl rfl
theorem zbl1 : z5u.res = [.tmp 4] ∧ z5u.rets = [[2]] ∧ z5u.body = (.seq (.reg o_61_1) z5s) := ⟨rfl, rfl, rfl⟩
def zbl2 := rg o_62_1.eq_1 <| rg o_62_2.eq_1 <| rg o_62_3.eq_1 <| xg c_62_4.eq_1 <| rg o_62_5.eq_1 <| rg o_62_6.eq_1 <| xg c_62_7.eq_1 <| xg c_62_8.eq_1 <| @ex_of T _ _ c_62_9.eq_1
def zbl3 := @vd T F.zla z5w [0] zbf2 rfl rfl
theorem zbl4 : z5w.res = [.tmp 2, .tmp 3] ∧ z5w.rets = [[2], []] ∧ z5w.body = (.seq (.reg o_62_1) c_62_9) := ⟨rfl, rfl, rfl⟩
def zbl5 := rg o_63_1.eq_1 <| rg o_63_2.eq_1 <| rg o_63_3.eq_1 <| rg o_63_4.eq_1 <| rg o_63_5.eq_1 <| rg o_63_6.eq_1 <| xg c_63_7.eq_1 <| rg o_63_8.eq_1 <| xg c_63_9.eq_1 <| xg z5x.eq_1 <| xg z5y.eq_1 <| xg z5z.eq_1 <| xg z50.eq_1 <| rg z51.eq_1 <| xg z52.eq_1 <| xg z53.eq_1 <| @ex_of T _ _ z54.eq_1
def zbl6 := @vd T F.zk2 z56 [0, 0] zbf3 rfl rfl
theorem zbl7 : z56.res = [.tmp 4] ∧ z56.rets = [[2]] ∧ z56.body = (.seq (.reg o_63_1) z54) := ⟨rfl, rfl, rfl⟩
def zbl8 := rg o_64_1.eq_1 <| rg o_64_2.eq_1 <| rg o_64_3.eq_1 <| xg c_64_4.eq_1 <| rg o_64_5.eq_1 <| rg o_64_6.eq_1 <| rg o_64_7.eq_1 <| rg o_64_8.eq_1 <| rg o_64_9.eq_1 <| rg z57.eq_1 <| rg z58.eq_1 <| xg z59.eq_1 <| xg z6a.eq_1 <| xg z6b.eq_1 <| rg z6c.eq_1 <| rg z6d.eq_1 <| And.intro (@df_of T _ _ [(5, 8)] z6d.eq_1) <| rg z6e.eq_1 <| xg z6f.eq_1 <| rg z6g.eq_1 <| xg z6h.eq_1 <| xg z6i.eq_1 <| xg z6j.eq_1 <| xg z6k.eq_1 <| xg z6l.eq_1 <| @ex_of T _ _ z6m.eq_1
def zbl9 := @vd T F.zlq z6o [0] zbf4 rfl rfl
theorem zbma : z6o.res = [.tmp 2, .tmp 3, .tmp 4] ∧ z6o.rets = [[2], [], []] ∧ z6o.body = (.seq (.reg o_64_1) z6m) := ⟨rfl, rfl, rfl⟩
def zbmb := rg o_65_1.eq_1 <| rg o_65_2.eq_1 <| rg o_65_3.eq_1 <| rg o_65_4.eq_1 <| rg o_65_5.eq_1 <| rg o_65_6.eq_1 <| rg o_65_7.eq_1 <| rg o_65_8.eq_1 <| xg c_65_9.eq_1 <| rg z6p.eq_1 <| xg z6q.eq_1 <| rg z6r.eq_1 <| xg z6s.eq_1 <| xg z6t.eq_1 <| xg z6u.eq_1 <| rg z6v.eq_1 <| xg z6w.eq_1 <| rg z6x.eq_1 <| xg z6y.eq_1 <| xg z6z.eq_1 <| xg z60.eq_1 <| xg z61.eq_1 <| rg z62.eq_1 <| xg z63.eq_1 <| xg z64.eq_1 <| xg z65.eq_1 <| xg z66.eq_1 <| xg z67.eq_1 <| rg z68.eq_1 <| xg z69.eq_1 <| xg z7a.eq_1 <| @ex_of T _ _ z7b.eq_1
def zbmc := @vd T F.zll z7d [0] zbf5 rfl rfl
theorem zbmd : z7d.res = [.tmp 2, .tmp 3] ∧ z7d.rets = [[], []] ∧ z7d.body = (.seq (.reg o_65_1) z7b) := ⟨rfl, rfl, rfl⟩
def zbme := rg o_66_1.eq_1 <| rg o_66_2.eq_1 <| rg o_66_3.eq_1 <| rg o_66_4.eq_1 <| rg o_66_5.eq_1 <| rg o_66_6.eq_1 <| rg o_66_7.eq_1 <| rg o_66_8.eq_1 <| rg o_66_9.eq_1 <| rg z7e.eq_1 <| xg z7f.eq_1 <| rg z7g.eq_1 <| xg z7h.eq_1 <| xg z7i.eq_1 <| xg z7j.eq_1 <| xg z7k.eq_1 <| xg z7l.eq_1 <| rg z7m.eq_1 <| xg z7n.eq_1 <| xg z7o.eq_1 <| xg z7p.eq_1 <| rg z7q.eq_1 <| xg z7r.eq_1 <| xg z7s.eq_1 <| xg z7t.eq_1 <| xg z7u.eq_1 <| xg z7v.eq_1 <| rg z7w.eq_1 <| xg z7x.eq_1 <| xg z7y.eq_1 <| @ex_of T _ _ z7z.eq_1
def zbmf := @vd T F.zkx z71 [] zbf6 rfl rfl
theorem zbmg : z71.res = [.cell 0 256 true] ∧ z71.rets = [[]] ∧ z71.body = (.seq (.reg o_66_1) z7z) := ⟨rfl, rfl, rfl⟩
def zbmh := rg o_67_1.eq_1 <| rg o_67_2.eq_1 <| rg o_67_3.eq_1 <| rg o_67_4.eq_1 <| xg c_67_5.eq_1 <| xg c_67_6.eq_1 <| @ex_of T _ _ c_67_7.eq_1
def zbmi := @vi T F.znk z73 zbf7 rfl
theorem zbmj {n : Nat} {H : Hp} {vs : List V} : (orc T (n + 1)).inl F.znk vs H = finI H.length false [.tmp 2, .tmp 3, .tmp 4] (unw T (orc T n) n H.length [] (exec T (orc T n) n H.length (.seq (.reg o_67_1) c_67_7) (params 0 vs) H)) := by rw [zht, zbf7, y5, zhr]; rfl
def zbmk := rg o_68_1.eq_1 <| rg o_68_2.eq_1 <| rg o_68_3.eq_1 <| rg o_68_4.eq_1 <| xg c_68_5.eq_1 <| rg o_68_6.eq_1 <| xg c_68_7.eq_1 <| xg c_68_8.eq_1 <| @ex_of T _ _ c_68_9.eq_1
def zbml := @vd T F.zl0 z75 [0] zbf8 rfl rfl
theorem zbmm : z75.res = [.tmp 2, .tmp 3] ∧ z75.rets = [[], []] ∧ z75.body = (.seq (.reg o_68_1) c_68_9) := ⟨rfl, rfl, rfl⟩
def zbmn := rg o_69_1.eq_1 <| rg o_69_2.eq_1 <| @ex_of T _ _ c_69_3.eq_1
def zbmo := @vi T F.znl z77 zbf9 rfl
theorem zbmp {n : Nat} {H : Hp} {vs : List V} : (orc T (n + 1)).inl F.znl vs H = finI H.length false [.tmp 4] (unw T (orc T n) n H.length [] (exec T (orc T n) n H.length (.seq (.reg o_69_1) c_69_3) (params 0 vs) H)) := by rw [zht, zbf9, y5, zhr]; rfl
def zbmq := rg o_70_1.eq_1 <| rg o_70_2.eq_1 <| @ex_of T _ _ c_70_3.eq_1
def zbmr := @vd T F.zjo z79 [0] zbga rfl rfl
theorem zbms : z79.res = [.tmp 2] ∧ z79.rets = [[]] ∧ z79.body = (.seq (.reg o_70_1) c_70_3) := ⟨rfl, rfl, rfl⟩
def zbmt := rg o_71_1.eq_1 <| rg o_71_2.eq_1 <| @ex_of T _ _ c_71_3.eq_1
def zbmu := @vd T F.zjl z8b [0] zbgb rfl rfl
theorem zbmv : z8b.res = [.tmp 2] ∧ z8b.rets = [[]] ∧ z8b.body = (.seq (.reg o_71_1) c_71_3) := ⟨rfl, rfl, rfl⟩
def zbmw := rg o_72_1.eq_1 <| rg o_72_2.eq_1 <| rg o_72_3.eq_1 <| rg o_72_4.eq_1 <| xg c_72_5.eq_1 <| rg o_72_6.eq_1 <| rg o_72_7.eq_1 <| xg c_72_8.eq_1 <| rg o_72_9.eq_1 <| xg z8c.eq_1 <| rg z8d.eq_1 <| xg z8e.eq_1 <| xg z8f.eq_1 <| xg z8g.eq_1 <| xg z8h.eq_1 <| rg z8i.eq_1 <| xg z8j.eq_1 <| xg z8k.eq_1 <| @ex_of T _ _ z8l.eq_1
def zbmx := @vd T F.zjq z8n [0, 0] zbgc rfl rfl
theorem zbmy : z8n.res = [.tmp 4] ∧ z8n.rets = [[]] ∧ z8n.body = (.seq (.reg o_72_1) z8l) := ⟨rfl, rfl, rfl⟩
def zbmz := rg o_73_1.eq_1 <| rg o_73_2.eq_1 <| @ex_of T _ _ c_73_3.eq_1
def zbm0 := @vd T F.zkh z8p [0] zbgd rfl rfl
theorem zbm1 : z8p.res = [.tmp 2] ∧ z8p.rets = [[]] ∧ z8p.body = (.seq (.reg o_73_1) c_73_3) := ⟨rfl, rfl, rfl⟩
def zbm2 := rg o_74_1.eq_1 <| rg o_74_2.eq_1 <| rg o_74_3.eq_1 <| rg o_74_4.eq_1 <| xg c_74_5.eq_1 <| rg o_74_6.eq_1 <| rg o_74_7.eq_1 <| rg o_74_8.eq_1 <| xg c_74_9.eq_1 <| rg z8q.eq_1 <| rg z8r.eq_1 <| xg z8s.eq_1 <| rg z8t.eq_1 <| rg z8u.eq_1 <| xg z8v.eq_1 <| rg z8w.eq_1 <| rg z8x.eq_1 <| rg z8y.eq_1 <| rg z8z.eq_1 <| xg z80.eq_1 <| rg z81.eq_1 <| xg z82.eq_1 <| xg z83.eq_1 <| xg z84.eq_1 <| xg z85.eq_1 <| xg z86.eq_1 <| xg z87.eq_1 <| xg z88.eq_1 <| xg z89.eq_1 <| xg z9a.eq_1 <| @ex_of T _ _ z9b.eq_1
def zbm3 := @vd T F.zml z9d [0] zbge rfl rfl
theorem zbm4 : z9d.res = [.tmp 2, .tmp 3, .tmp 4] ∧ z9d.rets = [[2], [], []] ∧ z9d.body = (.seq (.reg o_74_1) z9b) := ⟨rfl, rfl, rfl⟩
def zbm5 := rg o_75_1.eq_1 <| rg o_75_2.eq_1 <| rg o_75_3.eq_1 <| rg o_75_4.eq_1 <| rg o_75_5.eq_1 <| xg c_75_6.eq_1 <| rg o_75_7.eq_1 <| rg o_75_8.eq_1 <| rg o_75_9.eq_1 <| xg z9e.eq_1 <| rg z9f.eq_1 <| rg z9g.eq_1 <| rg z9h.eq_1 <| rg z9i.eq_1 <| rg z9j.eq_1 <| xg z9k.eq_1 <| rg z9l.eq_1 <| xg z9m.eq_1 <| xg z9n.eq_1 <| xg z9o.eq_1 <| xg z9p.eq_1 <| xg z9q.eq_1 <| xg z9r.eq_1 <| rg z9s.eq_1 <| xg z9t.eq_1 <| xg z9u.eq_1 <| xg z9v.eq_1 <| xg z9w.eq_1 <| rg z9x.eq_1 <| xg z9y.eq_1 <| xg z9z.eq_1 <| xg z90.eq_1 <| @ex_of T _ _ z91.eq_1
def zbm6 := @vd T F.zmc z93 [0] zbgf rfl rfl
theorem zbm7 : z93.res = [.tmp 2, .tmp 3] ∧ z93.rets = [[], []] ∧ z93.body = (.seq (.reg o_75_1) z91) := ⟨rfl, rfl, rfl⟩
def zbm8 := rg o_76_1.eq_1 <| rg o_76_2.eq_1 <| rg o_76_3.eq_1 <| rg o_76_4.eq_1 <| xg c_76_5.eq_1 <| rg o_76_6.eq_1 <| rg o_76_7.eq_1 <| rg o_76_8.eq_1 <| rg o_76_9.eq_1 <| xg z94.eq_1 <| xg z95.eq_1 <| xg z96.eq_1 <| rg z97.eq_1 <| xg z98.eq_1 <| xg z99.eq_1 <| xg zbaa.eq_1 <| xg zbab.eq_1 <| rg zbac.eq_1 <| xg zbad.eq_1 <| xg zbae.eq_1 <| @ex_of T _ _ zbaf.eq_1
def zbm9 := @vd T F.zmf zbah [0] zbgg rfl rfl
theorem zbna : zbah.res = [.tmp 2] ∧ zbah.rets = [[]] ∧ zbah.body = (.seq (.reg o_76_1) zbaf) := ⟨rfl, rfl, rfl⟩
def zbnb := rg o_77_1.eq_1 <| rg o_77_2.eq_1 <| rg o_77_3.eq_1 <| rg o_77_4.eq_1 <| xg c_77_5.eq_1 <| rg o_77_6.eq_1 <| xg c_77_7.eq_1 <| xg c_77_8.eq_1 <| @ex_of T _ _ c_77_9.eq_1
def zbnc := @vd T F.zmt zbaj [0] zbgh rfl rfl
theorem zbnd : zbaj.res = [.tmp 2, .tmp 3] ∧ zbaj.rets = [[], []] ∧ zbaj.body = (.seq (.reg o_77_1) c_77_9) := ⟨rfl, rfl, rfl⟩
def zbne := rg o_78_1.eq_1 <| rg o_78_2.eq_1 <| rg o_78_3.eq_1 <| xg c_78_4.eq_1 <| rg o_78_5.eq_1 <| rg o_78_6.eq_1 <| xg c_78_7.eq_1 <| rg o_78_8.eq_1 <| rg o_78_9.eq_1 <| xg zbak.eq_1 <| rg zbal.eq_1 <| xg zbam.eq_1 <| xg zban.eq_1 <| xg zbao.eq_1 <| xg zbap.eq_1 <| rg zbaq.eq_1 <| xg zbar.eq_1 <| xg zbas.eq_1 <| @ex_of T _ _ zbat.eq_1
def zbnf := @vd T F.zmv zbav [0, 0] zbgi rfl rfl
theorem zbng : zbav.res = [.tmp 4] ∧ zbav.rets = [[]] ∧ zbav.body = (.seq (.reg o_78_1) zbat) := ⟨rfl, rfl, rfl⟩
def zbnh := rg o_79_1.eq_1 <| rg o_79_2.eq_1 <| rg o_79_3.eq_1 <| xg c_79_4.eq_1 <| rg o_79_5.eq_1 <| rg o_79_6.eq_1 <| xg c_79_7.eq_1 <| rg o_79_8.eq_1 <| xg c_79_9.eq_1 <| xg zbaw.eq_1 <| @ex_of T _ _ zbax.eq_1
def zbni := @vd T F.zmw zbaz [0] zbgj rfl rfl
theorem zbnj : zbaz.res = [.tmp 2] ∧ zbaz.rets = [[]] ∧ zbaz.body = (.seq (.reg o_79_1) zbax) := ⟨rfl, rfl, rfl⟩
def zbnk := rg o_80_1.eq_1 <| rg o_80_2.eq_1 <| rg o_80_3.eq_1 <| xg c_80_4.eq_1 <| rg o_80_5.eq_1 <| xg c_80_6.eq_1 <| @ex_of T _ _ c_80_7.eq_1
def zbnl := @vd T F.zjv zba1 [0] zbgk rfl rfl
theorem zbnm : zba1.res = [.tmp 2] ∧ zba1.rets = [[2]] ∧ zba1.body = (.seq (.reg o_80_1) c_80_7) := ⟨rfl, rfl, rfl⟩
def zbnn := rg o_81_1.eq_1 <| rg o_81_2.eq_1 <| rg o_81_3.eq_1 <| rg o_81_4.eq_1 <| xg c_81_5.eq_1 <| rg o_81_6.eq_1 <| rg o_81_7.eq_1 <| rg o_81_8.eq_1 <| rg o_81_9.eq_1 <| xg zba2.eq_1 <| xg zba3.eq_1 <| xg zba4.eq_1 <| xg zba5.eq_1 <| xg zba6.eq_1 <| @ex_of T _ _ zba7.eq_1
def zbno := @vd T F.zjw zba9 [2, 0, 0] zbgl rfl rfl
theorem zbnp : zba9.res = [.tmp 6] ∧ zba9.rets = [[2]] ∧ zba9.body = (.seq (.reg o_81_1) zba7) := ⟨rfl, rfl, rfl⟩
def zbnq := rg o_82_1.eq_1 <| rg o_82_2.eq_1 <| rg o_82_3.eq_1 <| rg o_82_4.eq_1 <| xg c_82_5.eq_1 <| xg c_82_6.eq_1 <| rg o_82_7.eq_1 <| xg c_82_8.eq_1 <| @ex_of T _ _ c_82_9.eq_1
def zbnr := @vd T F.zj0 zbbb [0, 0] zbgm rfl rfl
theorem zbns : zbbb.res = [.tmp 4] ∧ zbbb.rets = [[]] ∧ zbbb.body = (.seq (.reg o_82_1) c_82_9) := ⟨rfl, rfl, rfl⟩
def zbnt := rg o_83_1.eq_1 <| rg o_83_2.eq_1 <| rg o_83_3.eq_1 <| xg c_83_4.eq_1 <| rg o_83_5.eq_1 <| xg c_83_6.eq_1 <| xg c_83_7.eq_1 <| rg o_83_8.eq_1 <| xg c_83_9.eq_1 <| xg zbbc.eq_1 <| @ex_of T _ _ zbbd.eq_1
def zbnu := @vd T F.zjz zbbf [0, 0] zbgn rfl rfl
theorem zbnv : zbbf.res = [.tmp 4, .tmp 5] ∧ zbbf.rets = [[], []] ∧ zbbf.body = (.seq (.reg o_83_1) zbbd) := ⟨rfl, rfl, rfl⟩
def zbnw := rg o_85_1.eq_1 <| rg o_85_2.eq_1 <| rg o_85_3.eq_1 <| xg c_85_4.eq_1 <| rg o_85_5.eq_1 <| rg o_85_6.eq_1 <| And.intro (@dr_of T _ _ [(5, 3)] o_85_6.eq_1 (by decide)) <| rg o_85_7.eq_1 <| rg o_85_8.eq_1 <| rg o_85_9.eq_1 <| rg zbbg.eq_1 <| xg zbbh.eq_1 <| xg zbbi.eq_1 <| rg zbbj.eq_1 <| rg zbbk.eq_1 <| rg zbbl.eq_1 <| xg zbbm.eq_1 <| rg zbbn.eq_1 <| rg zbbo.eq_1 <| xg zbbp.eq_1 <| xg zbbq.eq_1 <| xg zbbr.eq_1 <| xg zbbs.eq_1 <| xg zbbt.eq_1 <| xg zbbu.eq_1 <| xg zbbv.eq_1 <| @ex_of T _ _ zbbw.eq_1
def zbnx := @vd T F.zj2 zbby [0, 0] zbgo rfl rfl
theorem zbny : zbby.res = [.cell 4 4 true, .tmp 5] ∧ zbby.rets = [[], []] ∧ zbby.body = (.seq (.reg o_85_1) zbbw) := ⟨rfl, rfl, rfl⟩
def zbnz := rg o_88_1.eq_1 <| rg o_88_2.eq_1 <| rg o_88_3.eq_1 <| xg c_88_4.eq_1 <| rg o_88_5.eq_1 <| xg c_88_6.eq_1 <| @ex_of T _ _ c_88_7.eq_1
def zbn0 := @vd T F.zko zbb0 [0] zbgp rfl rfl
theorem zbn1 : zbb0.res = [.tmp 2] ∧ zbb0.rets = [[]] ∧ zbb0.body = (.seq (.reg o_88_1) c_88_7) := ⟨rfl, rfl, rfl⟩
def zbn2 := rg o_89_1.eq_1 <| rg o_89_2.eq_1 <| @ex_of T _ _ c_89_3.eq_1
def zbn3 := @vd T F.zkp zbb2 [0] zbgq rfl rfl
theorem zbn4 : zbb2.res = [.tmp 2] ∧ zbb2.rets = [[]] ∧ zbb2.body = (.seq (.reg o_89_1) c_89_3) := ⟨rfl, rfl, rfl⟩
def zbn5 := rg o_90_1.eq_1 <| rg o_90_2.eq_1 <| @ex_of T _ _ c_90_3.eq_1
def zbn6 := @vd T F.zk4 zbb4 [0, 0] zbgr rfl rfl
theorem zbn7 : zbb4.res = [.tmp 4] ∧ zbb4.rets = [[2]] ∧ zbb4.body = (.seq (.reg o_90_1) c_90_3) := ⟨rfl, rfl, rfl⟩
def zbn8 := rg o_91_1.eq_1 <| rg o_91_2.eq_1 <| @ex_of T _ _ c_91_3.eq_1
def zbn9 := @vd T F.zlj zbb6 [0] zbgs rfl rfl
theorem zboa : zbb6.res = [.tmp 2] ∧ zbb6.rets = [[]] ∧ zbb6.body = (.seq (.reg o_91_1) c_91_3) := ⟨rfl, rfl, rfl⟩
def zbob := rg o_92_1.eq_1 <| rg o_92_2.eq_1 <| rg o_92_3.eq_1 <| xg c_92_4.eq_1 <| rg o_92_5.eq_1 <| rg o_92_6.eq_1 <| rg o_92_7.eq_1 <| rg o_92_8.eq_1 <| rg o_92_9.eq_1 <| xg zbb7.eq_1 <| xg zbb8.eq_1 <| rg zbb9.eq_1 <| xg zbca.eq_1 <| xg zbcb.eq_1 <| xg zbcc.eq_1 <| xg zbcd.eq_1 <| xg zbce.eq_1 <| rg zbcf.eq_1 <| xg zbcg.eq_1 <| xg zbch.eq_1 <| @ex_of T _ _ zbci.eq_1
def zboc := @vd T F.zlo zbck [0, 0] zbgt rfl rfl
theorem zbod : zbck.res = [.tmp 4] ∧ zbck.rets = [[]] ∧ zbck.body = (.seq (.reg o_92_1) zbci) := ⟨rfl, rfl, rfl⟩
def zboe := rg o_93_1.eq_1 <| rg o_93_2.eq_1 <| rg o_93_3.eq_1 <| xg c_93_4.eq_1 <| rg o_93_5.eq_1 <| xg c_93_6.eq_1 <| @ex_of T _ _ c_93_7.eq_1
def zbof := @vd T F.zlp zbcm [0] zbgu rfl rfl
theorem zbog : zbcm.res = [.tmp 2] ∧ zbcm.rets = [[2]] ∧ zbcm.body = (.seq (.reg o_93_1) c_93_7) := ⟨rfl, rfl, rfl⟩
def zboh := rg o_94_1.eq_1 <| rg o_94_2.eq_1 <| rg o_94_3.eq_1 <| rg o_94_4.eq_1 <| rg o_94_5.eq_1 <| xg c_94_6.eq_1 <| xg c_94_7.eq_1 <| xg c_94_8.eq_1 <| @ex_of T _ _ c_94_9.eq_1
def zboi := @vi T F.znn zbco zbgv rfl
theorem zboj {n : Nat} {H : Hp} {vs : List V} : (orc T (n + 1)).inl F.znn vs H = finI H.length false [.tmp 4] (unw T (orc T n) n H.length [] (exec T (orc T n) n H.length (.seq (.reg o_94_1) c_94_9) (params 0 vs) H)) := by rw [zht, zbgv, y5, zhr]; rfl
def zbok := rg o_95_1.eq_1 <| rg o_95_2.eq_1 <| @ex_of T _ _ c_95_3.eq_1
def zbol := @vi T F.zno zbcq zbgw rfl
theorem zbom {n : Nat} {H : Hp} {vs : List V} : (orc T (n + 1)).inl F.zno vs H = finI H.length false [.tmp 1] (unw T (orc T n) n H.length [] (exec T (orc T n) n H.length (.seq (.reg o_95_1) c_95_3) (params 0 vs) H)) := by rw [zht, zbgw, y5, zhr]; rfl
def zbon := rg o_96_1.eq_1 <| rg o_96_2.eq_1 <| @ex_of T _ _ c_96_3.eq_1
def zboo := @vi T F.znp zbcs zbgx rfl
theorem zbop {n : Nat} {H : Hp} {vs : List V} : (orc T (n + 1)).inl F.znp vs H = finI H.length false [.tmp 1] (unw T (orc T n) n H.length [] (exec T (orc T n) n H.length (.seq (.reg o_96_1) c_96_3) (params 0 vs) H)) := by rw [zht, zbgx, y5, zhr]; rfl
def zboq := rg o_97_1.eq_1 <| rg o_97_2.eq_1 <| @ex_of T _ _ c_97_3.eq_1
def zbor := @vd T F.zlz zbcu [0] zbgy rfl rfl
theorem zbos : zbcu.res = [.tmp 2] ∧ zbcu.rets = [[]] ∧ zbcu.body = (.seq (.reg o_97_1) c_97_3) := ⟨rfl, rfl, rfl⟩
def zbot := rg o_98_1.eq_1 <| rg o_98_2.eq_1 <| rg o_98_3.eq_1 <| rg o_98_4.eq_1 <| rg o_98_5.eq_1 <| rg o_98_6.eq_1 <| xg c_98_7.eq_1 <| xg c_98_8.eq_1 <| rg o_98_9.eq_1 <| xg zbcv.eq_1 <| xg zbcw.eq_1 <| xg zbcx.eq_1 <| xg zbcy.eq_1 <| xg zbcz.eq_1 <| rg zbc0.eq_1 <| xg zbc1.eq_1 <| @ex_of T _ _ zbc2.eq_1
def zbou := @vi T F.znq zbc4 zbgz rfl
theorem zbov {n : Nat} {H : Hp} {vs : List V} : (orc T (n + 1)).inl F.znq vs H = finI H.length false [.tmp 4] (unw T (orc T n) n H.length [] (exec T (orc T n) n H.length (.seq (.reg o_98_1) zbc2) (params 0 vs) H)) := by rw [zht, zbgz, y5, zhr]; rfl
def zbow := rg o_99_1.eq_1 <| rg o_99_2.eq_1 <| rg o_99_3.eq_1 <| xg c_99_4.eq_1 <| rg o_99_5.eq_1 <| rg o_99_6.eq_1 <| xg c_99_7.eq_1 <| rg o_99_8.eq_1 <| xg c_99_9.eq_1 <| xg zbc5.eq_1 <| xg zbc6.eq_1 <| xg zbc7.eq_1 <| rg zbc8.eq_1 <| xg zbc9.eq_1 <| @ex_of T _ _ zbda.eq_1
def zbox := @vd T F.zma zbdc [0] zbg0 rfl rfl
theorem zboy : zbdc.res = [.tmp 2] ∧ zbdc.rets = [[]] ∧ zbdc.body = (.seq (.reg o_99_1) zbda) := ⟨rfl, rfl, rfl⟩
def zboz := rg zbdd.eq_1 <| rg zbde.eq_1 <| rg zbdf.eq_1 <| xg zbdg.eq_1 <| rg zbdh.eq_1 <| xg zbdi.eq_1 <| @ex_of T _ _ zbdj.eq_1
def zbo0 := @vd T F.zms zbdl [0] zbg1 rfl rfl
theorem zbo1 : zbdl.res = [.tmp 2] ∧ zbdl.rets = [[]] ∧ zbdl.body = (.seq (.reg zbdd) zbdj) := ⟨rfl, rfl, rfl⟩
def zbo2 := rg zbdm.eq_1 <| rg zbdn.eq_1 <| @ex_of T _ _ zbdo.eq_1
def zbo3 := @vi T F.znr zbdq zbg2 rfl
theorem zbo4 {n : Nat} {H : Hp} {vs : List V} : (orc T (n + 1)).inl F.znr vs H = finI H.length false [.tmp 4] (unw T (orc T n) n H.length [] (exec T (orc T n) n H.length (.seq (.reg zbdm) zbdo) (params 0 vs) H)) := by rw [zht, zbg2, y5, zhr]; rfl
def zbo5 := rg zbdr.eq_1 <| rg zbds.eq_1 <| @ex_of T _ _ zbdt.eq_1
def zbo6 := @vd T F.zlg zbdv [0] zbg3 rfl rfl
theorem zbo7 : zbdv.res = [.tmp 2] ∧ zbdv.rets = [[]] ∧ zbdv.body = (.seq (.reg zbdr) zbdt) := ⟨rfl, rfl, rfl⟩
def zbo8 := rg zbdw.eq_1 <| rg zbdx.eq_1 <| rg zbdy.eq_1 <| rg zbdz.eq_1 <| rg zbd0.eq_1 <| rg zbd1.eq_1 <| xg zbd2.eq_1 <| xg zbd3.eq_1 <| rg zbd4.eq_1 <| xg zbd5.eq_1 <| xg zbd6.eq_1 <| xg zbd7.eq_1 <| xg zbd8.eq_1 <| xg zbd9.eq_1 <| rg zbea.eq_1 <| xg zbeb.eq_1 <| @ex_of T _ _ zbec.eq_1
def zbo9 := @vi T F.zns zbee zbg4 rfl
theorem zbpa {n : Nat} {H : Hp} {vs : List V} : (orc T (n + 1)).inl F.zns vs H = finI H.length false [.tmp 4] (unw T (orc T n) n H.length [] (exec T (orc T n) n H.length (.seq (.reg zbdw) zbec) (params 0 vs) H)) := by rw [zht, zbg4, y5, zhr]; rfl
end Go.Dvm.C
