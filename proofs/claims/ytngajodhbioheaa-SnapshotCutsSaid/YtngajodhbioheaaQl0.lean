/- What each piece of the code comes to: part 1. -/
import Derived.Test.YtngajodhbioheaaQc0
set_option linter.all false
set_option maxRecDepth 100000
set_option maxHeartbeats 4000000
namespace Go.Dvm.C
open Go Go.Dvm
def ke := And.intro @Ow.enc.eq_1 <| And.intro @Sl.enc.eq_1 <| And.intro @I.zjk.enc.eq_1 <| And.intro @I.zjl.enc.eq_1 <| And.intro @I.zjm.enc.eq_1 <| And.intro @I.zjn.enc.eq_1 <| And.intro @I.zjp.enc.eq_1 <| And.intro @I.zjo.enc.eq_1 <| And.intro @arrEnc.eq_1 <| @I.zjq.enc.eq_1
def kf := And.intro @ke @kn
def tab : List (Nat × MFun) := [(15, znh), (18, znj), (22, znl), (23, zn2), (28, zn4), (31, zn8), (37, zoo), (43, zpp), (44, zpr), (50, zpt), (52, zqe), (53, zqo), (54, zqq), (55, zri), (58, zr0), (62, zr2), (63, zr4), (67, zso), (68, zsq), (69, zss), (70, zs2), (71, zs4), (72, ztu), (80, zt6), (81, zt8), (82, zua), (83, zuc), (84, zue), (89, zug), (90, zu8), (91, zvz), (92, zv9), (93, zxd), (95, zxf), (96, zxh), (97, zxj), (98, zxv), (99, zxx), (100, zx2), (101, zyn), (102, zzl), (103, z0l), (104, z1g), (106, z1l), (107, z1w), (108, z2j), (109, z2o), (110, z2x), (116, z3a), (117, z3f), (134, z32), (135, z4l), (136, z46), (140, z5p), (141, z58), (142, z6m), (143, z7m), (144, z77), (145, z8q), (146, z87), (147, z9i), (148, z9v), (150, zban), (151, zbas), (152, zbax), (153, zbbv), (156, zbb6), (166, zbcf), (167, zbdc), (168, zbdl), (170, zbd4), (171, zbd9), (174, zbek), (175, zbep), (176, zbeu)]
abbrev T : Nat → Option MFun := look tab
theorem zbev : T F.zmh = some znh := rfl
theorem zbew : T F.zkd = some znj := rfl
theorem zbex : T F.zj1 = some znl := rfl
theorem zbey : T F.zks = some zn2 := rfl
theorem zbez : T F.zl0 = some zn4 := rfl
theorem zbe0 : T F.zkb = some zn8 := rfl
theorem zbe1 : T F.zlz = some zoo := rfl
theorem zbe2 : T F.zmg = some zpp := rfl
theorem zbe3 : T F.zkc = some zpr := rfl
theorem zbe4 : T F.zj2 = some zpt := rfl
theorem zbe5 : T F.zjx = some zqe := rfl
theorem zbe6 : T F.zj0 = some zqo := rfl
theorem zbe7 : T F.zkf = some zqq := rfl
theorem zbe8 : T F.zkp = some zri := rfl
theorem zbe9 : T F.zld = some zr0 := rfl
theorem zbfa : T F.zlk = some zr2 := rfl
theorem zbfb : T F.zlq = some zr4 := rfl
theorem zbfc : T F.zmi = some zso := rfl
theorem zbfd : T F.zj3 = some zsq := rfl
theorem zbfe : T F.zmj = some zss := rfl
theorem zbff : T F.zmk = some zs2 := rfl
theorem zbfg : T F.zml = some zs4 := rfl
theorem zbfh : T F.zj4 = some ztu := rfl
theorem zbfi : T F.zlv = some zt6 := rfl
theorem zbfj : T F.zli = some zt8 := rfl
theorem zbfk : T F.zlw = some zua := rfl
theorem zbfl : T F.zk8 = some zuc := rfl
theorem zbfm : T F.zk5 = some zue := rfl
theorem zbfn : T F.zl3 = some zug := rfl
theorem zbfo : T F.zl6 = some zu8 := rfl
theorem zbfp : T F.zlp = some zvz := rfl
theorem zbfq : T F.zl8 = some zv9 := rfl
theorem zbfr : T F.zmf = some zxd := rfl
theorem zbfs : T F.zmm = some zxf := rfl
theorem zbft : T F.zjs = some zxh := rfl
theorem zbfu : T F.zjr = some zxj := rfl
theorem zbfv : T F.zju = some zxv := rfl
theorem zbfw : T F.zjy = some zxx := rfl
theorem zbfx : T F.zke = some zx2 := rfl
theorem zbfy : T F.zkg = some zyn := rfl
theorem zbfz : T F.zki = some zzl := rfl
theorem zbf0 : T F.zkm = some z0l := rfl
theorem zbf1 : T F.zko = some z1g := rfl
theorem zbf2 : T F.zkw = some z1l := rfl
theorem zbf3 : T F.zkz = some z1w := rfl
theorem zbf4 : T F.zlb = some z2j := rfl
theorem zbf5 : T F.zk9 = some z2o := rfl
theorem zbf6 : T F.zlc = some z2x := rfl
theorem zbf7 : T F.zlh = some z3a := rfl
theorem zbf8 : T F.zlj = some z3f := rfl
theorem zbf9 : T F.zlt = some z32 := rfl
theorem zbga : T F.zk7 = some z4l := rfl
theorem zbgb : T F.zk4 = some z46 := rfl
theorem zbgc : T F.zl2 = some z5p := rfl
theorem zbgd : T F.zl5 = some z58 := rfl
theorem zbge : T F.zmn = some z6m := rfl
theorem zbgf : T F.zmb = some z7m := rfl
theorem zbgg : T F.zmc = some z77 := rfl
theorem zbgh : T F.zmo = some z8q := rfl
theorem zbgi : T F.zkh = some z87 := rfl
theorem zbgj : T F.zkl = some z9i := rfl
theorem zbgk : T F.zkk = some z9v := rfl
theorem zbgl : T F.zkn = some zban := rfl
theorem zbgm : T F.zmq = some zbas := rfl
theorem zbgn : T F.zkt = some zbax := rfl
theorem zbgo : T F.zky = some zbbv := rfl
theorem zbgp : T F.zlf = some zbb6 := rfl
theorem zbgq : T F.zlr = some zbcf := rfl
theorem zbgr : T F.zk2 = some zbdc := rfl
theorem zbgs : T F.zmr = some zbdl := rfl
theorem zbgt : T F.zms = some zbd4 := rfl
theorem zbgu : T F.zle = some zbd9 := rfl
theorem zbgv : T F.zmt = some zbek := rfl
theorem zbgw : T F.zmu = some zbep := rfl
theorem zbgx : T F.zmv = some zbeu := rfl
def rg {P : Prop} {c c' : List MO} (h : c = c') (p : P) := ra (T := T) h p
def xg {P : Prop} {c c' : MC} (h : c = c') (p : P) := xa (T := T) h p
def zbgy := rg o_15_1.eq_1 <| rg o_15_2.eq_1 <| rg o_15_3.eq_1 <| rg o_15_4.eq_1 <| rg o_15_5.eq_1 <| xg c_15_6.eq_1 <| rg o_15_7.eq_1 <| rg o_15_8.eq_1 <| rg o_15_9.eq_1 <| xg zmw.eq_1 <| rg zmx.eq_1 <| rg zmy.eq_1 <| rg zmz.eq_1 <| xg zm0.eq_1 <| rg zm1.eq_1 <| rg zm2.eq_1 <| xg zm3.eq_1 <| rg zm4.eq_1 <| rg zm5.eq_1 <| xg zm6.eq_1 <| xg zm7.eq_1 <| xg zm8.eq_1 <| xg zm9.eq_1 <| xg zna.eq_1 <| xg znb.eq_1 <| xg znc.eq_1 <| xg znd.eq_1 <| xg zne.eq_1 <| @ex_of T _ _ znf.eq_1
def zbgz := @vd T F.zmh znh [0, 0, 0] zbev rfl rfl
theorem zbg0 : znh.res = [.tmp 6] ∧ znh.rets = [[]] ∧ znh.body = (.seq (.reg o_15_1) znf) := ⟨rfl, rfl, rfl⟩
def zbg1 := rg o_18_1.eq_1 <| rg o_18_2.eq_1 <| @ex_of T _ _ c_18_3.eq_1
def zbg2 := @vd T F.zkd znj [0] zbew rfl rfl
theorem zbg3 : znj.res = [.tmp 2] ∧ znj.rets = [[]] ∧ znj.body = (.seq (.reg o_18_1) c_18_3) := ⟨rfl, rfl, rfl⟩
def zbg4 := rg o_22_1.eq_1 <| rg o_22_2.eq_1 <| @ex_of T _ _ c_22_3.eq_1
def zbg5 := @vd T F.zj1 znl [0] zbex rfl rfl
theorem zbg6 : znl.res = [.tmp 2] ∧ znl.rets = [[]] ∧ znl.body = (.seq (.reg o_22_1) c_22_3) := ⟨rfl, rfl, rfl⟩
def zbg7 := rg o_23_1.eq_1 <| rg o_23_2.eq_1 <| rg o_23_3.eq_1 <| rg o_23_4.eq_1 <| rg o_23_5.eq_1 <| rg o_23_6.eq_1 <| rg o_23_7.eq_1 <| rg o_23_8.eq_1 <| xg c_23_9.eq_1 <| xg znm.eq_1 <| rg znn.eq_1 <| rg zno.eq_1 <| And.intro (@df_of T _ _ [(1, 6)] zno.eq_1) <| xg znp.eq_1 <| xg znq.eq_1 <| xg znr.eq_1 <| rg zns.eq_1 <| xg znt.eq_1 <| xg znu.eq_1 <| xg znv.eq_1 <| xg znw.eq_1 <| xg znx.eq_1 <| rg zny.eq_1 <| xg znz.eq_1 <| @ex_of T _ _ zn0.eq_1
def zbg8 := @vd T F.zks zn2 [0, 0] zbey rfl rfl
theorem zbg9 : zn2.res = [.cell 4 6 true, .tmp 5] ∧ zn2.rets = [[], []] ∧ zn2.body = (.seq (.reg o_23_1) zn0) := ⟨rfl, rfl, rfl⟩
def zbha := rg o_28_1.eq_1 <| rg o_28_2.eq_1 <| rg o_28_3.eq_1 <| rg o_28_4.eq_1 <| xg c_28_5.eq_1 <| xg c_28_6.eq_1 <| @ex_of T _ _ c_28_7.eq_1
def zbhb := @vd T F.zl0 zn4 [] zbez rfl rfl
theorem zbhc : zn4.res = [.tmp 0] ∧ zn4.rets = [[]] ∧ zn4.body = (.seq (.reg o_28_1) c_28_7) := ⟨rfl, rfl, rfl⟩
def zbhd := rg o_31_1.eq_1 <| rg o_31_2.eq_1 <| rg o_31_3.eq_1 <| rg o_31_4.eq_1 <| rg o_31_5.eq_1 <| xg c_31_6.eq_1 <| rg o_31_7.eq_1 <| xg c_31_8.eq_1 <| xg c_31_9.eq_1 <| xg zn5.eq_1 <| @ex_of T _ _ zn6.eq_1
def zbhe := @vd T F.zkb zn8 [0, 0] zbe0 rfl rfl
theorem zbhf : zn8.res = [.tmp 4] ∧ zn8.rets = [[4]] ∧ zn8.body = (.seq (.reg o_31_1) zn6) := ⟨rfl, rfl, rfl⟩
def zbhg := rg o_37_1.eq_1 <| rg o_37_2.eq_1 <| rg o_37_3.eq_1 <| xg c_37_4.eq_1 <| rg o_37_5.eq_1 <| rg o_37_6.eq_1 <| And.intro (@df_of T _ _ [(3, 0), (3, 1), (6, 0), (6, 1), (6, 4)] o_37_6.eq_1) <| rg o_37_7.eq_1 <| rg o_37_8.eq_1 <| xg c_37_9.eq_1 <| rg zn9.eq_1 <| rg zoa.eq_1 <| rg zob.eq_1 <| xg zoc.eq_1 <| xg zod.eq_1 <| xg zoe.eq_1 <| xg zof.eq_1 <| rg zog.eq_1 <| xg zoh.eq_1 <| xg zoi.eq_1 <| xg zoj.eq_1 <| xg zok.eq_1 <| xg zol.eq_1 <| @ex_of T _ _ zom.eq_1
def zbhh := @vd T F.zlz zoo [0] zbe1 rfl rfl
theorem zbhi : zoo.res = [.tmp 2, .tmp 3] ∧ zoo.rets = [[2], []] ∧ zoo.body = (.seq (.reg o_37_1) zom) := ⟨rfl, rfl, rfl⟩
def zbhj := rg o_43_1.eq_1 <| rg o_43_2.eq_1 <| rg o_43_3.eq_1 <| rg o_43_4.eq_1 <| rg o_43_5.eq_1 <| rg o_43_6.eq_1 <| rg o_43_7.eq_1 <| xg c_43_8.eq_1 <| xg c_43_9.eq_1 <| rg zop.eq_1 <| rg zoq.eq_1 <| rg zor.eq_1 <| xg zos.eq_1 <| rg zot.eq_1 <| rg zou.eq_1 <| rg zov.eq_1 <| rg zow.eq_1 <| rg zox.eq_1 <| rg zoy.eq_1 <| And.intro (@dr_of T _ _ [(4, 1)] zoy.eq_1 (by decide)) <| rg zoz.eq_1 <| xg zo0.eq_1 <| xg zo1.eq_1 <| xg zo2.eq_1 <| rg zo3.eq_1 <| rg zo4.eq_1 <| rg zo5.eq_1 <| xg zo6.eq_1 <| rg zo7.eq_1 <| rg zo8.eq_1 <| rg zo9.eq_1 <| xg zpa.eq_1 <| xg zpb.eq_1 <| rg zpc.eq_1 <| xg zpd.eq_1 <| xg zpe.eq_1 <| xg zpf.eq_1 <| xg zpg.eq_1 <| xg zph.eq_1 <| xg zpi.eq_1 <| xg zpj.eq_1 <| xg zpk.eq_1 <| xg zpl.eq_1 <| xg zpm.eq_1 <| @ex_of T _ _ zpn.eq_1
def zbhk := @vd T F.zmg zpp [0] zbe2 rfl rfl
theorem zbhl : zpp.res = [.cell 2 6 true, .tmp 3] ∧ zpp.rets = [[], []] ∧ zpp.body = (.seq (.reg o_43_1) zpn) := ⟨rfl, rfl, rfl⟩
def zbhm := rg o_44_1.eq_1 <| rg o_44_2.eq_1 <| @ex_of T _ _ c_44_3.eq_1
def zbhn := @vd T F.zkc zpr [0] zbe3 rfl rfl
theorem zbho : zpr.res = [.tmp 2] ∧ zpr.rets = [[]] ∧ zpr.body = (.seq (.reg o_44_1) c_44_3) := ⟨rfl, rfl, rfl⟩
def zbhp := rg o_50_1.eq_1 <| rg o_50_2.eq_1 <| rg o_50_3.eq_1 <| xg c_50_4.eq_1 <| rg o_50_5.eq_1 <| xg c_50_6.eq_1 <| @ex_of T _ _ c_50_7.eq_1
def zbhq := @vd T F.zj2 zpt [0] zbe4 rfl rfl
theorem zbhr : zpt.res = [.tmp 2] ∧ zpt.rets = [[2]] ∧ zpt.body = (.seq (.reg o_50_1) c_50_7) := ⟨rfl, rfl, rfl⟩
def zbhs := rg o_52_1.eq_1 <| rg o_52_2.eq_1 <| rg o_52_3.eq_1 <| xg c_52_4.eq_1 <| rg o_52_5.eq_1 <| rg o_52_6.eq_1 <| rg o_52_7.eq_1 <| rg o_52_8.eq_1 <| xg c_52_9.eq_1 <| rg zpu.eq_1 <| rg zpv.eq_1 <| rg zpw.eq_1 <| xg zpx.eq_1 <| rg zpy.eq_1 <| rg zpz.eq_1 <| rg zp0.eq_1 <| rg zp1.eq_1 <| rg zp2.eq_1 <| xg zp3.eq_1 <| xg zp4.eq_1 <| xg zp5.eq_1 <| xg zp6.eq_1 <| xg zp7.eq_1 <| rg zp8.eq_1 <| xg zp9.eq_1 <| xg zqa.eq_1 <| xg zqb.eq_1 <| @ex_of T _ _ zqc.eq_1
def zbht := @vd T F.zjx zqe [0] zbe5 rfl rfl
theorem zbhu : zqe.res = [.tmp 2] ∧ zqe.rets = [[]] ∧ zqe.body = (.seq (.reg o_52_1) zqc) := ⟨rfl, rfl, rfl⟩
def zbhv := rg o_53_1.eq_1 <| rg o_53_2.eq_1 <| rg o_53_3.eq_1 <| rg o_53_4.eq_1 <| rg o_53_5.eq_1 <| rg o_53_6.eq_1 <| xg c_53_7.eq_1 <| xg c_53_8.eq_1 <| rg o_53_9.eq_1 <| xg zqf.eq_1 <| xg zqg.eq_1 <| xg zqh.eq_1 <| xg zqi.eq_1 <| xg zqj.eq_1 <| rg zqk.eq_1 <| xg zql.eq_1 <| @ex_of T _ _ zqm.eq_1
def zbhw := @vd T F.zj0 zqo [0] zbe6 rfl rfl
theorem zbhx : zqo.res = [.tmp 2] ∧ zqo.rets = [[]] ∧ zqo.body = (.seq (.reg o_53_1) zqm) := ⟨rfl, rfl, rfl⟩
def zbhy := rg o_54_1.eq_1 <| rg o_54_2.eq_1 <| @ex_of T _ _ c_54_3.eq_1
def zbhz := @vd T F.zkf zqq [0] zbe7 rfl rfl
theorem zbh0 : zqq.res = [.tmp 2] ∧ zqq.rets = [[]] ∧ zqq.body = (.seq (.reg o_54_1) c_54_3) := ⟨rfl, rfl, rfl⟩
def zbh1 := rg o_55_1.eq_1 <| rg o_55_2.eq_1 <| rg o_55_3.eq_1 <| rg o_55_4.eq_1 <| rg o_55_5.eq_1 <| rg o_55_6.eq_1 <| rg o_55_7.eq_1 <| rg o_55_8.eq_1 <| rg o_55_9.eq_1 <| xg zqr.eq_1 <| rg zqs.eq_1 <| xg zqt.eq_1 <| xg zqu.eq_1 <| xg zqv.eq_1 <| xg zqw.eq_1 <| xg zqx.eq_1 <| rg zqy.eq_1 <| rg zqz.eq_1 <| rg zq0.eq_1 <| xg zq1.eq_1 <| rg zq2.eq_1 <| rg zq3.eq_1 <| rg zq4.eq_1 <| xg zq5.eq_1 <| rg zq6.eq_1 <| rg zq7.eq_1 <| rg zq8.eq_1 <| xg zq9.eq_1 <| xg zra.eq_1 <| xg zrb.eq_1 <| xg zrc.eq_1 <| rg zrd.eq_1 <| xg zre.eq_1 <| xg zrf.eq_1 <| @ex_of T _ _ zrg.eq_1
def zbh2 := @vd T F.zkp zri [0, 0] zbe8 rfl rfl
theorem zbh3 : zri.res = [.cell 4 4 true, .tmp 5] ∧ zri.rets = [[], []] ∧ zri.body = (.seq (.reg o_55_1) zrg) := ⟨rfl, rfl, rfl⟩
def zbh4 := rg o_58_1.eq_1 <| rg o_58_2.eq_1 <| rg o_58_3.eq_1 <| xg c_58_4.eq_1 <| rg o_58_5.eq_1 <| rg o_58_6.eq_1 <| rg o_58_7.eq_1 <| rg o_58_8.eq_1 <| rg o_58_9.eq_1 <| rg zrj.eq_1 <| rg zrk.eq_1 <| xg zrl.eq_1 <| xg zrm.eq_1 <| xg zrn.eq_1 <| rg zro.eq_1 <| rg zrp.eq_1 <| And.intro (@df_of T _ _ [(5, 8)] zrp.eq_1) <| rg zrq.eq_1 <| xg zrr.eq_1 <| rg zrs.eq_1 <| xg zrt.eq_1 <| xg zru.eq_1 <| xg zrv.eq_1 <| xg zrw.eq_1 <| xg zrx.eq_1 <| @ex_of T _ _ zry.eq_1
def zbh5 := @vd T F.zld zr0 [0] zbe9 rfl rfl
theorem zbh6 : zr0.res = [.tmp 2, .tmp 3, .tmp 4] ∧ zr0.rets = [[2], [], []] ∧ zr0.body = (.seq (.reg o_58_1) zry) := ⟨rfl, rfl, rfl⟩
def zbh7 := rg o_62_1.eq_1 <| rg o_62_2.eq_1 <| @ex_of T _ _ c_62_3.eq_1
def zbh8 := @vd T F.zlk zr2 [2, 0] zbfa rfl rfl
theorem zbh9 : zr2.res = [.tmp 4] ∧ zr2.rets = [[2]] ∧ zr2.body = (.seq (.reg o_62_1) c_62_3) := ⟨rfl, rfl, rfl⟩
def zbia := rg o_63_1.eq_1 <| rg o_63_2.eq_1 <| rg o_63_3.eq_1 <| xg c_63_4.eq_1 <| rg o_63_5.eq_1 <| rg o_63_6.eq_1 <| xg c_63_7.eq_1 <| xg c_63_8.eq_1 <| @ex_of T _ _ c_63_9.eq_1
def zbib := @vd T F.zlq zr4 [0] zbfb rfl rfl
theorem zbic : zr4.res = [.tmp 2, .tmp 3] ∧ zr4.rets = [[2], []] ∧ zr4.body = (.seq (.reg o_63_1) c_63_9) := ⟨rfl, rfl, rfl⟩
def zbid := rg o_67_1.eq_1 <| rg o_67_2.eq_1 <| rg o_67_3.eq_1 <| rg o_67_4.eq_1 <| xg c_67_5.eq_1 <| rg o_67_6.eq_1 <| rg o_67_7.eq_1 <| xg c_67_8.eq_1 <| rg o_67_9.eq_1 <| rg zr5.eq_1 <| rg zr6.eq_1 <| rg zr7.eq_1 <| xg zr8.eq_1 <| xg zr9.eq_1 <| xg zsa.eq_1 <| rg zsb.eq_1 <| xg zsc.eq_1 <| xg zsd.eq_1 <| xg zse.eq_1 <| xg zsf.eq_1 <| rg zsg.eq_1 <| rg zsh.eq_1 <| xg zsi.eq_1 <| xg zsj.eq_1 <| xg zsk.eq_1 <| xg zsl.eq_1 <| @ex_of T _ _ zsm.eq_1
def zbie := @vi T F.zmi zso zbfc rfl
theorem zbif {n : Nat} {H : Hp} {vs : List V} : (orc T (n + 1)).inl F.zmi vs H = finI H.length true [.tmp 4] (unw T (orc T n) n H.length [] (exec T (orc T n) n H.length (.seq (.reg o_67_1) zsm) (params 0 vs) H)) := by rw [zht, zbfc, y4, zhr]; rfl
def zbig := rg o_68_1.eq_1 <| rg o_68_2.eq_1 <| rg o_68_3.eq_1 <| xg c_68_4.eq_1 <| rg o_68_5.eq_1 <| xg c_68_6.eq_1 <| @ex_of T _ _ c_68_7.eq_1
def zbih := @vd T F.zj3 zsq [0] zbfd rfl rfl
theorem zbii : zsq.res = [.tmp 2] ∧ zsq.rets = [[4]] ∧ zsq.body = (.seq (.reg o_68_1) c_68_7) := ⟨rfl, rfl, rfl⟩
def zbij := rg o_69_1.eq_1 <| rg o_69_2.eq_1 <| @ex_of T _ _ c_69_3.eq_1
def zbik := @vi T F.zmj zss zbfe rfl
theorem zbil {n : Nat} {H : Hp} {vs : List V} : (orc T (n + 1)).inl F.zmj vs H = finI H.length false [.tmp 3] (unw T (orc T n) n H.length [] (exec T (orc T n) n H.length (.seq (.reg o_69_1) c_69_3) (params 0 vs) H)) := by rw [zht, zbfe, y4, zhr]; rfl
def zbim := rg o_70_1.eq_1 <| rg o_70_2.eq_1 <| rg o_70_3.eq_1 <| rg o_70_4.eq_1 <| rg o_70_5.eq_1 <| rg o_70_6.eq_1 <| xg c_70_7.eq_1 <| xg c_70_8.eq_1 <| rg o_70_9.eq_1 <| xg zst.eq_1 <| xg zsu.eq_1 <| xg zsv.eq_1 <| xg zsw.eq_1 <| xg zsx.eq_1 <| rg zsy.eq_1 <| xg zsz.eq_1 <| @ex_of T _ _ zs0.eq_1
def zbin := @vi T F.zmk zs2 zbff rfl
theorem zbio {n : Nat} {H : Hp} {vs : List V} : (orc T (n + 1)).inl F.zmk vs H = finI H.length false [.tmp 4] (unw T (orc T n) n H.length [] (exec T (orc T n) n H.length (.seq (.reg o_70_1) zs0) (params 0 vs) H)) := by rw [zht, zbff, y4, zhr]; rfl
def zbip := rg o_71_1.eq_1 <| rg o_71_2.eq_1 <| @ex_of T _ _ c_71_3.eq_1
def zbiq := @vi T F.zml zs4 zbfg rfl
theorem zbir {n : Nat} {H : Hp} {vs : List V} : (orc T (n + 1)).inl F.zml vs H = finI H.length false [.tmp 3] (unw T (orc T n) n H.length [] (exec T (orc T n) n H.length (.seq (.reg o_71_1) c_71_3) (params 0 vs) H)) := by rw [zht, zbfg, y4, zhr]; rfl
def zbis := rg o_72_1.eq_1 <| rg o_72_2.eq_1 <| rg o_72_3.eq_1 <| rg o_72_4.eq_1 <| rg o_72_5.eq_1 <| xg c_72_6.eq_1 <| rg o_72_7.eq_1 <| rg o_72_8.eq_1 <| rg o_72_9.eq_1 <| xg zs5.eq_1 <| rg zs6.eq_1 <| rg zs7.eq_1 <| xg zs8.eq_1 <| xg zs9.eq_1 <| xg zta.eq_1 <| xg ztb.eq_1 <| rg ztc.eq_1 <| rg ztd.eq_1 <| xg zte.eq_1 <| xg ztf.eq_1 <| xg ztg.eq_1 <| rg zth.eq_1 <| xg zti.eq_1 <| xg ztj.eq_1 <| xg ztk.eq_1 <| xg ztl.eq_1 <| xg ztm.eq_1 <| xg ztn.eq_1 <| xg zto.eq_1 <| xg ztp.eq_1 <| xg ztq.eq_1 <| xg ztr.eq_1 <| @ex_of T _ _ zts.eq_1
def zbit := @vd T F.zj4 ztu [4, 0, 0] zbfh rfl rfl
theorem zbiu : ztu.res = [.tmp 6] ∧ ztu.rets = [[4]] ∧ ztu.body = (.seq (.reg o_72_1) zts) := ⟨rfl, rfl, rfl⟩
def zbiv := rg o_80_1.eq_1 <| rg o_80_2.eq_1 <| rg o_80_3.eq_1 <| And.intro (@df_of T _ _ [(6, 2), (6, 4), (7, 2), (7, 4)] o_80_3.eq_1) <| rg o_80_4.eq_1 <| rg o_80_5.eq_1 <| rg o_80_6.eq_1 <| rg o_80_7.eq_1 <| And.intro (@df_of T _ _ [(5, 3), (8, 3), (8, 6)] o_80_7.eq_1) <| xg c_80_8.eq_1 <| rg o_80_9.eq_1 <| xg ztv.eq_1 <| xg ztw.eq_1 <| xg ztx.eq_1 <| xg zty.eq_1 <| xg ztz.eq_1 <| rg zt0.eq_1 <| xg zt1.eq_1 <| xg zt2.eq_1 <| xg zt3.eq_1 <| @ex_of T _ _ zt4.eq_1
def zbiw := @vd T F.zlv zt6 [0] zbfi rfl rfl
theorem zbix : zt6.res = [.tmp 2] ∧ zt6.rets = [[2]] ∧ zt6.body = (.seq (.reg o_80_1) zt4) := ⟨rfl, rfl, rfl⟩
def zbiy := rg o_81_1.eq_1 <| rg o_81_2.eq_1 <| rg o_81_3.eq_1 <| xg c_81_4.eq_1 <| rg o_81_5.eq_1 <| xg c_81_6.eq_1 <| @ex_of T _ _ c_81_7.eq_1
def zbiz := @vd T F.zli zt8 [2, 0] zbfj rfl rfl
theorem zbi0 : zt8.res = [.tmp 4] ∧ zt8.rets = [[2]] ∧ zt8.body = (.seq (.reg o_81_1) c_81_7) := ⟨rfl, rfl, rfl⟩
def zbi1 := rg o_82_1.eq_1 <| rg o_82_2.eq_1 <| rg o_82_3.eq_1 <| xg c_82_4.eq_1 <| @ex_of T _ _ c_82_5.eq_1
def zbi2 := @vd T F.zlw zua [0] zbfk rfl rfl
theorem zbi3 : zua.res = [.tmp 2] ∧ zua.rets = [[2]] ∧ zua.body = (.seq (.reg o_82_1) c_82_5) := ⟨rfl, rfl, rfl⟩
def zbi4 := rg o_83_1.eq_1 <| rg o_83_2.eq_1 <| @ex_of T _ _ c_83_3.eq_1
def zbi5 := @vd T F.zk8 zuc [0] zbfl rfl rfl
theorem zbi6 : zuc.res = [.tmp 2] ∧ zuc.rets = [[2]] ∧ zuc.body = (.seq (.reg o_83_1) c_83_3) := ⟨rfl, rfl, rfl⟩
def zbi7 := rg o_84_1.eq_1 <| rg o_84_2.eq_1 <| @ex_of T _ _ c_84_3.eq_1
def zbi8 := @vd T F.zk5 zue [0] zbfm rfl rfl
theorem zbi9 : zue.res = [.tmp 2] ∧ zue.rets = [[]] ∧ zue.body = (.seq (.reg o_84_1) c_84_3) := ⟨rfl, rfl, rfl⟩
def zbja := rg o_89_1.eq_1 <| rg o_89_2.eq_1 <| rg o_89_3.eq_1 <| rg o_89_4.eq_1 <| xg c_89_5.eq_1 <| rg o_89_6.eq_1 <| xg c_89_7.eq_1 <| xg c_89_8.eq_1 <| @ex_of T _ _ c_89_9.eq_1
def zbjb := @vd T F.zl3 zug [0] zbfn rfl rfl
theorem zbjc : zug.res = [.tmp 2, .tmp 3] ∧ zug.rets = [[2], []] ∧ zug.body = (.seq (.reg o_89_1) c_89_9) := ⟨rfl, rfl, rfl⟩
def zbjd := rg o_90_1.eq_1 <| rg o_90_2.eq_1 <| rg o_90_3.eq_1 <| xg c_90_4.eq_1 <| rg o_90_5.eq_1 <| rg o_90_6.eq_1 <| rg o_90_7.eq_1 <| rg o_90_8.eq_1 <| rg o_90_9.eq_1 <| rg zuh.eq_1 <| rg zui.eq_1 <| rg zuj.eq_1 <| rg zuk.eq_1 <| rg zul.eq_1 <| rg zum.eq_1 <| rg zun.eq_1 <| rg zuo.eq_1 <| rg zup.eq_1 <| xg zuq.eq_1 <| xg zur.eq_1 <| xg zus.eq_1 <| rg zut.eq_1 <| rg zuu.eq_1 <| xg zuv.eq_1 <| xg zuw.eq_1 <| xg zux.eq_1 <| xg zuy.eq_1 <| xg zuz.eq_1 <| xg zu0.eq_1 <| xg zu1.eq_1 <| xg zu2.eq_1 <| xg zu3.eq_1 <| xg zu4.eq_1 <| xg zu5.eq_1 <| @ex_of T _ _ zu6.eq_1
def zbje := @vd T F.zl6 zu8 [0] zbfo rfl rfl
theorem zbjf : zu8.res = [.cell 2 3 true, .tmp 3] ∧ zu8.rets = [[], []] ∧ zu8.body = (.seq (.reg o_90_1) zu6) := ⟨rfl, rfl, rfl⟩
def zbjg := rg o_91_1.eq_1 <| rg o_91_2.eq_1 <| rg o_91_3.eq_1 <| rg o_91_4.eq_1 <| rg o_91_5.eq_1 <| rg o_91_6.eq_1 <| rg o_91_7.eq_1 <| xg c_91_8.eq_1 <| xg c_91_9.eq_1 <| xg zu9.eq_1 <| rg zva.eq_1 <| xg zvb.eq_1 <| xg zvc.eq_1 <| xg zvd.eq_1 <| xg zve.eq_1 <| xg zvf.eq_1 <| rg zvg.eq_1 <| rg zvh.eq_1 <| rg zvi.eq_1 <| rg zvj.eq_1 <| rg zvk.eq_1 <| xg zvl.eq_1 <| rg zvm.eq_1 <| xg zvn.eq_1 <| xg zvo.eq_1 <| xg zvp.eq_1 <| xg zvq.eq_1 <| xg zvr.eq_1 <| rg zvs.eq_1 <| xg zvt.eq_1 <| xg zvu.eq_1 <| xg zvv.eq_1 <| xg zvw.eq_1 <| @ex_of T _ _ zvx.eq_1
def zbjh := @vd T F.zlp zvz [0] zbfp rfl rfl
theorem zbji : zvz.res = [.tmp 2] ∧ zvz.rets = [[2]] ∧ zvz.body = (.seq (.reg o_91_1) zvx) := ⟨rfl, rfl, rfl⟩
def zbjj := rg o_92_1.eq_1 <| rg o_92_2.eq_1 <| rg o_92_3.eq_1 <| rg o_92_4.eq_1 <| rg o_92_5.eq_1 <| rg o_92_6.eq_1 <| xg c_92_7.eq_1 <| xg c_92_8.eq_1 <| rg o_92_9.eq_1 <| xg zv0.eq_1 <| xg zv1.eq_1 <| xg zv2.eq_1 <| xg zv3.eq_1 <| xg zv4.eq_1 <| rg zv5.eq_1 <| xg zv6.eq_1 <| @ex_of T _ _ zv7.eq_1
def zbjk := @vd T F.zl8 zv9 [0] zbfq rfl rfl
theorem zbjl : zv9.res = [.tmp 2] ∧ zv9.rets = [[]] ∧ zv9.body = (.seq (.reg o_92_1) zv7) := ⟨rfl, rfl, rfl⟩
def zbjm := rg o_93_1.eq_1 <| rg o_93_2.eq_1 <| rg o_93_3.eq_1 <| rg o_93_4.eq_1 <| xg c_93_5.eq_1 <| rg o_93_6.eq_1 <| rg o_93_7.eq_1 <| rg o_93_8.eq_1 <| xg c_93_9.eq_1 <| rg zwa.eq_1 <| rg zwb.eq_1 <| rg zwc.eq_1 <| rg zwd.eq_1 <| xg zwe.eq_1 <| rg zwf.eq_1 <| rg zwg.eq_1 <| rg zwh.eq_1 <| rg zwi.eq_1 <| rg zwj.eq_1 <| rg zwk.eq_1 <| xg zwl.eq_1 <| rg zwm.eq_1 <| And.intro (@df_of T _ _ [(1, 3), (7, 3), (7, 4), (7, 9)] zwm.eq_1) <| xg zwn.eq_1 <| xg zwo.eq_1 <| rg zwp.eq_1 <| xg zwq.eq_1 <| xg zwr.eq_1 <| xg zws.eq_1 <| xg zwt.eq_1 <| xg zwu.eq_1 <| rg zwv.eq_1 <| rg zww.eq_1 <| xg zwx.eq_1 <| rg zwy.eq_1 <| rg zwz.eq_1 <| xg zw0.eq_1 <| xg zw1.eq_1 <| xg zw2.eq_1 <| xg zw3.eq_1 <| xg zw4.eq_1 <| xg zw5.eq_1 <| xg zw6.eq_1 <| xg zw7.eq_1 <| xg zw8.eq_1 <| xg zw9.eq_1 <| xg zxa.eq_1 <| @ex_of T _ _ zxb.eq_1
def zbjn := @vd T F.zmf zxd [0] zbfr rfl rfl
theorem zbjo : zxd.res = [.cell 2 6 true, .tmp 3] ∧ zxd.rets = [[], []] ∧ zxd.body = (.seq (.reg o_93_1) zxb) := ⟨rfl, rfl, rfl⟩
def zbjp := rg o_95_1.eq_1 <| rg o_95_2.eq_1 <| @ex_of T _ _ c_95_3.eq_1
def zbjq := @vi T F.zmm zxf zbfs rfl
theorem zbjr {n : Nat} {H : Hp} {vs : List V} : (orc T (n + 1)).inl F.zmm vs H = finI H.length false [.tmp 4] (unw T (orc T n) n H.length [] (exec T (orc T n) n H.length (.seq (.reg o_95_1) c_95_3) (params 0 vs) H)) := by rw [zht, zbfs, y4, zhr]; rfl
def zbjs := rg o_96_1.eq_1 <| rg o_96_2.eq_1 <| @ex_of T _ _ c_96_3.eq_1
def zbjt := @vd T F.zjs zxh [0] zbft rfl rfl
theorem zbju : zxh.res = [.tmp 2] ∧ zxh.rets = [[]] ∧ zxh.body = (.seq (.reg o_96_1) c_96_3) := ⟨rfl, rfl, rfl⟩
def zbjv := rg o_97_1.eq_1 <| rg o_97_2.eq_1 <| @ex_of T _ _ c_97_3.eq_1
def zbjw := @vd T F.zjr zxj [0] zbfu rfl rfl
theorem zbjx : zxj.res = [.tmp 2] ∧ zxj.rets = [[]] ∧ zxj.body = (.seq (.reg o_97_1) c_97_3) := ⟨rfl, rfl, rfl⟩
def zbjy := rg o_98_1.eq_1 <| rg o_98_2.eq_1 <| rg o_98_3.eq_1 <| rg o_98_4.eq_1 <| xg c_98_5.eq_1 <| rg o_98_6.eq_1 <| rg o_98_7.eq_1 <| xg c_98_8.eq_1 <| rg o_98_9.eq_1 <| xg zxk.eq_1 <| rg zxl.eq_1 <| xg zxm.eq_1 <| xg zxn.eq_1 <| xg zxo.eq_1 <| xg zxp.eq_1 <| rg zxq.eq_1 <| xg zxr.eq_1 <| xg zxs.eq_1 <| @ex_of T _ _ zxt.eq_1
def zbjz := @vd T F.zju zxv [0, 0] zbfv rfl rfl
theorem zbj0 : zxv.res = [.tmp 4] ∧ zxv.rets = [[]] ∧ zxv.body = (.seq (.reg o_98_1) zxt) := ⟨rfl, rfl, rfl⟩
def zbj1 := rg o_99_1.eq_1 <| rg o_99_2.eq_1 <| @ex_of T _ _ c_99_3.eq_1
def zbj2 := @vd T F.zjy zxx [0] zbfw rfl rfl
theorem zbj3 : zxx.res = [.tmp 2] ∧ zxx.rets = [[]] ∧ zxx.body = (.seq (.reg o_99_1) c_99_3) := ⟨rfl, rfl, rfl⟩
def zbj4 := rg zxy.eq_1 <| rg zxz.eq_1 <| And.intro (@dr_of T _ _ [(10, 13), (18, 21)] zxz.eq_1 (by decide)) <| @ex_of T _ _ zx0.eq_1
def zbj5 := @vd T F.zke zx2 [0] zbfx rfl rfl
theorem zbj6 : zx2.res = [.tmp 2] ∧ zx2.rets = [[]] ∧ zx2.body = (.seq (.reg zxy) zx0) := ⟨rfl, rfl, rfl⟩
def zbj7 := rg zx3.eq_1 <| rg zx4.eq_1 <| rg zx5.eq_1 <| rg zx6.eq_1 <| rg zx7.eq_1 <| rg zx8.eq_1 <| rg zx9.eq_1 <| xg zya.eq_1 <| rg zyb.eq_1 <| rg zyc.eq_1 <| rg zyd.eq_1 <| xg zye.eq_1 <| xg zyf.eq_1 <| xg zyg.eq_1 <| xg zyh.eq_1 <| rg zyi.eq_1 <| xg zyj.eq_1 <| xg zyk.eq_1 <| @ex_of T _ _ zyl.eq_1
def zbj8 := @vd T F.zkg zyn [0, 0] zbfy rfl rfl
theorem zbj9 : zyn.res = [.cell 4 4 true, .tmp 5] ∧ zyn.rets = [[], []] ∧ zyn.body = (.seq (.reg zx3) zyl) := ⟨rfl, rfl, rfl⟩
def zbka := rg zyo.eq_1 <| rg zyp.eq_1 <| rg zyq.eq_1 <| rg zyr.eq_1 <| rg zys.eq_1 <| rg zyt.eq_1 <| And.intro (@df_of T _ _ [(4, 2)] zyt.eq_1) <| rg zyu.eq_1 <| xg zyv.eq_1 <| rg zyw.eq_1 <| rg zyx.eq_1 <| xg zyy.eq_1 <| rg zyz.eq_1 <| rg zy0.eq_1 <| rg zy1.eq_1 <| xg zy2.eq_1 <| xg zy3.eq_1 <| xg zy4.eq_1 <| xg zy5.eq_1 <| rg zy6.eq_1 <| rg zy7.eq_1 <| rg zy8.eq_1 <| xg zy9.eq_1 <| rg zza.eq_1 <| rg zzb.eq_1 <| rg zzc.eq_1 <| xg zzd.eq_1 <| xg zze.eq_1 <| xg zzf.eq_1 <| xg zzg.eq_1 <| xg zzh.eq_1 <| xg zzi.eq_1 <| @ex_of T _ _ zzj.eq_1
def zbkb := @vd T F.zki zzl [0, 0] zbfz rfl rfl
theorem zbkc : zzl.res = [.cell 4 4 true, .tmp 5] ∧ zzl.rets = [[], []] ∧ zzl.body = (.seq (.reg zyo) zzj) := ⟨rfl, rfl, rfl⟩
def zbkd := rg zzm.eq_1 <| rg zzn.eq_1 <| rg zzo.eq_1 <| rg zzp.eq_1 <| rg zzq.eq_1 <| xg zzr.eq_1 <| xg zzs.eq_1 <| rg zzt.eq_1 <| xg zzu.eq_1 <| xg zzv.eq_1 <| rg zzw.eq_1 <| rg zzx.eq_1 <| xg zzy.eq_1 <| rg zzz.eq_1 <| rg zz0.eq_1 <| rg zz1.eq_1 <| rg zz2.eq_1 <| rg zz3.eq_1 <| rg zz4.eq_1 <| And.intro (@dr_of T _ _ [(1, 6), (3, 6)] zz4.eq_1 (by decide)) <| rg zz5.eq_1 <| rg zz6.eq_1 <| xg zz7.eq_1 <| rg zz8.eq_1 <| xg zz9.eq_1 <| xg z0a.eq_1 <| xg z0b.eq_1 <| xg z0c.eq_1 <| xg z0d.eq_1 <| rg z0e.eq_1 <| xg z0f.eq_1 <| xg z0g.eq_1 <| xg z0h.eq_1 <| xg z0i.eq_1 <| @ex_of T _ _ z0j.eq_1
def zbke := @vd T F.zkm z0l [0, 0] zbf0 rfl rfl
theorem zbkf : z0l.res = [.cell 4 4 true, .tmp 5] ∧ z0l.rets = [[], []] ∧ z0l.body = (.seq (.reg zzm) z0j) := ⟨rfl, rfl, rfl⟩
def zbkg := rg z0m.eq_1 <| rg z0n.eq_1 <| rg z0o.eq_1 <| rg z0p.eq_1 <| rg z0q.eq_1 <| rg z0r.eq_1 <| rg z0s.eq_1 <| rg z0t.eq_1 <| rg z0u.eq_1 <| And.intro (@df_of T _ _ [(0, 5)] z0u.eq_1) <| rg z0v.eq_1 <| rg z0w.eq_1 <| xg z0x.eq_1 <| xg z0y.eq_1 <| xg z0z.eq_1 <| xg z00.eq_1 <| xg z01.eq_1 <| rg z02.eq_1 <| And.intro (@dr_of T _ _ [(7, 4)] z02.eq_1 (by decide)) <| rg z03.eq_1 <| rg z04.eq_1 <| rg z05.eq_1 <| xg z06.eq_1 <| rg z07.eq_1 <| rg z08.eq_1 <| xg z09.eq_1 <| xg z1a.eq_1 <| xg z1b.eq_1 <| xg z1c.eq_1 <| xg z1d.eq_1 <| @ex_of T _ _ z1e.eq_1
def zbkh := @vd T F.zko z1g [0, 0] zbf1 rfl rfl
theorem zbki : z1g.res = [.cell 4 4 true, .tmp 5] ∧ z1g.rets = [[], []] ∧ z1g.body = (.seq (.reg z0m) z1e) := ⟨rfl, rfl, rfl⟩
def zbkj := rg z1h.eq_1 <| rg z1i.eq_1 <| @ex_of T _ _ z1j.eq_1
def zbkk := @vd T F.zkw z1l [0] zbf2 rfl rfl
theorem zbkl : z1l.res = [.tmp 2] ∧ z1l.rets = [[]] ∧ z1l.body = (.seq (.reg z1h) z1j) := ⟨rfl, rfl, rfl⟩
def zbkm := rg z1m.eq_1 <| rg z1n.eq_1 <| rg z1o.eq_1 <| rg z1p.eq_1 <| xg z1q.eq_1 <| rg z1r.eq_1 <| xg z1s.eq_1 <| xg z1t.eq_1 <| @ex_of T _ _ z1u.eq_1
def zbkn := @vd T F.zkz z1w [0] zbf3 rfl rfl
theorem zbko : z1w.res = [.tmp 2, .tmp 3] ∧ z1w.rets = [[], []] ∧ z1w.body = (.seq (.reg z1m) z1u) := ⟨rfl, rfl, rfl⟩
def zbkp := rg z1x.eq_1 <| rg z1y.eq_1 <| rg z1z.eq_1 <| xg z10.eq_1 <| rg z11.eq_1 <| rg z12.eq_1 <| rg z13.eq_1 <| rg z14.eq_1 <| rg z15.eq_1 <| xg z16.eq_1 <| xg z17.eq_1 <| rg z18.eq_1 <| xg z19.eq_1 <| xg z2a.eq_1 <| xg z2b.eq_1 <| xg z2c.eq_1 <| xg z2d.eq_1 <| rg z2e.eq_1 <| xg z2f.eq_1 <| xg z2g.eq_1 <| @ex_of T _ _ z2h.eq_1
def zbkq := @vd T F.zlb z2j [0, 0] zbf4 rfl rfl
theorem zbkr : z2j.res = [.tmp 4] ∧ z2j.rets = [[]] ∧ z2j.body = (.seq (.reg z1x) z2h) := ⟨rfl, rfl, rfl⟩
def zbks := rg z2k.eq_1 <| rg z2l.eq_1 <| @ex_of T _ _ z2m.eq_1
def zbkt := @vd T F.zk9 z2o [0, 0] zbf5 rfl rfl
theorem zbku : z2o.res = [.tmp 4] ∧ z2o.rets = [[2]] ∧ z2o.body = (.seq (.reg z2k) z2m) := ⟨rfl, rfl, rfl⟩
def zbkv := rg z2p.eq_1 <| rg z2q.eq_1 <| rg z2r.eq_1 <| xg z2s.eq_1 <| rg z2t.eq_1 <| xg z2u.eq_1 <| @ex_of T _ _ z2v.eq_1
def zbkw := @vd T F.zlc z2x [0] zbf6 rfl rfl
theorem zbkx : z2x.res = [.tmp 2] ∧ z2x.rets = [[2]] ∧ z2x.body = (.seq (.reg z2p) z2v) := ⟨rfl, rfl, rfl⟩
def zbky := rg z2y.eq_1 <| rg z2z.eq_1 <| xg z20.eq_1 <| rg z21.eq_1 <| rg z22.eq_1 <| xg z23.eq_1 <| xg z24.eq_1 <| xg z25.eq_1 <| rg z26.eq_1 <| xg z27.eq_1 <| @ex_of T _ _ z28.eq_1
def zbkz := @vd T F.zlh z3a [2, 0] zbf7 rfl rfl
theorem zbk0 : z3a.res = [.tmp 4] ∧ z3a.rets = [[2]] ∧ z3a.body = (.seq (.reg z2y) z28) := ⟨rfl, rfl, rfl⟩
def zbk1 := rg z3b.eq_1 <| rg z3c.eq_1 <| @ex_of T _ _ z3d.eq_1
def zbk2 := @vd T F.zlj z3f [0] zbf8 rfl rfl
theorem zbk3 : z3f.res = [.tmp 2] ∧ z3f.rets = [[]] ∧ z3f.body = (.seq (.reg z3b) z3d) := ⟨rfl, rfl, rfl⟩
def zbk4 := rg z3g.eq_1 <| rg z3h.eq_1 <| rg z3i.eq_1 <| xg z3j.eq_1 <| rg z3k.eq_1 <| And.intro (@df_of T _ _ [(3, 2), (7, 2), (7, 4), (7, 5), (8, 2), (8, 4), (8, 5)] z3k.eq_1) <| rg z3l.eq_1 <| rg z3m.eq_1 <| rg z3n.eq_1 <| rg z3o.eq_1 <| xg z3p.eq_1 <| rg z3q.eq_1 <| xg z3r.eq_1 <| xg z3s.eq_1 <| xg z3t.eq_1 <| xg z3u.eq_1 <| xg z3v.eq_1 <| rg z3w.eq_1 <| xg z3x.eq_1 <| xg z3y.eq_1 <| xg z3z.eq_1 <| @ex_of T _ _ z30.eq_1
def zbk5 := @vd T F.zlt z32 [0] zbf9 rfl rfl
theorem zbk6 : z32.res = [.tmp 2, .tmp 3] ∧ z32.rets = [[2], []] ∧ z32.body = (.seq (.reg z3g) z30) := ⟨rfl, rfl, rfl⟩
def zbk7 := rg z33.eq_1 <| rg z34.eq_1 <| rg z35.eq_1 <| rg z36.eq_1 <| rg z37.eq_1 <| rg z38.eq_1 <| xg z39.eq_1 <| rg z4a.eq_1 <| xg z4b.eq_1 <| xg z4c.eq_1 <| xg z4d.eq_1 <| xg z4e.eq_1 <| xg z4f.eq_1 <| rg z4g.eq_1 <| xg z4h.eq_1 <| xg z4i.eq_1 <| @ex_of T _ _ z4j.eq_1
def zbk8 := @vd T F.zk7 z4l [0, 0] zbga rfl rfl
theorem zbk9 : z4l.res = [.tmp 4] ∧ z4l.rets = [[2]] ∧ z4l.body = (.seq (.reg z33) z4j) := ⟨rfl, rfl, rfl⟩
def zbla := rg z4m.eq_1 <| rg z4n.eq_1 <| rg z4o.eq_1 <| rg z4p.eq_1 <| rg z4q.eq_1 <| rg z4r.eq_1 <| rg z4s.eq_1 <| xg z4t.eq_1 <| rg z4u.eq_1 <| xg z4v.eq_1 <| xg z4w.eq_1 <| xg z4x.eq_1 <| xg z4y.eq_1 <| xg z4z.eq_1 <| rg z40.eq_1 <| xg z41.eq_1 <| xg z42.eq_1 <| xg z43.eq_1 <| @ex_of T _ _ z44.eq_1
def zblb := @vd T F.zk4 z46 [0, 0] zbgb rfl rfl
theorem zblc : z46.res = [.tmp 4] ∧ z46.rets = [[]] ∧ z46.body = (.seq (.reg z4m) z44) := ⟨rfl, rfl, rfl⟩
def zbld := rg z47.eq_1 <| rg z48.eq_1 <| xg z49.eq_1 <| rg z5a.eq_1 <| rg z5b.eq_1 <| rg z5c.eq_1 <| xg z5d.eq_1 <| rg z5e.eq_1 <| rg z5f.eq_1 <| xg z5g.eq_1 <| xg z5h.eq_1 <| xg z5i.eq_1 <| xg z5j.eq_1 <| xg z5k.eq_1 <| rg z5l.eq_1 <| xg z5m.eq_1 <| @ex_of T _ _ z5n.eq_1
def zble := @vd T F.zl2 z5p [0] zbgc rfl rfl
theorem zblf : z5p.res = [.tmp 2, .tmp 3, .tmp 4] ∧ z5p.rets = [[2], [], []] ∧ z5p.body = (.seq (.reg z47) z5n) := ⟨rfl, rfl, rfl⟩
def zblg := rg z5q.eq_1 <| rg z5r.eq_1 <| rg z5s.eq_1 <| rg z5t.eq_1 <| rg z5u.eq_1 <| rg z5v.eq_1 <| xg z5w.eq_1 <| rg z5x.eq_1 <| xg z5y.eq_1 <| xg z5z.eq_1 <| xg z50.eq_1 <| xg z51.eq_1 <| xg z52.eq_1 <| rg z53.eq_1 <| xg z54.eq_1 <| xg z55.eq_1 <| @ex_of T _ _ z56.eq_1
def zblh := @vd T F.zl5 z58 [0] zbgd rfl rfl
theorem zbli : z58.res = [.tmp 2] ∧ z58.rets = [[]] ∧ z58.body = (.seq (.reg z5q) z56) := ⟨rfl, rfl, rfl⟩
def zblj := rg z59.eq_1 <| rg z6a.eq_1 <| xg z6b.eq_1 <| rg z6c.eq_1 <| rg z6d.eq_1 <| rg z6e.eq_1 <| xg z6f.eq_1 <| xg z6g.eq_1 <| rg z6h.eq_1 <| xg z6i.eq_1 <| xg z6j.eq_1 <| @ex_of T _ _ z6k.eq_1
def zblk := @vi T F.zmn z6m zbge rfl
theorem zbll {n : Nat} {H : Hp} {vs : List V} : (orc T (n + 1)).inl F.zmn vs H = finI H.length false [.tmp 4] (unw T (orc T n) n H.length [] (exec T (orc T n) n H.length (.seq (.reg z59) z6k) (params 0 vs) H)) := by rw [zht, zbge, y4, zhr]; rfl
def zblm := rg z6n.eq_1 <| rg z6o.eq_1 <| rg z6p.eq_1 <| rg z6q.eq_1 <| rg z6r.eq_1 <| rg z6s.eq_1 <| rg z6t.eq_1 <| xg z6u.eq_1 <| rg z6v.eq_1 <| rg z6w.eq_1 <| rg z6x.eq_1 <| rg z6y.eq_1 <| And.intro (@df_of T _ _ [(1, 3), (1, 4)] z6y.eq_1) <| rg z6z.eq_1 <| xg z60.eq_1 <| xg z61.eq_1 <| xg z62.eq_1 <| xg z63.eq_1 <| xg z64.eq_1 <| rg z65.eq_1 <| rg z66.eq_1 <| rg z67.eq_1 <| rg z68.eq_1 <| xg z69.eq_1 <| xg z7a.eq_1 <| rg z7b.eq_1 <| xg z7c.eq_1 <| xg z7d.eq_1 <| xg z7e.eq_1 <| xg z7f.eq_1 <| xg z7g.eq_1 <| xg z7h.eq_1 <| xg z7i.eq_1 <| xg z7j.eq_1 <| @ex_of T _ _ z7k.eq_1
def zbln := @vd T F.zmb z7m [0] zbgf rfl rfl
theorem zblo : z7m.res = [.cell 2 4 true, .tmp 3] ∧ z7m.rets = [[], []] ∧ z7m.body = (.seq (.reg z6n) z7k) := ⟨rfl, rfl, rfl⟩
def zblp := rg z7n.eq_1 <| rg z7o.eq_1 <| rg z7p.eq_1 <| rg z7q.eq_1 <| rg z7r.eq_1 <| rg z7s.eq_1 <| rg z7t.eq_1 <| rg z7u.eq_1 <| rg z7v.eq_1 <| xg z7w.eq_1 <| rg z7x.eq_1 <| xg z7y.eq_1 <| xg z7z.eq_1 <| xg z70.eq_1 <| xg z71.eq_1 <| xg z72.eq_1 <| xg z73.eq_1 <| xg z74.eq_1 <| @ex_of T _ _ z75.eq_1
def zblq := @vd T F.zmc z77 [0] zbgg rfl rfl
theorem zblr : z77.res = [.cell 2 3 true, .tmp 3] ∧ z77.rets = [[], []] ∧ z77.body = (.seq (.reg z7n) z75) := ⟨rfl, rfl, rfl⟩
def zbls := rg z78.eq_1 <| rg z79.eq_1 <| rg z8a.eq_1 <| rg z8b.eq_1 <| rg z8c.eq_1 <| rg z8d.eq_1 <| xg z8e.eq_1 <| xg z8f.eq_1 <| rg z8g.eq_1 <| xg z8h.eq_1 <| xg z8i.eq_1 <| xg z8j.eq_1 <| xg z8k.eq_1 <| xg z8l.eq_1 <| rg z8m.eq_1 <| xg z8n.eq_1 <| @ex_of T _ _ z8o.eq_1
def zblt := @vi T F.zmo z8q zbgh rfl
theorem zblu {n : Nat} {H : Hp} {vs : List V} : (orc T (n + 1)).inl F.zmo vs H = finI H.length false [.tmp 4] (unw T (orc T n) n H.length [] (exec T (orc T n) n H.length (.seq (.reg z78) z8o) (params 0 vs) H)) := by rw [zht, zbgh, y4, zhr]; rfl
def zblv := rg z8r.eq_1 <| rg z8s.eq_1 <| rg z8t.eq_1 <| rg z8u.eq_1 <| xg z8v.eq_1 <| rg z8w.eq_1 <| rg z8x.eq_1 <| rg z8y.eq_1 <| rg z8z.eq_1 <| xg z80.eq_1 <| xg z81.eq_1 <| xg z82.eq_1 <| xg z83.eq_1 <| xg z84.eq_1 <| @ex_of T _ _ z85.eq_1
def zblw := @vd T F.zkh z87 [2, 0, 0] zbgi rfl rfl
theorem zblx : z87.res = [.tmp 6] ∧ z87.rets = [[2]] ∧ z87.body = (.seq (.reg z8r) z85) := ⟨rfl, rfl, rfl⟩
def zbly := rg z88.eq_1 <| rg z89.eq_1 <| rg z9a.eq_1 <| rg z9b.eq_1 <| xg z9c.eq_1 <| xg z9d.eq_1 <| rg z9e.eq_1 <| xg z9f.eq_1 <| @ex_of T _ _ z9g.eq_1
def zblz := @vd T F.zkl z9i [0, 0] zbgj rfl rfl
theorem zbl0 : z9i.res = [.tmp 4] ∧ z9i.rets = [[]] ∧ z9i.body = (.seq (.reg z88) z9g) := ⟨rfl, rfl, rfl⟩
def zbl1 := rg z9j.eq_1 <| rg z9k.eq_1 <| rg z9l.eq_1 <| xg z9m.eq_1 <| rg z9n.eq_1 <| xg z9o.eq_1 <| xg z9p.eq_1 <| rg z9q.eq_1 <| xg z9r.eq_1 <| xg z9s.eq_1 <| @ex_of T _ _ z9t.eq_1
def zbl2 := @vd T F.zkk z9v [0, 0] zbgk rfl rfl
theorem zbl3 : z9v.res = [.tmp 4, .tmp 5] ∧ z9v.rets = [[], []] ∧ z9v.body = (.seq (.reg z9j) z9t) := ⟨rfl, rfl, rfl⟩
def zbl4 := rg z9w.eq_1 <| rg z9x.eq_1 <| rg z9y.eq_1 <| xg z9z.eq_1 <| rg z90.eq_1 <| rg z91.eq_1 <| And.intro (@dr_of T _ _ [(5, 3)] z91.eq_1 (by decide)) <| rg z92.eq_1 <| rg z93.eq_1 <| rg z94.eq_1 <| rg z95.eq_1 <| xg z96.eq_1 <| xg z97.eq_1 <| rg z98.eq_1 <| rg z99.eq_1 <| rg zbaa.eq_1 <| xg zbab.eq_1 <| rg zbac.eq_1 <| rg zbad.eq_1 <| xg zbae.eq_1 <| xg zbaf.eq_1 <| xg zbag.eq_1 <| xg zbah.eq_1 <| xg zbai.eq_1 <| xg zbaj.eq_1 <| xg zbak.eq_1 <| @ex_of T _ _ zbal.eq_1
def zbl5 := @vd T F.zkn zban [0, 0] zbgl rfl rfl
theorem zbl6 : zban.res = [.cell 4 4 true, .tmp 5] ∧ zban.rets = [[], []] ∧ zban.body = (.seq (.reg z9w) zbal) := ⟨rfl, rfl, rfl⟩
def zbl7 := rg zbao.eq_1 <| rg zbap.eq_1 <| @ex_of T _ _ zbaq.eq_1
def zbl8 := @vi T F.zmq zbas zbgm rfl
theorem zbl9 {n : Nat} {H : Hp} {vs : List V} : (orc T (n + 1)).inl F.zmq vs H = finI H.length false [.tmp 4] (unw T (orc T n) n H.length [] (exec T (orc T n) n H.length (.seq (.reg zbao) zbaq) (params 0 vs) H)) := by rw [zht, zbgm, y4, zhr]; rfl
def zbma := rg zbat.eq_1 <| rg zbau.eq_1 <| @ex_of T _ _ zbav.eq_1
def zbmb := @vd T F.zkt zbax [0] zbgn rfl rfl
theorem zbmc : zbax.res = [.tmp 2] ∧ zbax.rets = [[]] ∧ zbax.body = (.seq (.reg zbat) zbav) := ⟨rfl, rfl, rfl⟩
def zbmd := rg zbay.eq_1 <| rg zbaz.eq_1 <| rg zba0.eq_1 <| rg zba1.eq_1 <| rg zba2.eq_1 <| rg zba3.eq_1 <| rg zba4.eq_1 <| rg zba5.eq_1 <| xg zba6.eq_1 <| rg zba7.eq_1 <| xg zba8.eq_1 <| rg zba9.eq_1 <| xg zbba.eq_1 <| xg zbbb.eq_1 <| xg zbbc.eq_1 <| rg zbbd.eq_1 <| xg zbbe.eq_1 <| rg zbbf.eq_1 <| xg zbbg.eq_1 <| xg zbbh.eq_1 <| xg zbbi.eq_1 <| xg zbbj.eq_1 <| rg zbbk.eq_1 <| xg zbbl.eq_1 <| xg zbbm.eq_1 <| xg zbbn.eq_1 <| xg zbbo.eq_1 <| xg zbbp.eq_1 <| rg zbbq.eq_1 <| xg zbbr.eq_1 <| xg zbbs.eq_1 <| @ex_of T _ _ zbbt.eq_1
def zbme := @vd T F.zky zbbv [0] zbgo rfl rfl
theorem zbmf : zbbv.res = [.tmp 2, .tmp 3] ∧ zbbv.rets = [[], []] ∧ zbbv.body = (.seq (.reg zbay) zbbt) := ⟨rfl, rfl, rfl⟩
def zbmg := rg zbbw.eq_1 <| rg zbbx.eq_1 <| rg zbby.eq_1 <| rg zbbz.eq_1 <| xg zbb0.eq_1 <| rg zbb1.eq_1 <| xg zbb2.eq_1 <| xg zbb3.eq_1 <| @ex_of T _ _ zbb4.eq_1
def zbmh := @vd T F.zlf zbb6 [0] zbgp rfl rfl
theorem zbmi : zbb6.res = [.tmp 2, .tmp 3] ∧ zbb6.rets = [[], []] ∧ zbb6.body = (.seq (.reg zbbw) zbb4) := ⟨rfl, rfl, rfl⟩
def zbmj := rg zbb7.eq_1 <| rg zbb8.eq_1 <| rg zbb9.eq_1 <| xg zbca.eq_1 <| rg zbcb.eq_1 <| xg zbcc.eq_1 <| @ex_of T _ _ zbcd.eq_1
def zbmk := @vd T F.zlr zbcf [0] zbgq rfl rfl
theorem zbml : zbcf.res = [.tmp 2] ∧ zbcf.rets = [[]] ∧ zbcf.body = (.seq (.reg zbb7) zbcd) := ⟨rfl, rfl, rfl⟩
def zbmm := rg zbcg.eq_1 <| rg zbch.eq_1 <| rg zbci.eq_1 <| rg zbcj.eq_1 <| rg zbck.eq_1 <| rg zbcl.eq_1 <| rg zbcm.eq_1 <| rg zbcn.eq_1 <| rg zbco.eq_1 <| rg zbcp.eq_1 <| xg zbcq.eq_1 <| rg zbcr.eq_1 <| xg zbcs.eq_1 <| xg zbct.eq_1 <| xg zbcu.eq_1 <| xg zbcv.eq_1 <| xg zbcw.eq_1 <| rg zbcx.eq_1 <| xg zbcy.eq_1 <| xg zbcz.eq_1 <| xg zbc0.eq_1 <| rg zbc1.eq_1 <| xg zbc2.eq_1 <| xg zbc3.eq_1 <| xg zbc4.eq_1 <| xg zbc5.eq_1 <| xg zbc6.eq_1 <| rg zbc7.eq_1 <| xg zbc8.eq_1 <| xg zbc9.eq_1 <| @ex_of T _ _ zbda.eq_1
def zbmn := @vd T F.zk2 zbdc [] zbgr rfl rfl
theorem zbmo : zbdc.res = [.cell 0 256 true] ∧ zbdc.rets = [[]] ∧ zbdc.body = (.seq (.reg zbcg) zbda) := ⟨rfl, rfl, rfl⟩
def zbmp := rg zbdd.eq_1 <| rg zbde.eq_1 <| rg zbdf.eq_1 <| rg zbdg.eq_1 <| xg zbdh.eq_1 <| xg zbdi.eq_1 <| @ex_of T _ _ zbdj.eq_1
def zbmq := @vi T F.zmr zbdl zbgs rfl
theorem zbmr {n : Nat} {H : Hp} {vs : List V} : (orc T (n + 1)).inl F.zmr vs H = finI H.length false [.tmp 2, .tmp 3, .tmp 4] (unw T (orc T n) n H.length [] (exec T (orc T n) n H.length (.seq (.reg zbdd) zbdj) (params 0 vs) H)) := by rw [zht, zbgs, y4, zhr]; rfl
def zbms := rg zbdm.eq_1 <| rg zbdn.eq_1 <| rg zbdo.eq_1 <| rg zbdp.eq_1 <| rg zbdq.eq_1 <| rg zbdr.eq_1 <| xg zbds.eq_1 <| xg zbdt.eq_1 <| rg zbdu.eq_1 <| xg zbdv.eq_1 <| xg zbdw.eq_1 <| xg zbdx.eq_1 <| xg zbdy.eq_1 <| xg zbdz.eq_1 <| rg zbd0.eq_1 <| xg zbd1.eq_1 <| @ex_of T _ _ zbd2.eq_1
def zbmt := @vi T F.zms zbd4 zbgt rfl
theorem zbmu {n : Nat} {H : Hp} {vs : List V} : (orc T (n + 1)).inl F.zms vs H = finI H.length false [.tmp 4] (unw T (orc T n) n H.length [] (exec T (orc T n) n H.length (.seq (.reg zbdm) zbd2) (params 0 vs) H)) := by rw [zht, zbgt, y4, zhr]; rfl
def zbmv := rg zbd5.eq_1 <| rg zbd6.eq_1 <| @ex_of T _ _ zbd7.eq_1
def zbmw := @vd T F.zle zbd9 [0] zbgu rfl rfl
theorem zbmx : zbd9.res = [.tmp 2] ∧ zbd9.rets = [[]] ∧ zbd9.body = (.seq (.reg zbd5) zbd7) := ⟨rfl, rfl, rfl⟩
def zbmy := rg zbea.eq_1 <| rg zbeb.eq_1 <| rg zbec.eq_1 <| rg zbed.eq_1 <| rg zbee.eq_1 <| xg zbef.eq_1 <| xg zbeg.eq_1 <| xg zbeh.eq_1 <| @ex_of T _ _ zbei.eq_1
def zbmz := @vi T F.zmt zbek zbgv rfl
theorem zbm0 {n : Nat} {H : Hp} {vs : List V} : (orc T (n + 1)).inl F.zmt vs H = finI H.length false [.tmp 4] (unw T (orc T n) n H.length [] (exec T (orc T n) n H.length (.seq (.reg zbea) zbei) (params 0 vs) H)) := by rw [zht, zbgv, y4, zhr]; rfl
def zbm1 := rg zbel.eq_1 <| rg zbem.eq_1 <| @ex_of T _ _ zben.eq_1
def zbm2 := @vi T F.zmu zbep zbgw rfl
theorem zbm3 {n : Nat} {H : Hp} {vs : List V} : (orc T (n + 1)).inl F.zmu vs H = finI H.length false [.tmp 1] (unw T (orc T n) n H.length [] (exec T (orc T n) n H.length (.seq (.reg zbel) zben) (params 0 vs) H)) := by rw [zht, zbgw, y4, zhr]; rfl
def zbm4 := rg zbeq.eq_1 <| rg zber.eq_1 <| @ex_of T _ _ zbes.eq_1
def zbm5 := @vi T F.zmv zbeu zbgx rfl
theorem zbm6 {n : Nat} {H : Hp} {vs : List V} : (orc T (n + 1)).inl F.zmv vs H = finI H.length false [.tmp 1] (unw T (orc T n) n H.length [] (exec T (orc T n) n H.length (.seq (.reg zbeq) zbes) (params 0 vs) H)) := by rw [zht, zbgx, y4, zhr]; rfl
end Go.Dvm.C
