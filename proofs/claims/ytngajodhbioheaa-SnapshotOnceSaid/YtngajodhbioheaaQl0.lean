/- What each piece of the code comes to: part 1. -/
import Derived.Test.YtngajodhbioheaaQc0
set_option linter.all false
set_option maxRecDepth 100000
set_option maxHeartbeats 4000000
namespace Go.Dvm.C
open Go Go.Dvm
def ke := And.intro @Ow.enc.eq_1 <| And.intro @Sl.enc.eq_1 <| And.intro @I.zjf.enc.eq_1 <| And.intro @I.zjg.enc.eq_1 <| And.intro @I.zjh.enc.eq_1 <| And.intro @I.zji.enc.eq_1 <| And.intro @I.zjk.enc.eq_1 <| And.intro @I.zjj.enc.eq_1 <| And.intro @arrEnc.eq_1 <| @I.zjl.enc.eq_1
def kf := And.intro @ke @kn
def tab : List (Nat × MFun) := [(14, zmy), (22, zm0), (23, znh), (28, znj), (31, znn), (37, zn3), (43, zo4), (50, zo6), (52, zpr), (53, zp1), (54, zp3), (55, zqv), (58, zrd), (62, zrf), (63, zrh), (67, zr1), (68, zr3), (69, zr5), (70, zsf), (71, zsh), (72, zs7), (80, ztj), (81, ztl), (82, ztn), (83, ztp), (84, ztr), (89, ztt), (90, zul), (91, zvc), (92, zvm), (93, zwq), (95, zws), (96, zwu), (97, zww), (98, zw8), (99, zxa), (100, zxf), (101, zx0), (102, zyy), (103, zzy), (104, z0t), (106, z0y), (107, z09), (108, z1w), (109, z11), (110, z2a), (116, z2n), (117, z2s), (134, z3f), (135, z3y), (136, z4j), (140, z42), (141, z5l), (142, z5z), (143, z6z), (144, z7k), (145, z73), (146, z8k), (147, z8v), (148, z88), (150, z90), (151, z95), (152, zbaa), (153, zba8), (156, zbbj), (166, zbbs), (167, zbcp), (168, zbcy), (170, zbdh), (171, zbdm), (174, zbdx), (175, zbd2), (176, zbd7)]
abbrev T : Nat → Option MFun := look tab
theorem zbd8 : T F.zma = some zmy := rfl
theorem zbd9 : T F.zjw = some zm0 := rfl
theorem zbea : T F.zkl = some znh := rfl
theorem zbeb : T F.zlt = some znj := rfl
theorem zbec : T F.zj6 = some znn := rfl
theorem zbed : T F.zls = some zn3 := rfl
theorem zbee : T F.zl9 = some zo4 := rfl
theorem zbef : T F.zjx = some zo6 := rfl
theorem zbeg : T F.zjs = some zpr := rfl
theorem zbeh : T F.zjv = some zp1 := rfl
theorem zbei : T F.zj8 = some zp3 := rfl
theorem zbej : T F.zki = some zqv := rfl
theorem zbek : T F.zk6 = some zrd := rfl
theorem zbel : T F.zld = some zrf := rfl
theorem zbem : T F.zlj = some zrh := rfl
theorem zben : T F.zmb = some zr1 := rfl
theorem zbeo : T F.zjy = some zr3 := rfl
theorem zbep : T F.zmc = some zr5 := rfl
theorem zbeq : T F.zmd = some zsf := rfl
theorem zber : T F.zme = some zsh := rfl
theorem zbes : T F.zjz = some zs7 := rfl
theorem zbet : T F.zlo = some ztj := rfl
theorem zbeu : T F.zlb = some ztl := rfl
theorem zbev : T F.zlp = some ztn := rfl
theorem zbew : T F.zk1 = some ztp := rfl
theorem zbex : T F.zky = some ztr := rfl
theorem zbey : T F.zlw = some ztt := rfl
theorem zbez : T F.zlz = some zul := rfl
theorem zbe0 : T F.zli = some zvc := rfl
theorem zbe1 : T F.zl1 = some zvm := rfl
theorem zbe2 : T F.zl8 = some zwq := rfl
theorem zbe3 : T F.zmf = some zws := rfl
theorem zbe4 : T F.zjn = some zwu := rfl
theorem zbe5 : T F.zjm = some zww := rfl
theorem zbe6 : T F.zjp = some zw8 := rfl
theorem zbe7 : T F.zjt = some zxa := rfl
theorem zbe8 : T F.zj7 = some zxf := rfl
theorem zbe9 : T F.zj9 = some zx0 := rfl
theorem zbfa : T F.zkb = some zyy := rfl
theorem zbfb : T F.zkf = some zzy := rfl
theorem zbfc : T F.zkh = some z0t := rfl
theorem zbfd : T F.zkp = some z0y := rfl
theorem zbfe : T F.zks = some z09 := rfl
theorem zbff : T F.zk4 = some z1w := rfl
theorem zbfg : T F.zk2 = some z11 := rfl
theorem zbfh : T F.zk5 = some z2a := rfl
theorem zbfi : T F.zla = some z2n := rfl
theorem zbfj : T F.zlc = some z2s := rfl
theorem zbfk : T F.zlm = some z3f := rfl
theorem zbfl : T F.zk0 = some z3y := rfl
theorem zbfm : T F.zkx = some z4j := rfl
theorem zbfn : T F.zlv = some z42 := rfl
theorem zbfo : T F.zly = some z5l := rfl
theorem zbfp : T F.zmg = some z5z := rfl
theorem zbfq : T F.zl4 = some z6z := rfl
theorem zbfr : T F.zl5 = some z7k := rfl
theorem zbfs : T F.zmh = some z73 := rfl
theorem zbft : T F.zka = some z8k := rfl
theorem zbfu : T F.zke = some z8v := rfl
theorem zbfv : T F.zkd = some z88 := rfl
theorem zbfw : T F.zkg = some z90 := rfl
theorem zbfx : T F.zmj = some z95 := rfl
theorem zbfy : T F.zkm = some zbaa := rfl
theorem zbfz : T F.zkr = some zba8 := rfl
theorem zbf0 : T F.zk8 = some zbbj := rfl
theorem zbf1 : T F.zlk = some zbbs := rfl
theorem zbf2 : T F.zkv = some zbcp := rfl
theorem zbf3 : T F.zmk = some zbcy := rfl
theorem zbf4 : T F.zml = some zbdh := rfl
theorem zbf5 : T F.zk7 = some zbdm := rfl
theorem zbf6 : T F.zmm = some zbdx := rfl
theorem zbf7 : T F.zmn = some zbd2 := rfl
theorem zbf8 : T F.zmo = some zbd7 := rfl
def rg {P : Prop} {c c' : List MO} (h : c = c') (p : P) := ra (T := T) h p
def xg {P : Prop} {c c' : MC} (h : c = c') (p : P) := xa (T := T) h p
def zbf9 := rg o_14_1.eq_1 <| rg o_14_2.eq_1 <| rg o_14_3.eq_1 <| rg o_14_4.eq_1 <| xg c_14_5.eq_1 <| rg o_14_6.eq_1 <| rg o_14_7.eq_1 <| rg o_14_8.eq_1 <| xg c_14_9.eq_1 <| rg zmp.eq_1 <| rg zmq.eq_1 <| xg zmr.eq_1 <| xg zms.eq_1 <| xg zmt.eq_1 <| xg zmu.eq_1 <| xg zmv.eq_1 <| @ex_of T _ _ zmw.eq_1
def zbga := @vd T F.zma zmy [0] zbd8 rfl rfl
theorem zbgb : zmy.res = [.tmp 2] ∧ zmy.rets = [[]] ∧ zmy.body = (.seq (.reg o_14_1) zmw) := ⟨rfl, rfl, rfl⟩
def zbgc := rg o_22_1.eq_1 <| rg o_22_2.eq_1 <| @ex_of T _ _ c_22_3.eq_1
def zbgd := @vd T F.zjw zm0 [0] zbd9 rfl rfl
theorem zbge : zm0.res = [.tmp 2] ∧ zm0.rets = [[]] ∧ zm0.body = (.seq (.reg o_22_1) c_22_3) := ⟨rfl, rfl, rfl⟩
def zbgf := rg o_23_1.eq_1 <| rg o_23_2.eq_1 <| rg o_23_3.eq_1 <| rg o_23_4.eq_1 <| rg o_23_5.eq_1 <| rg o_23_6.eq_1 <| rg o_23_7.eq_1 <| rg o_23_8.eq_1 <| xg c_23_9.eq_1 <| xg zm1.eq_1 <| rg zm2.eq_1 <| rg zm3.eq_1 <| And.intro (@df_of T _ _ [(1, 6)] zm3.eq_1) <| xg zm4.eq_1 <| xg zm5.eq_1 <| xg zm6.eq_1 <| rg zm7.eq_1 <| xg zm8.eq_1 <| xg zm9.eq_1 <| xg zna.eq_1 <| xg znb.eq_1 <| xg znc.eq_1 <| rg znd.eq_1 <| xg zne.eq_1 <| @ex_of T _ _ znf.eq_1
def zbgg := @vd T F.zkl znh [0, 0] zbea rfl rfl
theorem zbgh : znh.res = [.cell 4 6 true, .tmp 5] ∧ znh.rets = [[], []] ∧ znh.body = (.seq (.reg o_23_1) znf) := ⟨rfl, rfl, rfl⟩
def zbgi := rg o_28_1.eq_1 <| rg o_28_2.eq_1 <| rg o_28_3.eq_1 <| rg o_28_4.eq_1 <| xg c_28_5.eq_1 <| xg c_28_6.eq_1 <| @ex_of T _ _ c_28_7.eq_1
def zbgj := @vd T F.zlt znj [] zbeb rfl rfl
theorem zbgk : znj.res = [.tmp 0] ∧ znj.rets = [[]] ∧ znj.body = (.seq (.reg o_28_1) c_28_7) := ⟨rfl, rfl, rfl⟩
def zbgl := rg o_31_1.eq_1 <| rg o_31_2.eq_1 <| rg o_31_3.eq_1 <| rg o_31_4.eq_1 <| rg o_31_5.eq_1 <| xg c_31_6.eq_1 <| rg o_31_7.eq_1 <| xg c_31_8.eq_1 <| xg c_31_9.eq_1 <| xg znk.eq_1 <| @ex_of T _ _ znl.eq_1
def zbgm := @vd T F.zj6 znn [0, 0] zbec rfl rfl
theorem zbgn : znn.res = [.tmp 4] ∧ znn.rets = [[4]] ∧ znn.body = (.seq (.reg o_31_1) znl) := ⟨rfl, rfl, rfl⟩
def zbgo := rg o_37_1.eq_1 <| rg o_37_2.eq_1 <| rg o_37_3.eq_1 <| xg c_37_4.eq_1 <| rg o_37_5.eq_1 <| rg o_37_6.eq_1 <| And.intro (@df_of T _ _ [(3, 0), (3, 1), (6, 0), (6, 1), (6, 4)] o_37_6.eq_1) <| rg o_37_7.eq_1 <| rg o_37_8.eq_1 <| xg c_37_9.eq_1 <| rg zno.eq_1 <| rg znp.eq_1 <| rg znq.eq_1 <| xg znr.eq_1 <| xg zns.eq_1 <| xg znt.eq_1 <| xg znu.eq_1 <| rg znv.eq_1 <| xg znw.eq_1 <| xg znx.eq_1 <| xg zny.eq_1 <| xg znz.eq_1 <| xg zn0.eq_1 <| @ex_of T _ _ zn1.eq_1
def zbgp := @vd T F.zls zn3 [0] zbed rfl rfl
theorem zbgq : zn3.res = [.tmp 2, .tmp 3] ∧ zn3.rets = [[2], []] ∧ zn3.body = (.seq (.reg o_37_1) zn1) := ⟨rfl, rfl, rfl⟩
def zbgr := rg o_43_1.eq_1 <| rg o_43_2.eq_1 <| rg o_43_3.eq_1 <| rg o_43_4.eq_1 <| rg o_43_5.eq_1 <| rg o_43_6.eq_1 <| rg o_43_7.eq_1 <| xg c_43_8.eq_1 <| xg c_43_9.eq_1 <| rg zn4.eq_1 <| rg zn5.eq_1 <| rg zn6.eq_1 <| xg zn7.eq_1 <| rg zn8.eq_1 <| rg zn9.eq_1 <| rg zoa.eq_1 <| rg zob.eq_1 <| rg zoc.eq_1 <| rg zod.eq_1 <| And.intro (@dr_of T _ _ [(4, 1)] zod.eq_1 (by decide)) <| rg zoe.eq_1 <| xg zof.eq_1 <| xg zog.eq_1 <| xg zoh.eq_1 <| rg zoi.eq_1 <| rg zoj.eq_1 <| rg zok.eq_1 <| xg zol.eq_1 <| rg zom.eq_1 <| rg zon.eq_1 <| rg zoo.eq_1 <| xg zop.eq_1 <| xg zoq.eq_1 <| rg zor.eq_1 <| xg zos.eq_1 <| xg zot.eq_1 <| xg zou.eq_1 <| xg zov.eq_1 <| xg zow.eq_1 <| xg zox.eq_1 <| xg zoy.eq_1 <| xg zoz.eq_1 <| xg zo0.eq_1 <| xg zo1.eq_1 <| @ex_of T _ _ zo2.eq_1
def zbgs := @vd T F.zl9 zo4 [0] zbee rfl rfl
theorem zbgt : zo4.res = [.cell 2 6 true, .tmp 3] ∧ zo4.rets = [[], []] ∧ zo4.body = (.seq (.reg o_43_1) zo2) := ⟨rfl, rfl, rfl⟩
def zbgu := rg o_50_1.eq_1 <| rg o_50_2.eq_1 <| rg o_50_3.eq_1 <| xg c_50_4.eq_1 <| rg o_50_5.eq_1 <| xg c_50_6.eq_1 <| @ex_of T _ _ c_50_7.eq_1
def zbgv := @vd T F.zjx zo6 [0] zbef rfl rfl
theorem zbgw : zo6.res = [.tmp 2] ∧ zo6.rets = [[2]] ∧ zo6.body = (.seq (.reg o_50_1) c_50_7) := ⟨rfl, rfl, rfl⟩
def zbgx := rg o_52_1.eq_1 <| rg o_52_2.eq_1 <| rg o_52_3.eq_1 <| xg c_52_4.eq_1 <| rg o_52_5.eq_1 <| rg o_52_6.eq_1 <| rg o_52_7.eq_1 <| rg o_52_8.eq_1 <| xg c_52_9.eq_1 <| rg zo7.eq_1 <| rg zo8.eq_1 <| rg zo9.eq_1 <| xg zpa.eq_1 <| rg zpb.eq_1 <| rg zpc.eq_1 <| rg zpd.eq_1 <| rg zpe.eq_1 <| rg zpf.eq_1 <| xg zpg.eq_1 <| xg zph.eq_1 <| xg zpi.eq_1 <| xg zpj.eq_1 <| xg zpk.eq_1 <| rg zpl.eq_1 <| xg zpm.eq_1 <| xg zpn.eq_1 <| xg zpo.eq_1 <| @ex_of T _ _ zpp.eq_1
def zbgy := @vd T F.zjs zpr [0] zbeg rfl rfl
theorem zbgz : zpr.res = [.tmp 2] ∧ zpr.rets = [[]] ∧ zpr.body = (.seq (.reg o_52_1) zpp) := ⟨rfl, rfl, rfl⟩
def zbg0 := rg o_53_1.eq_1 <| rg o_53_2.eq_1 <| rg o_53_3.eq_1 <| rg o_53_4.eq_1 <| rg o_53_5.eq_1 <| rg o_53_6.eq_1 <| xg c_53_7.eq_1 <| xg c_53_8.eq_1 <| rg o_53_9.eq_1 <| xg zps.eq_1 <| xg zpt.eq_1 <| xg zpu.eq_1 <| xg zpv.eq_1 <| xg zpw.eq_1 <| rg zpx.eq_1 <| xg zpy.eq_1 <| @ex_of T _ _ zpz.eq_1
def zbg1 := @vd T F.zjv zp1 [0] zbeh rfl rfl
theorem zbg2 : zp1.res = [.tmp 2] ∧ zp1.rets = [[]] ∧ zp1.body = (.seq (.reg o_53_1) zpz) := ⟨rfl, rfl, rfl⟩
def zbg3 := rg o_54_1.eq_1 <| rg o_54_2.eq_1 <| @ex_of T _ _ c_54_3.eq_1
def zbg4 := @vd T F.zj8 zp3 [0] zbei rfl rfl
theorem zbg5 : zp3.res = [.tmp 2] ∧ zp3.rets = [[]] ∧ zp3.body = (.seq (.reg o_54_1) c_54_3) := ⟨rfl, rfl, rfl⟩
def zbg6 := rg o_55_1.eq_1 <| rg o_55_2.eq_1 <| rg o_55_3.eq_1 <| rg o_55_4.eq_1 <| rg o_55_5.eq_1 <| rg o_55_6.eq_1 <| rg o_55_7.eq_1 <| rg o_55_8.eq_1 <| rg o_55_9.eq_1 <| xg zp4.eq_1 <| rg zp5.eq_1 <| xg zp6.eq_1 <| xg zp7.eq_1 <| xg zp8.eq_1 <| xg zp9.eq_1 <| xg zqa.eq_1 <| rg zqb.eq_1 <| rg zqc.eq_1 <| rg zqd.eq_1 <| xg zqe.eq_1 <| rg zqf.eq_1 <| rg zqg.eq_1 <| rg zqh.eq_1 <| xg zqi.eq_1 <| rg zqj.eq_1 <| rg zqk.eq_1 <| rg zql.eq_1 <| xg zqm.eq_1 <| xg zqn.eq_1 <| xg zqo.eq_1 <| xg zqp.eq_1 <| rg zqq.eq_1 <| xg zqr.eq_1 <| xg zqs.eq_1 <| @ex_of T _ _ zqt.eq_1
def zbg7 := @vd T F.zki zqv [0, 0] zbej rfl rfl
theorem zbg8 : zqv.res = [.cell 4 4 true, .tmp 5] ∧ zqv.rets = [[], []] ∧ zqv.body = (.seq (.reg o_55_1) zqt) := ⟨rfl, rfl, rfl⟩
def zbg9 := rg o_58_1.eq_1 <| rg o_58_2.eq_1 <| rg o_58_3.eq_1 <| xg c_58_4.eq_1 <| rg o_58_5.eq_1 <| rg o_58_6.eq_1 <| rg o_58_7.eq_1 <| rg o_58_8.eq_1 <| rg o_58_9.eq_1 <| rg zqw.eq_1 <| rg zqx.eq_1 <| xg zqy.eq_1 <| xg zqz.eq_1 <| xg zq0.eq_1 <| rg zq1.eq_1 <| rg zq2.eq_1 <| And.intro (@df_of T _ _ [(5, 8)] zq2.eq_1) <| rg zq3.eq_1 <| xg zq4.eq_1 <| rg zq5.eq_1 <| xg zq6.eq_1 <| xg zq7.eq_1 <| xg zq8.eq_1 <| xg zq9.eq_1 <| xg zra.eq_1 <| @ex_of T _ _ zrb.eq_1
def zbha := @vd T F.zk6 zrd [0] zbek rfl rfl
theorem zbhb : zrd.res = [.tmp 2, .tmp 3, .tmp 4] ∧ zrd.rets = [[2], [], []] ∧ zrd.body = (.seq (.reg o_58_1) zrb) := ⟨rfl, rfl, rfl⟩
def zbhc := rg o_62_1.eq_1 <| rg o_62_2.eq_1 <| @ex_of T _ _ c_62_3.eq_1
def zbhd := @vd T F.zld zrf [2, 0] zbel rfl rfl
theorem zbhe : zrf.res = [.tmp 4] ∧ zrf.rets = [[2]] ∧ zrf.body = (.seq (.reg o_62_1) c_62_3) := ⟨rfl, rfl, rfl⟩
def zbhf := rg o_63_1.eq_1 <| rg o_63_2.eq_1 <| rg o_63_3.eq_1 <| xg c_63_4.eq_1 <| rg o_63_5.eq_1 <| rg o_63_6.eq_1 <| xg c_63_7.eq_1 <| xg c_63_8.eq_1 <| @ex_of T _ _ c_63_9.eq_1
def zbhg := @vd T F.zlj zrh [0] zbem rfl rfl
theorem zbhh : zrh.res = [.tmp 2, .tmp 3] ∧ zrh.rets = [[2], []] ∧ zrh.body = (.seq (.reg o_63_1) c_63_9) := ⟨rfl, rfl, rfl⟩
def zbhi := rg o_67_1.eq_1 <| rg o_67_2.eq_1 <| rg o_67_3.eq_1 <| rg o_67_4.eq_1 <| xg c_67_5.eq_1 <| rg o_67_6.eq_1 <| rg o_67_7.eq_1 <| xg c_67_8.eq_1 <| rg o_67_9.eq_1 <| rg zri.eq_1 <| rg zrj.eq_1 <| rg zrk.eq_1 <| xg zrl.eq_1 <| xg zrm.eq_1 <| xg zrn.eq_1 <| rg zro.eq_1 <| xg zrp.eq_1 <| xg zrq.eq_1 <| xg zrr.eq_1 <| xg zrs.eq_1 <| rg zrt.eq_1 <| rg zru.eq_1 <| xg zrv.eq_1 <| xg zrw.eq_1 <| xg zrx.eq_1 <| xg zry.eq_1 <| @ex_of T _ _ zrz.eq_1
def zbhj := @vi T F.zmb zr1 zben rfl
theorem zbhk {n : Nat} {H : Hp} {vs : List V} : (orc T (n + 1)).inl F.zmb vs H = finI H.length true [.tmp 4] (unw T (orc T n) n H.length [] (exec T (orc T n) n H.length (.seq (.reg o_67_1) zrz) (params 0 vs) H)) := by rw [zht, zben, y4, zhr]; rfl
def zbhl := rg o_68_1.eq_1 <| rg o_68_2.eq_1 <| rg o_68_3.eq_1 <| xg c_68_4.eq_1 <| rg o_68_5.eq_1 <| xg c_68_6.eq_1 <| @ex_of T _ _ c_68_7.eq_1
def zbhm := @vd T F.zjy zr3 [0] zbeo rfl rfl
theorem zbhn : zr3.res = [.tmp 2] ∧ zr3.rets = [[4]] ∧ zr3.body = (.seq (.reg o_68_1) c_68_7) := ⟨rfl, rfl, rfl⟩
def zbho := rg o_69_1.eq_1 <| rg o_69_2.eq_1 <| @ex_of T _ _ c_69_3.eq_1
def zbhp := @vi T F.zmc zr5 zbep rfl
theorem zbhq {n : Nat} {H : Hp} {vs : List V} : (orc T (n + 1)).inl F.zmc vs H = finI H.length false [.tmp 3] (unw T (orc T n) n H.length [] (exec T (orc T n) n H.length (.seq (.reg o_69_1) c_69_3) (params 0 vs) H)) := by rw [zht, zbep, y4, zhr]; rfl
def zbhr := rg o_70_1.eq_1 <| rg o_70_2.eq_1 <| rg o_70_3.eq_1 <| rg o_70_4.eq_1 <| rg o_70_5.eq_1 <| rg o_70_6.eq_1 <| xg c_70_7.eq_1 <| xg c_70_8.eq_1 <| rg o_70_9.eq_1 <| xg zr6.eq_1 <| xg zr7.eq_1 <| xg zr8.eq_1 <| xg zr9.eq_1 <| xg zsa.eq_1 <| rg zsb.eq_1 <| xg zsc.eq_1 <| @ex_of T _ _ zsd.eq_1
def zbhs := @vi T F.zmd zsf zbeq rfl
theorem zbht {n : Nat} {H : Hp} {vs : List V} : (orc T (n + 1)).inl F.zmd vs H = finI H.length false [.tmp 4] (unw T (orc T n) n H.length [] (exec T (orc T n) n H.length (.seq (.reg o_70_1) zsd) (params 0 vs) H)) := by rw [zht, zbeq, y4, zhr]; rfl
def zbhu := rg o_71_1.eq_1 <| rg o_71_2.eq_1 <| @ex_of T _ _ c_71_3.eq_1
def zbhv := @vi T F.zme zsh zber rfl
theorem zbhw {n : Nat} {H : Hp} {vs : List V} : (orc T (n + 1)).inl F.zme vs H = finI H.length false [.tmp 3] (unw T (orc T n) n H.length [] (exec T (orc T n) n H.length (.seq (.reg o_71_1) c_71_3) (params 0 vs) H)) := by rw [zht, zber, y4, zhr]; rfl
def zbhx := rg o_72_1.eq_1 <| rg o_72_2.eq_1 <| rg o_72_3.eq_1 <| rg o_72_4.eq_1 <| rg o_72_5.eq_1 <| xg c_72_6.eq_1 <| rg o_72_7.eq_1 <| rg o_72_8.eq_1 <| rg o_72_9.eq_1 <| xg zsi.eq_1 <| rg zsj.eq_1 <| rg zsk.eq_1 <| xg zsl.eq_1 <| xg zsm.eq_1 <| xg zsn.eq_1 <| xg zso.eq_1 <| rg zsp.eq_1 <| rg zsq.eq_1 <| xg zsr.eq_1 <| xg zss.eq_1 <| xg zst.eq_1 <| rg zsu.eq_1 <| xg zsv.eq_1 <| xg zsw.eq_1 <| xg zsx.eq_1 <| xg zsy.eq_1 <| xg zsz.eq_1 <| xg zs0.eq_1 <| xg zs1.eq_1 <| xg zs2.eq_1 <| xg zs3.eq_1 <| xg zs4.eq_1 <| @ex_of T _ _ zs5.eq_1
def zbhy := @vd T F.zjz zs7 [4, 0, 0] zbes rfl rfl
theorem zbhz : zs7.res = [.tmp 6] ∧ zs7.rets = [[4]] ∧ zs7.body = (.seq (.reg o_72_1) zs5) := ⟨rfl, rfl, rfl⟩
def zbh0 := rg o_80_1.eq_1 <| rg o_80_2.eq_1 <| rg o_80_3.eq_1 <| And.intro (@df_of T _ _ [(6, 2), (6, 4), (7, 2), (7, 4)] o_80_3.eq_1) <| rg o_80_4.eq_1 <| rg o_80_5.eq_1 <| rg o_80_6.eq_1 <| rg o_80_7.eq_1 <| And.intro (@df_of T _ _ [(5, 3), (8, 3), (8, 6)] o_80_7.eq_1) <| xg c_80_8.eq_1 <| rg o_80_9.eq_1 <| xg zs8.eq_1 <| xg zs9.eq_1 <| xg zta.eq_1 <| xg ztb.eq_1 <| xg ztc.eq_1 <| rg ztd.eq_1 <| xg zte.eq_1 <| xg ztf.eq_1 <| xg ztg.eq_1 <| @ex_of T _ _ zth.eq_1
def zbh1 := @vd T F.zlo ztj [0] zbet rfl rfl
theorem zbh2 : ztj.res = [.tmp 2] ∧ ztj.rets = [[2]] ∧ ztj.body = (.seq (.reg o_80_1) zth) := ⟨rfl, rfl, rfl⟩
def zbh3 := rg o_81_1.eq_1 <| rg o_81_2.eq_1 <| rg o_81_3.eq_1 <| xg c_81_4.eq_1 <| rg o_81_5.eq_1 <| xg c_81_6.eq_1 <| @ex_of T _ _ c_81_7.eq_1
def zbh4 := @vd T F.zlb ztl [2, 0] zbeu rfl rfl
theorem zbh5 : ztl.res = [.tmp 4] ∧ ztl.rets = [[2]] ∧ ztl.body = (.seq (.reg o_81_1) c_81_7) := ⟨rfl, rfl, rfl⟩
def zbh6 := rg o_82_1.eq_1 <| rg o_82_2.eq_1 <| rg o_82_3.eq_1 <| xg c_82_4.eq_1 <| @ex_of T _ _ c_82_5.eq_1
def zbh7 := @vd T F.zlp ztn [0] zbev rfl rfl
theorem zbh8 : ztn.res = [.tmp 2] ∧ ztn.rets = [[2]] ∧ ztn.body = (.seq (.reg o_82_1) c_82_5) := ⟨rfl, rfl, rfl⟩
def zbh9 := rg o_83_1.eq_1 <| rg o_83_2.eq_1 <| @ex_of T _ _ c_83_3.eq_1
def zbia := @vd T F.zk1 ztp [0] zbew rfl rfl
theorem zbib : ztp.res = [.tmp 2] ∧ ztp.rets = [[2]] ∧ ztp.body = (.seq (.reg o_83_1) c_83_3) := ⟨rfl, rfl, rfl⟩
def zbic := rg o_84_1.eq_1 <| rg o_84_2.eq_1 <| @ex_of T _ _ c_84_3.eq_1
def zbid := @vd T F.zky ztr [0] zbex rfl rfl
theorem zbie : ztr.res = [.tmp 2] ∧ ztr.rets = [[]] ∧ ztr.body = (.seq (.reg o_84_1) c_84_3) := ⟨rfl, rfl, rfl⟩
def zbif := rg o_89_1.eq_1 <| rg o_89_2.eq_1 <| rg o_89_3.eq_1 <| rg o_89_4.eq_1 <| xg c_89_5.eq_1 <| rg o_89_6.eq_1 <| xg c_89_7.eq_1 <| xg c_89_8.eq_1 <| @ex_of T _ _ c_89_9.eq_1
def zbig := @vd T F.zlw ztt [0] zbey rfl rfl
theorem zbih : ztt.res = [.tmp 2, .tmp 3] ∧ ztt.rets = [[2], []] ∧ ztt.body = (.seq (.reg o_89_1) c_89_9) := ⟨rfl, rfl, rfl⟩
def zbii := rg o_90_1.eq_1 <| rg o_90_2.eq_1 <| rg o_90_3.eq_1 <| xg c_90_4.eq_1 <| rg o_90_5.eq_1 <| rg o_90_6.eq_1 <| rg o_90_7.eq_1 <| rg o_90_8.eq_1 <| rg o_90_9.eq_1 <| rg ztu.eq_1 <| rg ztv.eq_1 <| rg ztw.eq_1 <| rg ztx.eq_1 <| rg zty.eq_1 <| rg ztz.eq_1 <| rg zt0.eq_1 <| rg zt1.eq_1 <| rg zt2.eq_1 <| xg zt3.eq_1 <| xg zt4.eq_1 <| xg zt5.eq_1 <| rg zt6.eq_1 <| rg zt7.eq_1 <| xg zt8.eq_1 <| xg zt9.eq_1 <| xg zua.eq_1 <| xg zub.eq_1 <| xg zuc.eq_1 <| xg zud.eq_1 <| xg zue.eq_1 <| xg zuf.eq_1 <| xg zug.eq_1 <| xg zuh.eq_1 <| xg zui.eq_1 <| @ex_of T _ _ zuj.eq_1
def zbij := @vd T F.zlz zul [0] zbez rfl rfl
theorem zbik : zul.res = [.cell 2 3 true, .tmp 3] ∧ zul.rets = [[], []] ∧ zul.body = (.seq (.reg o_90_1) zuj) := ⟨rfl, rfl, rfl⟩
def zbil := rg o_91_1.eq_1 <| rg o_91_2.eq_1 <| rg o_91_3.eq_1 <| rg o_91_4.eq_1 <| rg o_91_5.eq_1 <| rg o_91_6.eq_1 <| rg o_91_7.eq_1 <| xg c_91_8.eq_1 <| xg c_91_9.eq_1 <| xg zum.eq_1 <| rg zun.eq_1 <| xg zuo.eq_1 <| xg zup.eq_1 <| xg zuq.eq_1 <| xg zur.eq_1 <| xg zus.eq_1 <| rg zut.eq_1 <| rg zuu.eq_1 <| rg zuv.eq_1 <| rg zuw.eq_1 <| rg zux.eq_1 <| xg zuy.eq_1 <| rg zuz.eq_1 <| xg zu0.eq_1 <| xg zu1.eq_1 <| xg zu2.eq_1 <| xg zu3.eq_1 <| xg zu4.eq_1 <| rg zu5.eq_1 <| xg zu6.eq_1 <| xg zu7.eq_1 <| xg zu8.eq_1 <| xg zu9.eq_1 <| @ex_of T _ _ zva.eq_1
def zbim := @vd T F.zli zvc [0] zbe0 rfl rfl
theorem zbin : zvc.res = [.tmp 2] ∧ zvc.rets = [[2]] ∧ zvc.body = (.seq (.reg o_91_1) zva) := ⟨rfl, rfl, rfl⟩
def zbio := rg o_92_1.eq_1 <| rg o_92_2.eq_1 <| rg o_92_3.eq_1 <| rg o_92_4.eq_1 <| rg o_92_5.eq_1 <| rg o_92_6.eq_1 <| xg c_92_7.eq_1 <| xg c_92_8.eq_1 <| rg o_92_9.eq_1 <| xg zvd.eq_1 <| xg zve.eq_1 <| xg zvf.eq_1 <| xg zvg.eq_1 <| xg zvh.eq_1 <| rg zvi.eq_1 <| xg zvj.eq_1 <| @ex_of T _ _ zvk.eq_1
def zbip := @vd T F.zl1 zvm [0] zbe1 rfl rfl
theorem zbiq : zvm.res = [.tmp 2] ∧ zvm.rets = [[]] ∧ zvm.body = (.seq (.reg o_92_1) zvk) := ⟨rfl, rfl, rfl⟩
def zbir := rg o_93_1.eq_1 <| rg o_93_2.eq_1 <| rg o_93_3.eq_1 <| rg o_93_4.eq_1 <| xg c_93_5.eq_1 <| rg o_93_6.eq_1 <| rg o_93_7.eq_1 <| rg o_93_8.eq_1 <| xg c_93_9.eq_1 <| rg zvn.eq_1 <| rg zvo.eq_1 <| rg zvp.eq_1 <| rg zvq.eq_1 <| xg zvr.eq_1 <| rg zvs.eq_1 <| rg zvt.eq_1 <| rg zvu.eq_1 <| rg zvv.eq_1 <| rg zvw.eq_1 <| rg zvx.eq_1 <| xg zvy.eq_1 <| rg zvz.eq_1 <| And.intro (@df_of T _ _ [(1, 3), (7, 3), (7, 4), (7, 9)] zvz.eq_1) <| xg zv0.eq_1 <| xg zv1.eq_1 <| rg zv2.eq_1 <| xg zv3.eq_1 <| xg zv4.eq_1 <| xg zv5.eq_1 <| xg zv6.eq_1 <| xg zv7.eq_1 <| rg zv8.eq_1 <| rg zv9.eq_1 <| xg zwa.eq_1 <| rg zwb.eq_1 <| rg zwc.eq_1 <| xg zwd.eq_1 <| xg zwe.eq_1 <| xg zwf.eq_1 <| xg zwg.eq_1 <| xg zwh.eq_1 <| xg zwi.eq_1 <| xg zwj.eq_1 <| xg zwk.eq_1 <| xg zwl.eq_1 <| xg zwm.eq_1 <| xg zwn.eq_1 <| @ex_of T _ _ zwo.eq_1
def zbis := @vd T F.zl8 zwq [0] zbe2 rfl rfl
theorem zbit : zwq.res = [.cell 2 6 true, .tmp 3] ∧ zwq.rets = [[], []] ∧ zwq.body = (.seq (.reg o_93_1) zwo) := ⟨rfl, rfl, rfl⟩
def zbiu := rg o_95_1.eq_1 <| rg o_95_2.eq_1 <| @ex_of T _ _ c_95_3.eq_1
def zbiv := @vi T F.zmf zws zbe3 rfl
theorem zbiw {n : Nat} {H : Hp} {vs : List V} : (orc T (n + 1)).inl F.zmf vs H = finI H.length false [.tmp 4] (unw T (orc T n) n H.length [] (exec T (orc T n) n H.length (.seq (.reg o_95_1) c_95_3) (params 0 vs) H)) := by rw [zht, zbe3, y4, zhr]; rfl
def zbix := rg o_96_1.eq_1 <| rg o_96_2.eq_1 <| @ex_of T _ _ c_96_3.eq_1
def zbiy := @vd T F.zjn zwu [0] zbe4 rfl rfl
theorem zbiz : zwu.res = [.tmp 2] ∧ zwu.rets = [[]] ∧ zwu.body = (.seq (.reg o_96_1) c_96_3) := ⟨rfl, rfl, rfl⟩
def zbi0 := rg o_97_1.eq_1 <| rg o_97_2.eq_1 <| @ex_of T _ _ c_97_3.eq_1
def zbi1 := @vd T F.zjm zww [0] zbe5 rfl rfl
theorem zbi2 : zww.res = [.tmp 2] ∧ zww.rets = [[]] ∧ zww.body = (.seq (.reg o_97_1) c_97_3) := ⟨rfl, rfl, rfl⟩
def zbi3 := rg o_98_1.eq_1 <| rg o_98_2.eq_1 <| rg o_98_3.eq_1 <| rg o_98_4.eq_1 <| xg c_98_5.eq_1 <| rg o_98_6.eq_1 <| rg o_98_7.eq_1 <| xg c_98_8.eq_1 <| rg o_98_9.eq_1 <| xg zwx.eq_1 <| rg zwy.eq_1 <| xg zwz.eq_1 <| xg zw0.eq_1 <| xg zw1.eq_1 <| xg zw2.eq_1 <| rg zw3.eq_1 <| xg zw4.eq_1 <| xg zw5.eq_1 <| @ex_of T _ _ zw6.eq_1
def zbi4 := @vd T F.zjp zw8 [0, 0] zbe6 rfl rfl
theorem zbi5 : zw8.res = [.tmp 4] ∧ zw8.rets = [[]] ∧ zw8.body = (.seq (.reg o_98_1) zw6) := ⟨rfl, rfl, rfl⟩
def zbi6 := rg o_99_1.eq_1 <| rg o_99_2.eq_1 <| @ex_of T _ _ c_99_3.eq_1
def zbi7 := @vd T F.zjt zxa [0] zbe7 rfl rfl
theorem zbi8 : zxa.res = [.tmp 2] ∧ zxa.rets = [[]] ∧ zxa.body = (.seq (.reg o_99_1) c_99_3) := ⟨rfl, rfl, rfl⟩
def zbi9 := rg zxb.eq_1 <| rg zxc.eq_1 <| And.intro (@dr_of T _ _ [(10, 13), (18, 21)] zxc.eq_1 (by decide)) <| @ex_of T _ _ zxd.eq_1
def zbja := @vd T F.zj7 zxf [0] zbe8 rfl rfl
theorem zbjb : zxf.res = [.tmp 2] ∧ zxf.rets = [[]] ∧ zxf.body = (.seq (.reg zxb) zxd) := ⟨rfl, rfl, rfl⟩
def zbjc := rg zxg.eq_1 <| rg zxh.eq_1 <| rg zxi.eq_1 <| rg zxj.eq_1 <| rg zxk.eq_1 <| rg zxl.eq_1 <| rg zxm.eq_1 <| xg zxn.eq_1 <| rg zxo.eq_1 <| rg zxp.eq_1 <| rg zxq.eq_1 <| xg zxr.eq_1 <| xg zxs.eq_1 <| xg zxt.eq_1 <| xg zxu.eq_1 <| rg zxv.eq_1 <| xg zxw.eq_1 <| xg zxx.eq_1 <| @ex_of T _ _ zxy.eq_1
def zbjd := @vd T F.zj9 zx0 [0, 0] zbe9 rfl rfl
theorem zbje : zx0.res = [.cell 4 4 true, .tmp 5] ∧ zx0.rets = [[], []] ∧ zx0.body = (.seq (.reg zxg) zxy) := ⟨rfl, rfl, rfl⟩
def zbjf := rg zx1.eq_1 <| rg zx2.eq_1 <| rg zx3.eq_1 <| rg zx4.eq_1 <| rg zx5.eq_1 <| rg zx6.eq_1 <| And.intro (@df_of T _ _ [(4, 2)] zx6.eq_1) <| rg zx7.eq_1 <| xg zx8.eq_1 <| rg zx9.eq_1 <| rg zya.eq_1 <| xg zyb.eq_1 <| rg zyc.eq_1 <| rg zyd.eq_1 <| rg zye.eq_1 <| xg zyf.eq_1 <| xg zyg.eq_1 <| xg zyh.eq_1 <| xg zyi.eq_1 <| rg zyj.eq_1 <| rg zyk.eq_1 <| rg zyl.eq_1 <| xg zym.eq_1 <| rg zyn.eq_1 <| rg zyo.eq_1 <| rg zyp.eq_1 <| xg zyq.eq_1 <| xg zyr.eq_1 <| xg zys.eq_1 <| xg zyt.eq_1 <| xg zyu.eq_1 <| xg zyv.eq_1 <| @ex_of T _ _ zyw.eq_1
def zbjg := @vd T F.zkb zyy [0, 0] zbfa rfl rfl
theorem zbjh : zyy.res = [.cell 4 4 true, .tmp 5] ∧ zyy.rets = [[], []] ∧ zyy.body = (.seq (.reg zx1) zyw) := ⟨rfl, rfl, rfl⟩
def zbji := rg zyz.eq_1 <| rg zy0.eq_1 <| rg zy1.eq_1 <| rg zy2.eq_1 <| rg zy3.eq_1 <| xg zy4.eq_1 <| xg zy5.eq_1 <| rg zy6.eq_1 <| xg zy7.eq_1 <| xg zy8.eq_1 <| rg zy9.eq_1 <| rg zza.eq_1 <| xg zzb.eq_1 <| rg zzc.eq_1 <| rg zzd.eq_1 <| rg zze.eq_1 <| rg zzf.eq_1 <| rg zzg.eq_1 <| rg zzh.eq_1 <| And.intro (@dr_of T _ _ [(1, 6), (3, 6)] zzh.eq_1 (by decide)) <| rg zzi.eq_1 <| rg zzj.eq_1 <| xg zzk.eq_1 <| rg zzl.eq_1 <| xg zzm.eq_1 <| xg zzn.eq_1 <| xg zzo.eq_1 <| xg zzp.eq_1 <| xg zzq.eq_1 <| rg zzr.eq_1 <| xg zzs.eq_1 <| xg zzt.eq_1 <| xg zzu.eq_1 <| xg zzv.eq_1 <| @ex_of T _ _ zzw.eq_1
def zbjj := @vd T F.zkf zzy [0, 0] zbfb rfl rfl
theorem zbjk : zzy.res = [.cell 4 4 true, .tmp 5] ∧ zzy.rets = [[], []] ∧ zzy.body = (.seq (.reg zyz) zzw) := ⟨rfl, rfl, rfl⟩
def zbjl := rg zzz.eq_1 <| rg zz0.eq_1 <| rg zz1.eq_1 <| rg zz2.eq_1 <| rg zz3.eq_1 <| rg zz4.eq_1 <| rg zz5.eq_1 <| rg zz6.eq_1 <| rg zz7.eq_1 <| And.intro (@df_of T _ _ [(0, 5)] zz7.eq_1) <| rg zz8.eq_1 <| rg zz9.eq_1 <| xg z0a.eq_1 <| xg z0b.eq_1 <| xg z0c.eq_1 <| xg z0d.eq_1 <| xg z0e.eq_1 <| rg z0f.eq_1 <| And.intro (@dr_of T _ _ [(7, 4)] z0f.eq_1 (by decide)) <| rg z0g.eq_1 <| rg z0h.eq_1 <| rg z0i.eq_1 <| xg z0j.eq_1 <| rg z0k.eq_1 <| rg z0l.eq_1 <| xg z0m.eq_1 <| xg z0n.eq_1 <| xg z0o.eq_1 <| xg z0p.eq_1 <| xg z0q.eq_1 <| @ex_of T _ _ z0r.eq_1
def zbjm := @vd T F.zkh z0t [0, 0] zbfc rfl rfl
theorem zbjn : z0t.res = [.cell 4 4 true, .tmp 5] ∧ z0t.rets = [[], []] ∧ z0t.body = (.seq (.reg zzz) z0r) := ⟨rfl, rfl, rfl⟩
def zbjo := rg z0u.eq_1 <| rg z0v.eq_1 <| @ex_of T _ _ z0w.eq_1
def zbjp := @vd T F.zkp z0y [0] zbfd rfl rfl
theorem zbjq : z0y.res = [.tmp 2] ∧ z0y.rets = [[]] ∧ z0y.body = (.seq (.reg z0u) z0w) := ⟨rfl, rfl, rfl⟩
def zbjr := rg z0z.eq_1 <| rg z00.eq_1 <| rg z01.eq_1 <| rg z02.eq_1 <| xg z03.eq_1 <| rg z04.eq_1 <| xg z05.eq_1 <| xg z06.eq_1 <| @ex_of T _ _ z07.eq_1
def zbjs := @vd T F.zks z09 [0] zbfe rfl rfl
theorem zbjt : z09.res = [.tmp 2, .tmp 3] ∧ z09.rets = [[], []] ∧ z09.body = (.seq (.reg z0z) z07) := ⟨rfl, rfl, rfl⟩
def zbju := rg z1a.eq_1 <| rg z1b.eq_1 <| rg z1c.eq_1 <| xg z1d.eq_1 <| rg z1e.eq_1 <| rg z1f.eq_1 <| rg z1g.eq_1 <| rg z1h.eq_1 <| rg z1i.eq_1 <| xg z1j.eq_1 <| xg z1k.eq_1 <| rg z1l.eq_1 <| xg z1m.eq_1 <| xg z1n.eq_1 <| xg z1o.eq_1 <| xg z1p.eq_1 <| xg z1q.eq_1 <| rg z1r.eq_1 <| xg z1s.eq_1 <| xg z1t.eq_1 <| @ex_of T _ _ z1u.eq_1
def zbjv := @vd T F.zk4 z1w [0, 0] zbff rfl rfl
theorem zbjw : z1w.res = [.tmp 4] ∧ z1w.rets = [[]] ∧ z1w.body = (.seq (.reg z1a) z1u) := ⟨rfl, rfl, rfl⟩
def zbjx := rg z1x.eq_1 <| rg z1y.eq_1 <| @ex_of T _ _ z1z.eq_1
def zbjy := @vd T F.zk2 z11 [0, 0] zbfg rfl rfl
theorem zbjz : z11.res = [.tmp 4] ∧ z11.rets = [[2]] ∧ z11.body = (.seq (.reg z1x) z1z) := ⟨rfl, rfl, rfl⟩
def zbj0 := rg z12.eq_1 <| rg z13.eq_1 <| rg z14.eq_1 <| xg z15.eq_1 <| rg z16.eq_1 <| xg z17.eq_1 <| @ex_of T _ _ z18.eq_1
def zbj1 := @vd T F.zk5 z2a [0] zbfh rfl rfl
theorem zbj2 : z2a.res = [.tmp 2] ∧ z2a.rets = [[2]] ∧ z2a.body = (.seq (.reg z12) z18) := ⟨rfl, rfl, rfl⟩
def zbj3 := rg z2b.eq_1 <| rg z2c.eq_1 <| xg z2d.eq_1 <| rg z2e.eq_1 <| rg z2f.eq_1 <| xg z2g.eq_1 <| xg z2h.eq_1 <| xg z2i.eq_1 <| rg z2j.eq_1 <| xg z2k.eq_1 <| @ex_of T _ _ z2l.eq_1
def zbj4 := @vd T F.zla z2n [2, 0] zbfi rfl rfl
theorem zbj5 : z2n.res = [.tmp 4] ∧ z2n.rets = [[2]] ∧ z2n.body = (.seq (.reg z2b) z2l) := ⟨rfl, rfl, rfl⟩
def zbj6 := rg z2o.eq_1 <| rg z2p.eq_1 <| @ex_of T _ _ z2q.eq_1
def zbj7 := @vd T F.zlc z2s [0] zbfj rfl rfl
theorem zbj8 : z2s.res = [.tmp 2] ∧ z2s.rets = [[]] ∧ z2s.body = (.seq (.reg z2o) z2q) := ⟨rfl, rfl, rfl⟩
def zbj9 := rg z2t.eq_1 <| rg z2u.eq_1 <| rg z2v.eq_1 <| xg z2w.eq_1 <| rg z2x.eq_1 <| And.intro (@df_of T _ _ [(3, 2), (7, 2), (7, 4), (7, 5), (8, 2), (8, 4), (8, 5)] z2x.eq_1) <| rg z2y.eq_1 <| rg z2z.eq_1 <| rg z20.eq_1 <| rg z21.eq_1 <| xg z22.eq_1 <| rg z23.eq_1 <| xg z24.eq_1 <| xg z25.eq_1 <| xg z26.eq_1 <| xg z27.eq_1 <| xg z28.eq_1 <| rg z29.eq_1 <| xg z3a.eq_1 <| xg z3b.eq_1 <| xg z3c.eq_1 <| @ex_of T _ _ z3d.eq_1
def zbka := @vd T F.zlm z3f [0] zbfk rfl rfl
theorem zbkb : z3f.res = [.tmp 2, .tmp 3] ∧ z3f.rets = [[2], []] ∧ z3f.body = (.seq (.reg z2t) z3d) := ⟨rfl, rfl, rfl⟩
def zbkc := rg z3g.eq_1 <| rg z3h.eq_1 <| rg z3i.eq_1 <| rg z3j.eq_1 <| rg z3k.eq_1 <| rg z3l.eq_1 <| xg z3m.eq_1 <| rg z3n.eq_1 <| xg z3o.eq_1 <| xg z3p.eq_1 <| xg z3q.eq_1 <| xg z3r.eq_1 <| xg z3s.eq_1 <| rg z3t.eq_1 <| xg z3u.eq_1 <| xg z3v.eq_1 <| @ex_of T _ _ z3w.eq_1
def zbkd := @vd T F.zk0 z3y [0, 0] zbfl rfl rfl
theorem zbke : z3y.res = [.tmp 4] ∧ z3y.rets = [[2]] ∧ z3y.body = (.seq (.reg z3g) z3w) := ⟨rfl, rfl, rfl⟩
def zbkf := rg z3z.eq_1 <| rg z30.eq_1 <| rg z31.eq_1 <| rg z32.eq_1 <| rg z33.eq_1 <| rg z34.eq_1 <| rg z35.eq_1 <| xg z36.eq_1 <| rg z37.eq_1 <| xg z38.eq_1 <| xg z39.eq_1 <| xg z4a.eq_1 <| xg z4b.eq_1 <| xg z4c.eq_1 <| rg z4d.eq_1 <| xg z4e.eq_1 <| xg z4f.eq_1 <| xg z4g.eq_1 <| @ex_of T _ _ z4h.eq_1
def zbkg := @vd T F.zkx z4j [0, 0] zbfm rfl rfl
theorem zbkh : z4j.res = [.tmp 4] ∧ z4j.rets = [[]] ∧ z4j.body = (.seq (.reg z3z) z4h) := ⟨rfl, rfl, rfl⟩
def zbki := rg z4k.eq_1 <| rg z4l.eq_1 <| xg z4m.eq_1 <| rg z4n.eq_1 <| rg z4o.eq_1 <| rg z4p.eq_1 <| xg z4q.eq_1 <| rg z4r.eq_1 <| rg z4s.eq_1 <| xg z4t.eq_1 <| xg z4u.eq_1 <| xg z4v.eq_1 <| xg z4w.eq_1 <| xg z4x.eq_1 <| rg z4y.eq_1 <| xg z4z.eq_1 <| @ex_of T _ _ z40.eq_1
def zbkj := @vd T F.zlv z42 [0] zbfn rfl rfl
theorem zbkk : z42.res = [.tmp 2, .tmp 3, .tmp 4] ∧ z42.rets = [[2], [], []] ∧ z42.body = (.seq (.reg z4k) z40) := ⟨rfl, rfl, rfl⟩
def zbkl := rg z43.eq_1 <| rg z44.eq_1 <| rg z45.eq_1 <| rg z46.eq_1 <| rg z47.eq_1 <| rg z48.eq_1 <| xg z49.eq_1 <| rg z5a.eq_1 <| xg z5b.eq_1 <| xg z5c.eq_1 <| xg z5d.eq_1 <| xg z5e.eq_1 <| xg z5f.eq_1 <| rg z5g.eq_1 <| xg z5h.eq_1 <| xg z5i.eq_1 <| @ex_of T _ _ z5j.eq_1
def zbkm := @vd T F.zly z5l [0] zbfo rfl rfl
theorem zbkn : z5l.res = [.tmp 2] ∧ z5l.rets = [[]] ∧ z5l.body = (.seq (.reg z43) z5j) := ⟨rfl, rfl, rfl⟩
def zbko := rg z5m.eq_1 <| rg z5n.eq_1 <| xg z5o.eq_1 <| rg z5p.eq_1 <| rg z5q.eq_1 <| rg z5r.eq_1 <| xg z5s.eq_1 <| xg z5t.eq_1 <| rg z5u.eq_1 <| xg z5v.eq_1 <| xg z5w.eq_1 <| @ex_of T _ _ z5x.eq_1
def zbkp := @vi T F.zmg z5z zbfp rfl
theorem zbkq {n : Nat} {H : Hp} {vs : List V} : (orc T (n + 1)).inl F.zmg vs H = finI H.length false [.tmp 4] (unw T (orc T n) n H.length [] (exec T (orc T n) n H.length (.seq (.reg z5m) z5x) (params 0 vs) H)) := by rw [zht, zbfp, y4, zhr]; rfl
def zbkr := rg z50.eq_1 <| rg z51.eq_1 <| rg z52.eq_1 <| rg z53.eq_1 <| rg z54.eq_1 <| rg z55.eq_1 <| rg z56.eq_1 <| xg z57.eq_1 <| rg z58.eq_1 <| rg z59.eq_1 <| rg z6a.eq_1 <| rg z6b.eq_1 <| And.intro (@df_of T _ _ [(1, 3), (1, 4)] z6b.eq_1) <| rg z6c.eq_1 <| xg z6d.eq_1 <| xg z6e.eq_1 <| xg z6f.eq_1 <| xg z6g.eq_1 <| xg z6h.eq_1 <| rg z6i.eq_1 <| rg z6j.eq_1 <| rg z6k.eq_1 <| rg z6l.eq_1 <| xg z6m.eq_1 <| xg z6n.eq_1 <| rg z6o.eq_1 <| xg z6p.eq_1 <| xg z6q.eq_1 <| xg z6r.eq_1 <| xg z6s.eq_1 <| xg z6t.eq_1 <| xg z6u.eq_1 <| xg z6v.eq_1 <| xg z6w.eq_1 <| @ex_of T _ _ z6x.eq_1
def zbks := @vd T F.zl4 z6z [0] zbfq rfl rfl
theorem zbkt : z6z.res = [.cell 2 4 true, .tmp 3] ∧ z6z.rets = [[], []] ∧ z6z.body = (.seq (.reg z50) z6x) := ⟨rfl, rfl, rfl⟩
def zbku := rg z60.eq_1 <| rg z61.eq_1 <| rg z62.eq_1 <| rg z63.eq_1 <| rg z64.eq_1 <| rg z65.eq_1 <| rg z66.eq_1 <| rg z67.eq_1 <| rg z68.eq_1 <| xg z69.eq_1 <| rg z7a.eq_1 <| xg z7b.eq_1 <| xg z7c.eq_1 <| xg z7d.eq_1 <| xg z7e.eq_1 <| xg z7f.eq_1 <| xg z7g.eq_1 <| xg z7h.eq_1 <| @ex_of T _ _ z7i.eq_1
def zbkv := @vd T F.zl5 z7k [0] zbfr rfl rfl
theorem zbkw : z7k.res = [.cell 2 3 true, .tmp 3] ∧ z7k.rets = [[], []] ∧ z7k.body = (.seq (.reg z60) z7i) := ⟨rfl, rfl, rfl⟩
def zbkx := rg z7l.eq_1 <| rg z7m.eq_1 <| rg z7n.eq_1 <| rg z7o.eq_1 <| rg z7p.eq_1 <| rg z7q.eq_1 <| xg z7r.eq_1 <| xg z7s.eq_1 <| rg z7t.eq_1 <| xg z7u.eq_1 <| xg z7v.eq_1 <| xg z7w.eq_1 <| xg z7x.eq_1 <| xg z7y.eq_1 <| rg z7z.eq_1 <| xg z70.eq_1 <| @ex_of T _ _ z71.eq_1
def zbky := @vi T F.zmh z73 zbfs rfl
theorem zbkz {n : Nat} {H : Hp} {vs : List V} : (orc T (n + 1)).inl F.zmh vs H = finI H.length false [.tmp 4] (unw T (orc T n) n H.length [] (exec T (orc T n) n H.length (.seq (.reg z7l) z71) (params 0 vs) H)) := by rw [zht, zbfs, y4, zhr]; rfl
def zbk0 := rg z74.eq_1 <| rg z75.eq_1 <| rg z76.eq_1 <| rg z77.eq_1 <| xg z78.eq_1 <| rg z79.eq_1 <| rg z8a.eq_1 <| rg z8b.eq_1 <| rg z8c.eq_1 <| xg z8d.eq_1 <| xg z8e.eq_1 <| xg z8f.eq_1 <| xg z8g.eq_1 <| xg z8h.eq_1 <| @ex_of T _ _ z8i.eq_1
def zbk1 := @vd T F.zka z8k [2, 0, 0] zbft rfl rfl
theorem zbk2 : z8k.res = [.tmp 6] ∧ z8k.rets = [[2]] ∧ z8k.body = (.seq (.reg z74) z8i) := ⟨rfl, rfl, rfl⟩
def zbk3 := rg z8l.eq_1 <| rg z8m.eq_1 <| rg z8n.eq_1 <| rg z8o.eq_1 <| xg z8p.eq_1 <| xg z8q.eq_1 <| rg z8r.eq_1 <| xg z8s.eq_1 <| @ex_of T _ _ z8t.eq_1
def zbk4 := @vd T F.zke z8v [0, 0] zbfu rfl rfl
theorem zbk5 : z8v.res = [.tmp 4] ∧ z8v.rets = [[]] ∧ z8v.body = (.seq (.reg z8l) z8t) := ⟨rfl, rfl, rfl⟩
def zbk6 := rg z8w.eq_1 <| rg z8x.eq_1 <| rg z8y.eq_1 <| xg z8z.eq_1 <| rg z80.eq_1 <| xg z81.eq_1 <| xg z82.eq_1 <| rg z83.eq_1 <| xg z84.eq_1 <| xg z85.eq_1 <| @ex_of T _ _ z86.eq_1
def zbk7 := @vd T F.zkd z88 [0, 0] zbfv rfl rfl
theorem zbk8 : z88.res = [.tmp 4, .tmp 5] ∧ z88.rets = [[], []] ∧ z88.body = (.seq (.reg z8w) z86) := ⟨rfl, rfl, rfl⟩
def zbk9 := rg z89.eq_1 <| rg z9a.eq_1 <| rg z9b.eq_1 <| xg z9c.eq_1 <| rg z9d.eq_1 <| rg z9e.eq_1 <| And.intro (@dr_of T _ _ [(5, 3)] z9e.eq_1 (by decide)) <| rg z9f.eq_1 <| rg z9g.eq_1 <| rg z9h.eq_1 <| rg z9i.eq_1 <| xg z9j.eq_1 <| xg z9k.eq_1 <| rg z9l.eq_1 <| rg z9m.eq_1 <| rg z9n.eq_1 <| xg z9o.eq_1 <| rg z9p.eq_1 <| rg z9q.eq_1 <| xg z9r.eq_1 <| xg z9s.eq_1 <| xg z9t.eq_1 <| xg z9u.eq_1 <| xg z9v.eq_1 <| xg z9w.eq_1 <| xg z9x.eq_1 <| @ex_of T _ _ z9y.eq_1
def zbla := @vd T F.zkg z90 [0, 0] zbfw rfl rfl
theorem zblb : z90.res = [.cell 4 4 true, .tmp 5] ∧ z90.rets = [[], []] ∧ z90.body = (.seq (.reg z89) z9y) := ⟨rfl, rfl, rfl⟩
def zblc := rg z91.eq_1 <| rg z92.eq_1 <| @ex_of T _ _ z93.eq_1
def zbld := @vi T F.zmj z95 zbfx rfl
theorem zble {n : Nat} {H : Hp} {vs : List V} : (orc T (n + 1)).inl F.zmj vs H = finI H.length false [.tmp 4] (unw T (orc T n) n H.length [] (exec T (orc T n) n H.length (.seq (.reg z91) z93) (params 0 vs) H)) := by rw [zht, zbfx, y4, zhr]; rfl
def zblf := rg z96.eq_1 <| rg z97.eq_1 <| @ex_of T _ _ z98.eq_1
def zblg := @vd T F.zkm zbaa [0] zbfy rfl rfl
theorem zblh : zbaa.res = [.tmp 2] ∧ zbaa.rets = [[]] ∧ zbaa.body = (.seq (.reg z96) z98) := ⟨rfl, rfl, rfl⟩
def zbli := rg zbab.eq_1 <| rg zbac.eq_1 <| rg zbad.eq_1 <| rg zbae.eq_1 <| rg zbaf.eq_1 <| rg zbag.eq_1 <| rg zbah.eq_1 <| rg zbai.eq_1 <| xg zbaj.eq_1 <| rg zbak.eq_1 <| xg zbal.eq_1 <| rg zbam.eq_1 <| xg zban.eq_1 <| xg zbao.eq_1 <| xg zbap.eq_1 <| rg zbaq.eq_1 <| xg zbar.eq_1 <| rg zbas.eq_1 <| xg zbat.eq_1 <| xg zbau.eq_1 <| xg zbav.eq_1 <| xg zbaw.eq_1 <| rg zbax.eq_1 <| xg zbay.eq_1 <| xg zbaz.eq_1 <| xg zba0.eq_1 <| xg zba1.eq_1 <| xg zba2.eq_1 <| rg zba3.eq_1 <| xg zba4.eq_1 <| xg zba5.eq_1 <| @ex_of T _ _ zba6.eq_1
def zblj := @vd T F.zkr zba8 [0] zbfz rfl rfl
theorem zblk : zba8.res = [.tmp 2, .tmp 3] ∧ zba8.rets = [[], []] ∧ zba8.body = (.seq (.reg zbab) zba6) := ⟨rfl, rfl, rfl⟩
def zbll := rg zba9.eq_1 <| rg zbba.eq_1 <| rg zbbb.eq_1 <| rg zbbc.eq_1 <| xg zbbd.eq_1 <| rg zbbe.eq_1 <| xg zbbf.eq_1 <| xg zbbg.eq_1 <| @ex_of T _ _ zbbh.eq_1
def zblm := @vd T F.zk8 zbbj [0] zbf0 rfl rfl
theorem zbln : zbbj.res = [.tmp 2, .tmp 3] ∧ zbbj.rets = [[], []] ∧ zbbj.body = (.seq (.reg zba9) zbbh) := ⟨rfl, rfl, rfl⟩
def zblo := rg zbbk.eq_1 <| rg zbbl.eq_1 <| rg zbbm.eq_1 <| xg zbbn.eq_1 <| rg zbbo.eq_1 <| xg zbbp.eq_1 <| @ex_of T _ _ zbbq.eq_1
def zblp := @vd T F.zlk zbbs [0] zbf1 rfl rfl
theorem zblq : zbbs.res = [.tmp 2] ∧ zbbs.rets = [[]] ∧ zbbs.body = (.seq (.reg zbbk) zbbq) := ⟨rfl, rfl, rfl⟩
def zblr := rg zbbt.eq_1 <| rg zbbu.eq_1 <| rg zbbv.eq_1 <| rg zbbw.eq_1 <| rg zbbx.eq_1 <| rg zbby.eq_1 <| rg zbbz.eq_1 <| rg zbb0.eq_1 <| rg zbb1.eq_1 <| rg zbb2.eq_1 <| xg zbb3.eq_1 <| rg zbb4.eq_1 <| xg zbb5.eq_1 <| xg zbb6.eq_1 <| xg zbb7.eq_1 <| xg zbb8.eq_1 <| xg zbb9.eq_1 <| rg zbca.eq_1 <| xg zbcb.eq_1 <| xg zbcc.eq_1 <| xg zbcd.eq_1 <| rg zbce.eq_1 <| xg zbcf.eq_1 <| xg zbcg.eq_1 <| xg zbch.eq_1 <| xg zbci.eq_1 <| xg zbcj.eq_1 <| rg zbck.eq_1 <| xg zbcl.eq_1 <| xg zbcm.eq_1 <| @ex_of T _ _ zbcn.eq_1
def zbls := @vd T F.zkv zbcp [] zbf2 rfl rfl
theorem zblt : zbcp.res = [.cell 0 256 true] ∧ zbcp.rets = [[]] ∧ zbcp.body = (.seq (.reg zbbt) zbcn) := ⟨rfl, rfl, rfl⟩
def zblu := rg zbcq.eq_1 <| rg zbcr.eq_1 <| rg zbcs.eq_1 <| rg zbct.eq_1 <| xg zbcu.eq_1 <| xg zbcv.eq_1 <| @ex_of T _ _ zbcw.eq_1
def zblv := @vi T F.zmk zbcy zbf3 rfl
theorem zblw {n : Nat} {H : Hp} {vs : List V} : (orc T (n + 1)).inl F.zmk vs H = finI H.length false [.tmp 2, .tmp 3, .tmp 4] (unw T (orc T n) n H.length [] (exec T (orc T n) n H.length (.seq (.reg zbcq) zbcw) (params 0 vs) H)) := by rw [zht, zbf3, y4, zhr]; rfl
def zblx := rg zbcz.eq_1 <| rg zbc0.eq_1 <| rg zbc1.eq_1 <| rg zbc2.eq_1 <| rg zbc3.eq_1 <| rg zbc4.eq_1 <| xg zbc5.eq_1 <| xg zbc6.eq_1 <| rg zbc7.eq_1 <| xg zbc8.eq_1 <| xg zbc9.eq_1 <| xg zbda.eq_1 <| xg zbdb.eq_1 <| xg zbdc.eq_1 <| rg zbdd.eq_1 <| xg zbde.eq_1 <| @ex_of T _ _ zbdf.eq_1
def zbly := @vi T F.zml zbdh zbf4 rfl
theorem zblz {n : Nat} {H : Hp} {vs : List V} : (orc T (n + 1)).inl F.zml vs H = finI H.length false [.tmp 4] (unw T (orc T n) n H.length [] (exec T (orc T n) n H.length (.seq (.reg zbcz) zbdf) (params 0 vs) H)) := by rw [zht, zbf4, y4, zhr]; rfl
def zbl0 := rg zbdi.eq_1 <| rg zbdj.eq_1 <| @ex_of T _ _ zbdk.eq_1
def zbl1 := @vd T F.zk7 zbdm [0] zbf5 rfl rfl
theorem zbl2 : zbdm.res = [.tmp 2] ∧ zbdm.rets = [[]] ∧ zbdm.body = (.seq (.reg zbdi) zbdk) := ⟨rfl, rfl, rfl⟩
def zbl3 := rg zbdn.eq_1 <| rg zbdo.eq_1 <| rg zbdp.eq_1 <| rg zbdq.eq_1 <| rg zbdr.eq_1 <| xg zbds.eq_1 <| xg zbdt.eq_1 <| xg zbdu.eq_1 <| @ex_of T _ _ zbdv.eq_1
def zbl4 := @vi T F.zmm zbdx zbf6 rfl
theorem zbl5 {n : Nat} {H : Hp} {vs : List V} : (orc T (n + 1)).inl F.zmm vs H = finI H.length false [.tmp 4] (unw T (orc T n) n H.length [] (exec T (orc T n) n H.length (.seq (.reg zbdn) zbdv) (params 0 vs) H)) := by rw [zht, zbf6, y4, zhr]; rfl
def zbl6 := rg zbdy.eq_1 <| rg zbdz.eq_1 <| @ex_of T _ _ zbd0.eq_1
def zbl7 := @vi T F.zmn zbd2 zbf7 rfl
theorem zbl8 {n : Nat} {H : Hp} {vs : List V} : (orc T (n + 1)).inl F.zmn vs H = finI H.length false [.tmp 1] (unw T (orc T n) n H.length [] (exec T (orc T n) n H.length (.seq (.reg zbdy) zbd0) (params 0 vs) H)) := by rw [zht, zbf7, y4, zhr]; rfl
def zbl9 := rg zbd3.eq_1 <| rg zbd4.eq_1 <| @ex_of T _ _ zbd5.eq_1
def zbma := @vi T F.zmo zbd7 zbf8 rfl
theorem zbmb {n : Nat} {H : Hp} {vs : List V} : (orc T (n + 1)).inl F.zmo vs H = finI H.length false [.tmp 1] (unw T (orc T n) n H.length [] (exec T (orc T n) n H.length (.seq (.reg zbd3) zbd5) (params 0 vs) H)) := by rw [zht, zbf8, y4, zhr]; rfl
end Go.Dvm.C
