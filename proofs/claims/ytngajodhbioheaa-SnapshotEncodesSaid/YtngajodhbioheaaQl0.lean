/- What each piece of the code comes to: part 1. -/
import Derived.Test.YtngajodhbioheaaQc0
set_option linter.all false
set_option maxRecDepth 100000
set_option maxHeartbeats 4000000
namespace Go.Dvm.C
open Go Go.Dvm
def ke := And.intro @Ow.enc.eq_1 <| And.intro @Sl.enc.eq_1 <| And.intro @I.zji.enc.eq_1 <| And.intro @I.zjj.enc.eq_1 <| And.intro @I.zjk.enc.eq_1 <| And.intro @I.zjl.enc.eq_1 <| And.intro @I.zjn.enc.eq_1 <| And.intro @I.zjm.enc.eq_1 <| And.intro @arrEnc.eq_1 <| @I.zjo.enc.eq_1
def kf := And.intro @ke @kn
def tab : List (Nat × MFun) := [(10, zm5), (18, zm7), (22, zm9), (23, znq), (25, zns), (28, znu), (30, zn8), (31, zoc), (37, zos), (38, zpo), (39, zpq), (40, zp0), (42, zp2), (44, zp4), (50, zp6), (52, zqr), (53, zq1), (54, zq3), (55, zrv), (57, zr9), (62, zsb), (63, zsd), (66, zsp), (67, zs9), (68, ztb), (69, ztd), (70, ztn), (71, ztp), (72, zuf), (74, zuh), (75, zuj), (76, zur), (79, zu5), (80, zvh), (81, zvj), (82, zvl), (83, zvn), (84, zvp), (85, zv7), (86, zwh), (87, zwj), (88, zw7), (91, zxy), (95, zx0), (96, zx2), (97, zx4), (98, zyg), (99, zyi), (100, zyn), (101, zy8), (102, zz6), (103, z06), (104, z11), (109, z16), (116, z2j), (117, z2o), (126, z23), (127, z3c), (128, z3t), (134, z4g), (135, z4z), (136, z5k), (137, z6h), (138, z62), (139, z7f), (142, z7t), (145, z8c), (146, z8t), (147, z84), (148, z9h), (150, z99), (163, zbaw), (166, zba5), (167, zbb2)]
abbrev T : Nat → Option MFun := look tab
theorem zbb3 : T F.zmn = some zm5 := rfl
theorem zbb4 : T F.zkh = some zm7 := rfl
theorem zbb5 : T F.zjz = some zm9 := rfl
theorem zbb6 : T F.zk4 = some znq := rfl
theorem zbb7 : T F.zkf = some zns := rfl
theorem zbb8 : T F.zlz = some znu := rfl
theorem zbb9 : T F.zl3 = some zn8 := rfl
theorem zbca : T F.zj9 = some zoc := rfl
theorem zbcb : T F.zly = some zos := rfl
theorem zbcc : T F.zmm = some zpo := rfl
theorem zbcd : T F.zkp = some zpq := rfl
theorem zbce : T F.zko = some zp0 := rfl
theorem zbcf : T F.zkc = some zp2 := rfl
theorem zbcg : T F.zkg = some zp4 := rfl
theorem zbch : T F.zj0 = some zp6 := rfl
theorem zbci : T F.zjv = some zqr := rfl
theorem zbcj : T F.zjy = some zq1 := rfl
theorem zbck : T F.zkr = some zq3 := rfl
theorem zbcl : T F.zk1 = some zrv := rfl
theorem zbcm : T F.zke = some zr9 := rfl
theorem zbcn : T F.zlj = some zsb := rfl
theorem zbco : T F.zlp = some zsd := rfl
theorem zbcp : T F.zl1 = some zsp := rfl
theorem zbcq : T F.zmo = some zs9 := rfl
theorem zbcr : T F.zj1 = some ztb := rfl
theorem zbcs : T F.zmp = some ztd := rfl
theorem zbct : T F.zmq = some ztn := rfl
theorem zbcu : T F.zmr = some ztp := rfl
theorem zbcv : T F.zj2 = some zuf := rfl
theorem zbcw : T F.zl6 = some zuh := rfl
theorem zbcx : T F.zl8 = some zuj := rfl
theorem zbcy : T F.zmg = some zur := rfl
theorem zbcz : T F.zkb = some zu5 := rfl
theorem zbc0 : T F.zlu = some zvh := rfl
theorem zbc1 : T F.zlh = some zvj := rfl
theorem zbc2 : T F.zlv = some zvl := rfl
theorem zbc3 : T F.zld = some zvn := rfl
theorem zbc4 : T F.zla = some zvp := rfl
theorem zbc5 : T F.zmk = some zv7 := rfl
theorem zbc6 : T F.zmf = some zwh := rfl
theorem zbc7 : T F.zmd = some zwj := rfl
theorem zbc8 : T F.zkm = some zw7 := rfl
theorem zbc9 : T F.zlo = some zxy := rfl
theorem zbda : T F.zms = some zx0 := rfl
theorem zbdb : T F.zjq = some zx2 := rfl
theorem zbdc : T F.zjp = some zx4 := rfl
theorem zbdd : T F.zjs = some zyg := rfl
theorem zbde : T F.zjw = some zyi := rfl
theorem zbdf : T F.zkq = some zyn := rfl
theorem zbdg : T F.zks = some zy8 := rfl
theorem zbdh : T F.zku = some zz6 := rfl
theorem zbdi : T F.zky = some z06 := rfl
theorem zbdj : T F.zk0 = some z11 := rfl
theorem zbdk : T F.zle = some z16 := rfl
theorem zbdl : T F.zlg = some z2j := rfl
theorem zbdm : T F.zli = some z2o := rfl
theorem zbdn : T F.zl5 = some z23 := rfl
theorem zbdo : T F.zl7 = some z3c := rfl
theorem zbdp : T F.zmc = some z3t := rfl
theorem zbdq : T F.zls = some z4g := rfl
theorem zbdr : T F.zlc = some z4z := rfl
theorem zbds : T F.zk9 = some z5k := rfl
theorem zbdt : T F.zmi = some z6h := rfl
theorem zbdu : T F.zkj = some z62 := rfl
theorem zbdv : T F.zkk = some z7f := rfl
theorem zbdw : T F.zmt = some z7t := rfl
theorem zbdx : T F.zmu = some z8c := rfl
theorem zbdy : T F.zkt = some z8t := rfl
theorem zbdz : T F.zkx = some z84 := rfl
theorem zbd0 : T F.zkw = some z9h := rfl
theorem zbd1 : T F.zkz = some z99 := rfl
theorem zbd2 : T F.zma = some zbaw := rfl
theorem zbd3 : T F.zlq = some zba5 := rfl
theorem zbd4 : T F.zk7 = some zbb2 := rfl
def rg {P : Prop} {c c' : List MO} (h : c = c') (p : P) := ra (T := T) h p
def xg {P : Prop} {c c' : MC} (h : c = c') (p : P) := xa (T := T) h p
def zbd5 := rg o_10_1.eq_1 <| rg o_10_2.eq_1 <| rg o_10_3.eq_1 <| rg o_10_4.eq_1 <| rg o_10_5.eq_1 <| rg o_10_6.eq_1 <| xg c_10_7.eq_1 <| rg o_10_8.eq_1 <| rg o_10_9.eq_1 <| rg zmw.eq_1 <| And.intro (@dr_of T _ _ [(13, 12), (21, 20), (22, 20)] zmw.eq_1 (by decide)) <| xg zmx.eq_1 <| xg zmy.eq_1 <| xg zmz.eq_1 <| xg zm0.eq_1 <| xg zm1.eq_1 <| xg zm2.eq_1 <| @ex_of T _ _ zm3.eq_1
def zbd6 := @vd T F.zmn zm5 [0, 0] zbb3 rfl rfl
theorem zbd7 : zm5.res = [.tmp 4] ∧ zm5.rets = [[]] ∧ zm5.body = (.seq (.reg o_10_1) zm3) := ⟨rfl, rfl, rfl⟩
def zbd8 := rg o_18_1.eq_1 <| rg o_18_2.eq_1 <| @ex_of T _ _ c_18_3.eq_1
def zbd9 := @vd T F.zkh zm7 [0] zbb4 rfl rfl
theorem zbea : zm7.res = [.tmp 2] ∧ zm7.rets = [[]] ∧ zm7.body = (.seq (.reg o_18_1) c_18_3) := ⟨rfl, rfl, rfl⟩
def zbeb := rg o_22_1.eq_1 <| rg o_22_2.eq_1 <| @ex_of T _ _ c_22_3.eq_1
def zbec := @vd T F.zjz zm9 [0] zbb5 rfl rfl
theorem zbed : zm9.res = [.tmp 2] ∧ zm9.rets = [[]] ∧ zm9.body = (.seq (.reg o_22_1) c_22_3) := ⟨rfl, rfl, rfl⟩
def zbee := rg o_23_1.eq_1 <| rg o_23_2.eq_1 <| rg o_23_3.eq_1 <| rg o_23_4.eq_1 <| rg o_23_5.eq_1 <| rg o_23_6.eq_1 <| rg o_23_7.eq_1 <| rg o_23_8.eq_1 <| xg c_23_9.eq_1 <| xg zna.eq_1 <| rg znb.eq_1 <| rg znc.eq_1 <| And.intro (@df_of T _ _ [(1, 6)] znc.eq_1) <| xg znd.eq_1 <| xg zne.eq_1 <| xg znf.eq_1 <| rg zng.eq_1 <| xg znh.eq_1 <| xg zni.eq_1 <| xg znj.eq_1 <| xg znk.eq_1 <| xg znl.eq_1 <| rg znm.eq_1 <| xg znn.eq_1 <| @ex_of T _ _ zno.eq_1
def zbef := @vd T F.zk4 znq [0, 0] zbb6 rfl rfl
theorem zbeg : znq.res = [.cell 4 6 true, .tmp 5] ∧ znq.rets = [[], []] ∧ znq.body = (.seq (.reg o_23_1) zno) := ⟨rfl, rfl, rfl⟩
def zbeh := rg o_25_1.eq_1 <| rg o_25_2.eq_1 <| @ex_of T _ _ c_25_3.eq_1
def zbei := @vd T F.zkf zns [0, 0] zbb7 rfl rfl
theorem zbej : zns.res = [.tmp 4] ∧ zns.rets = [[]] ∧ zns.body = (.seq (.reg o_25_1) c_25_3) := ⟨rfl, rfl, rfl⟩
def zbek := rg o_28_1.eq_1 <| rg o_28_2.eq_1 <| rg o_28_3.eq_1 <| rg o_28_4.eq_1 <| xg c_28_5.eq_1 <| xg c_28_6.eq_1 <| @ex_of T _ _ c_28_7.eq_1
def zbel := @vd T F.zlz znu [] zbb8 rfl rfl
theorem zbem : znu.res = [.tmp 0] ∧ znu.rets = [[]] ∧ znu.body = (.seq (.reg o_28_1) c_28_7) := ⟨rfl, rfl, rfl⟩
def zben := rg o_30_1.eq_1 <| rg o_30_2.eq_1 <| rg o_30_3.eq_1 <| rg o_30_4.eq_1 <| xg c_30_5.eq_1 <| rg o_30_6.eq_1 <| rg o_30_7.eq_1 <| xg c_30_8.eq_1 <| rg o_30_9.eq_1 <| rg znv.eq_1 <| xg znw.eq_1 <| rg znx.eq_1 <| xg zny.eq_1 <| xg znz.eq_1 <| xg zn0.eq_1 <| xg zn1.eq_1 <| rg zn2.eq_1 <| xg zn3.eq_1 <| xg zn4.eq_1 <| xg zn5.eq_1 <| @ex_of T _ _ zn6.eq_1
def zbeo := @vd T F.zl3 zn8 [0, 0] zbb9 rfl rfl
theorem zbep : zn8.res = [.tmp 4] ∧ zn8.rets = [[]] ∧ zn8.body = (.seq (.reg o_30_1) zn6) := ⟨rfl, rfl, rfl⟩
def zbeq := rg o_31_1.eq_1 <| rg o_31_2.eq_1 <| rg o_31_3.eq_1 <| rg o_31_4.eq_1 <| rg o_31_5.eq_1 <| xg c_31_6.eq_1 <| rg o_31_7.eq_1 <| xg c_31_8.eq_1 <| xg c_31_9.eq_1 <| xg zn9.eq_1 <| @ex_of T _ _ zoa.eq_1
def zber := @vd T F.zj9 zoc [0, 0] zbca rfl rfl
theorem zbes : zoc.res = [.tmp 4] ∧ zoc.rets = [[4]] ∧ zoc.body = (.seq (.reg o_31_1) zoa) := ⟨rfl, rfl, rfl⟩
def zbet := rg o_37_1.eq_1 <| rg o_37_2.eq_1 <| rg o_37_3.eq_1 <| xg c_37_4.eq_1 <| rg o_37_5.eq_1 <| rg o_37_6.eq_1 <| And.intro (@df_of T _ _ [(3, 0), (3, 1), (6, 0), (6, 1), (6, 4)] o_37_6.eq_1) <| rg o_37_7.eq_1 <| rg o_37_8.eq_1 <| xg c_37_9.eq_1 <| rg zod.eq_1 <| rg zoe.eq_1 <| rg zof.eq_1 <| xg zog.eq_1 <| xg zoh.eq_1 <| xg zoi.eq_1 <| xg zoj.eq_1 <| rg zok.eq_1 <| xg zol.eq_1 <| xg zom.eq_1 <| xg zon.eq_1 <| xg zoo.eq_1 <| xg zop.eq_1 <| @ex_of T _ _ zoq.eq_1
def zbeu := @vd T F.zly zos [0] zbcb rfl rfl
theorem zbev : zos.res = [.tmp 2, .tmp 3] ∧ zos.rets = [[2], []] ∧ zos.body = (.seq (.reg o_37_1) zoq) := ⟨rfl, rfl, rfl⟩
def zbew := rg o_38_1.eq_1 <| rg o_38_2.eq_1 <| rg o_38_3.eq_1 <| rg o_38_4.eq_1 <| xg c_38_5.eq_1 <| rg o_38_6.eq_1 <| rg o_38_7.eq_1 <| rg o_38_8.eq_1 <| rg o_38_9.eq_1 <| rg zot.eq_1 <| rg zou.eq_1 <| rg zov.eq_1 <| rg zow.eq_1 <| xg zox.eq_1 <| rg zoy.eq_1 <| rg zoz.eq_1 <| rg zo0.eq_1 <| xg zo1.eq_1 <| rg zo2.eq_1 <| rg zo3.eq_1 <| xg zo4.eq_1 <| xg zo5.eq_1 <| xg zo6.eq_1 <| rg zo7.eq_1 <| xg zo8.eq_1 <| xg zo9.eq_1 <| xg zpa.eq_1 <| xg zpb.eq_1 <| rg zpc.eq_1 <| xg zpd.eq_1 <| xg zpe.eq_1 <| xg zpf.eq_1 <| xg zpg.eq_1 <| xg zph.eq_1 <| xg zpi.eq_1 <| xg zpj.eq_1 <| xg zpk.eq_1 <| xg zpl.eq_1 <| @ex_of T _ _ zpm.eq_1
def zbex := @vd T F.zmm zpo [0] zbcc rfl rfl
theorem zbey : zpo.res = [.tmp 2, .tmp 3] ∧ zpo.rets = [[2], []] ∧ zpo.body = (.seq (.reg o_38_1) zpm) := ⟨rfl, rfl, rfl⟩
def zbez := rg o_39_1.eq_1 <| rg o_39_2.eq_1 <| rg o_39_3.eq_1 <| rg o_39_4.eq_1 <| xg c_39_5.eq_1 <| xg c_39_6.eq_1 <| @ex_of T _ _ c_39_7.eq_1
def zbe0 := @vd T F.zkp zpq [0] zbcd rfl rfl
theorem zbe1 : zpq.res = [.tmp 2] ∧ zpq.rets = [[]] ∧ zpq.body = (.seq (.reg o_39_1) c_39_7) := ⟨rfl, rfl, rfl⟩
def zbe2 := rg o_40_1.eq_1 <| rg o_40_2.eq_1 <| rg o_40_3.eq_1 <| xg c_40_4.eq_1 <| rg o_40_5.eq_1 <| rg o_40_6.eq_1 <| rg o_40_7.eq_1 <| xg c_40_8.eq_1 <| xg c_40_9.eq_1 <| rg zpr.eq_1 <| xg zps.eq_1 <| xg zpt.eq_1 <| xg zpu.eq_1 <| xg zpv.eq_1 <| rg zpw.eq_1 <| xg zpx.eq_1 <| @ex_of T _ _ zpy.eq_1
def zbe3 := @vd T F.zko zp0 [0] zbce rfl rfl
theorem zbe4 : zp0.res = [.tmp 2] ∧ zp0.rets = [[]] ∧ zp0.body = (.seq (.reg o_40_1) zpy) := ⟨rfl, rfl, rfl⟩
def zbe5 := rg o_42_1.eq_1 <| rg o_42_2.eq_1 <| @ex_of T _ _ c_42_3.eq_1
def zbe6 := @vd T F.zkc zp2 [0, 0] zbcf rfl rfl
theorem zbe7 : zp2.res = [.tmp 4] ∧ zp2.rets = [[]] ∧ zp2.body = (.seq (.reg o_42_1) c_42_3) := ⟨rfl, rfl, rfl⟩
def zbe8 := rg o_44_1.eq_1 <| rg o_44_2.eq_1 <| @ex_of T _ _ c_44_3.eq_1
def zbe9 := @vd T F.zkg zp4 [0] zbcg rfl rfl
theorem zbfa : zp4.res = [.tmp 2] ∧ zp4.rets = [[]] ∧ zp4.body = (.seq (.reg o_44_1) c_44_3) := ⟨rfl, rfl, rfl⟩
def zbfb := rg o_50_1.eq_1 <| rg o_50_2.eq_1 <| rg o_50_3.eq_1 <| xg c_50_4.eq_1 <| rg o_50_5.eq_1 <| xg c_50_6.eq_1 <| @ex_of T _ _ c_50_7.eq_1
def zbfc := @vd T F.zj0 zp6 [0] zbch rfl rfl
theorem zbfd : zp6.res = [.tmp 2] ∧ zp6.rets = [[2]] ∧ zp6.body = (.seq (.reg o_50_1) c_50_7) := ⟨rfl, rfl, rfl⟩
def zbfe := rg o_52_1.eq_1 <| rg o_52_2.eq_1 <| rg o_52_3.eq_1 <| xg c_52_4.eq_1 <| rg o_52_5.eq_1 <| rg o_52_6.eq_1 <| rg o_52_7.eq_1 <| rg o_52_8.eq_1 <| xg c_52_9.eq_1 <| rg zp7.eq_1 <| rg zp8.eq_1 <| rg zp9.eq_1 <| xg zqa.eq_1 <| rg zqb.eq_1 <| rg zqc.eq_1 <| rg zqd.eq_1 <| rg zqe.eq_1 <| rg zqf.eq_1 <| xg zqg.eq_1 <| xg zqh.eq_1 <| xg zqi.eq_1 <| xg zqj.eq_1 <| xg zqk.eq_1 <| rg zql.eq_1 <| xg zqm.eq_1 <| xg zqn.eq_1 <| xg zqo.eq_1 <| @ex_of T _ _ zqp.eq_1
def zbff := @vd T F.zjv zqr [0] zbci rfl rfl
theorem zbfg : zqr.res = [.tmp 2] ∧ zqr.rets = [[]] ∧ zqr.body = (.seq (.reg o_52_1) zqp) := ⟨rfl, rfl, rfl⟩
def zbfh := rg o_53_1.eq_1 <| rg o_53_2.eq_1 <| rg o_53_3.eq_1 <| rg o_53_4.eq_1 <| rg o_53_5.eq_1 <| rg o_53_6.eq_1 <| xg c_53_7.eq_1 <| xg c_53_8.eq_1 <| rg o_53_9.eq_1 <| xg zqs.eq_1 <| xg zqt.eq_1 <| xg zqu.eq_1 <| xg zqv.eq_1 <| xg zqw.eq_1 <| rg zqx.eq_1 <| xg zqy.eq_1 <| @ex_of T _ _ zqz.eq_1
def zbfi := @vd T F.zjy zq1 [0] zbcj rfl rfl
theorem zbfj : zq1.res = [.tmp 2] ∧ zq1.rets = [[]] ∧ zq1.body = (.seq (.reg o_53_1) zqz) := ⟨rfl, rfl, rfl⟩
def zbfk := rg o_54_1.eq_1 <| rg o_54_2.eq_1 <| @ex_of T _ _ c_54_3.eq_1
def zbfl := @vd T F.zkr zq3 [0] zbck rfl rfl
theorem zbfm : zq3.res = [.tmp 2] ∧ zq3.rets = [[]] ∧ zq3.body = (.seq (.reg o_54_1) c_54_3) := ⟨rfl, rfl, rfl⟩
def zbfn := rg o_55_1.eq_1 <| rg o_55_2.eq_1 <| rg o_55_3.eq_1 <| rg o_55_4.eq_1 <| rg o_55_5.eq_1 <| rg o_55_6.eq_1 <| rg o_55_7.eq_1 <| rg o_55_8.eq_1 <| rg o_55_9.eq_1 <| xg zq4.eq_1 <| rg zq5.eq_1 <| xg zq6.eq_1 <| xg zq7.eq_1 <| xg zq8.eq_1 <| xg zq9.eq_1 <| xg zra.eq_1 <| rg zrb.eq_1 <| rg zrc.eq_1 <| rg zrd.eq_1 <| xg zre.eq_1 <| rg zrf.eq_1 <| rg zrg.eq_1 <| rg zrh.eq_1 <| xg zri.eq_1 <| rg zrj.eq_1 <| rg zrk.eq_1 <| rg zrl.eq_1 <| xg zrm.eq_1 <| xg zrn.eq_1 <| xg zro.eq_1 <| xg zrp.eq_1 <| rg zrq.eq_1 <| xg zrr.eq_1 <| xg zrs.eq_1 <| @ex_of T _ _ zrt.eq_1
def zbfo := @vd T F.zk1 zrv [0, 0] zbcl rfl rfl
theorem zbfp : zrv.res = [.cell 4 4 true, .tmp 5] ∧ zrv.rets = [[], []] ∧ zrv.body = (.seq (.reg o_55_1) zrt) := ⟨rfl, rfl, rfl⟩
def zbfq := rg o_57_1.eq_1 <| rg o_57_2.eq_1 <| rg o_57_3.eq_1 <| xg c_57_4.eq_1 <| rg o_57_5.eq_1 <| rg o_57_6.eq_1 <| rg o_57_7.eq_1 <| rg o_57_8.eq_1 <| rg o_57_9.eq_1 <| xg zrw.eq_1 <| xg zrx.eq_1 <| rg zry.eq_1 <| xg zrz.eq_1 <| xg zr0.eq_1 <| xg zr1.eq_1 <| xg zr2.eq_1 <| xg zr3.eq_1 <| rg zr4.eq_1 <| xg zr5.eq_1 <| xg zr6.eq_1 <| @ex_of T _ _ zr7.eq_1
def zbfr := @vd T F.zke zr9 [0, 0] zbcm rfl rfl
theorem zbfs : zr9.res = [.tmp 4] ∧ zr9.rets = [[]] ∧ zr9.body = (.seq (.reg o_57_1) zr7) := ⟨rfl, rfl, rfl⟩
def zbft := rg o_62_1.eq_1 <| rg o_62_2.eq_1 <| @ex_of T _ _ c_62_3.eq_1
def zbfu := @vd T F.zlj zsb [2, 0] zbcn rfl rfl
theorem zbfv : zsb.res = [.tmp 4] ∧ zsb.rets = [[2]] ∧ zsb.body = (.seq (.reg o_62_1) c_62_3) := ⟨rfl, rfl, rfl⟩
def zbfw := rg o_63_1.eq_1 <| rg o_63_2.eq_1 <| rg o_63_3.eq_1 <| xg c_63_4.eq_1 <| rg o_63_5.eq_1 <| rg o_63_6.eq_1 <| xg c_63_7.eq_1 <| xg c_63_8.eq_1 <| @ex_of T _ _ c_63_9.eq_1
def zbfx := @vd T F.zlp zsd [0] zbco rfl rfl
theorem zbfy : zsd.res = [.tmp 2, .tmp 3] ∧ zsd.rets = [[2], []] ∧ zsd.body = (.seq (.reg o_63_1) c_63_9) := ⟨rfl, rfl, rfl⟩
def zbfz := rg o_66_1.eq_1 <| rg o_66_2.eq_1 <| rg o_66_3.eq_1 <| xg c_66_4.eq_1 <| rg o_66_5.eq_1 <| rg o_66_6.eq_1 <| xg c_66_7.eq_1 <| rg o_66_8.eq_1 <| rg o_66_9.eq_1 <| xg zse.eq_1 <| rg zsf.eq_1 <| xg zsg.eq_1 <| xg zsh.eq_1 <| xg zsi.eq_1 <| xg zsj.eq_1 <| rg zsk.eq_1 <| xg zsl.eq_1 <| xg zsm.eq_1 <| @ex_of T _ _ zsn.eq_1
def zbf0 := @vd T F.zl1 zsp [0, 0] zbcp rfl rfl
theorem zbf1 : zsp.res = [.tmp 4] ∧ zsp.rets = [[]] ∧ zsp.body = (.seq (.reg o_66_1) zsn) := ⟨rfl, rfl, rfl⟩
def zbf2 := rg o_67_1.eq_1 <| rg o_67_2.eq_1 <| rg o_67_3.eq_1 <| rg o_67_4.eq_1 <| xg c_67_5.eq_1 <| rg o_67_6.eq_1 <| rg o_67_7.eq_1 <| xg c_67_8.eq_1 <| rg o_67_9.eq_1 <| rg zsq.eq_1 <| rg zsr.eq_1 <| rg zss.eq_1 <| xg zst.eq_1 <| xg zsu.eq_1 <| xg zsv.eq_1 <| rg zsw.eq_1 <| xg zsx.eq_1 <| xg zsy.eq_1 <| xg zsz.eq_1 <| xg zs0.eq_1 <| rg zs1.eq_1 <| rg zs2.eq_1 <| xg zs3.eq_1 <| xg zs4.eq_1 <| xg zs5.eq_1 <| xg zs6.eq_1 <| @ex_of T _ _ zs7.eq_1
def zbf3 := @vi T F.zmo zs9 zbcq rfl
theorem zbf4 {n : Nat} {H : Hp} {vs : List V} : (orc T (n + 1)).inl F.zmo vs H = finI H.length true [.tmp 4] (unw T (orc T n) n H.length [] (exec T (orc T n) n H.length (.seq (.reg o_67_1) zs7) (params 0 vs) H)) := by rw [zht, zbcq, y5, zhr]; rfl
def zbf5 := rg o_68_1.eq_1 <| rg o_68_2.eq_1 <| rg o_68_3.eq_1 <| xg c_68_4.eq_1 <| rg o_68_5.eq_1 <| xg c_68_6.eq_1 <| @ex_of T _ _ c_68_7.eq_1
def zbf6 := @vd T F.zj1 ztb [0] zbcr rfl rfl
theorem zbf7 : ztb.res = [.tmp 2] ∧ ztb.rets = [[4]] ∧ ztb.body = (.seq (.reg o_68_1) c_68_7) := ⟨rfl, rfl, rfl⟩
def zbf8 := rg o_69_1.eq_1 <| rg o_69_2.eq_1 <| @ex_of T _ _ c_69_3.eq_1
def zbf9 := @vi T F.zmp ztd zbcs rfl
theorem zbga {n : Nat} {H : Hp} {vs : List V} : (orc T (n + 1)).inl F.zmp vs H = finI H.length false [.tmp 3] (unw T (orc T n) n H.length [] (exec T (orc T n) n H.length (.seq (.reg o_69_1) c_69_3) (params 0 vs) H)) := by rw [zht, zbcs, y5, zhr]; rfl
def zbgb := rg o_70_1.eq_1 <| rg o_70_2.eq_1 <| rg o_70_3.eq_1 <| rg o_70_4.eq_1 <| rg o_70_5.eq_1 <| rg o_70_6.eq_1 <| xg c_70_7.eq_1 <| xg c_70_8.eq_1 <| rg o_70_9.eq_1 <| xg zte.eq_1 <| xg ztf.eq_1 <| xg ztg.eq_1 <| xg zth.eq_1 <| xg zti.eq_1 <| rg ztj.eq_1 <| xg ztk.eq_1 <| @ex_of T _ _ ztl.eq_1
def zbgc := @vi T F.zmq ztn zbct rfl
theorem zbgd {n : Nat} {H : Hp} {vs : List V} : (orc T (n + 1)).inl F.zmq vs H = finI H.length false [.tmp 4] (unw T (orc T n) n H.length [] (exec T (orc T n) n H.length (.seq (.reg o_70_1) ztl) (params 0 vs) H)) := by rw [zht, zbct, y5, zhr]; rfl
def zbge := rg o_71_1.eq_1 <| rg o_71_2.eq_1 <| @ex_of T _ _ c_71_3.eq_1
def zbgf := @vi T F.zmr ztp zbcu rfl
theorem zbgg {n : Nat} {H : Hp} {vs : List V} : (orc T (n + 1)).inl F.zmr vs H = finI H.length false [.tmp 3] (unw T (orc T n) n H.length [] (exec T (orc T n) n H.length (.seq (.reg o_71_1) c_71_3) (params 0 vs) H)) := by rw [zht, zbcu, y5, zhr]; rfl
def zbgh := rg o_72_1.eq_1 <| rg o_72_2.eq_1 <| rg o_72_3.eq_1 <| rg o_72_4.eq_1 <| rg o_72_5.eq_1 <| xg c_72_6.eq_1 <| rg o_72_7.eq_1 <| rg o_72_8.eq_1 <| rg o_72_9.eq_1 <| xg ztq.eq_1 <| rg ztr.eq_1 <| rg zts.eq_1 <| xg ztt.eq_1 <| xg ztu.eq_1 <| xg ztv.eq_1 <| xg ztw.eq_1 <| rg ztx.eq_1 <| rg zty.eq_1 <| xg ztz.eq_1 <| xg zt0.eq_1 <| xg zt1.eq_1 <| rg zt2.eq_1 <| xg zt3.eq_1 <| xg zt4.eq_1 <| xg zt5.eq_1 <| xg zt6.eq_1 <| xg zt7.eq_1 <| xg zt8.eq_1 <| xg zt9.eq_1 <| xg zua.eq_1 <| xg zub.eq_1 <| xg zuc.eq_1 <| @ex_of T _ _ zud.eq_1
def zbgi := @vd T F.zj2 zuf [4, 0, 0] zbcv rfl rfl
theorem zbgj : zuf.res = [.tmp 6] ∧ zuf.rets = [[4]] ∧ zuf.body = (.seq (.reg o_72_1) zud) := ⟨rfl, rfl, rfl⟩
def zbgk := rg o_74_1.eq_1 <| rg o_74_2.eq_1 <| rg o_74_3.eq_1 <| rg o_74_4.eq_1 <| xg c_74_5.eq_1 <| rg o_74_6.eq_1 <| xg c_74_7.eq_1 <| xg c_74_8.eq_1 <| @ex_of T _ _ c_74_9.eq_1
def zbgl := @vd T F.zl6 zuh [0, 0] zbcw rfl rfl
theorem zbgm : zuh.res = [.tmp 4] ∧ zuh.rets = [[2]] ∧ zuh.body = (.seq (.reg o_74_1) c_74_9) := ⟨rfl, rfl, rfl⟩
def zbgn := rg o_75_1.eq_1 <| rg o_75_2.eq_1 <| rg o_75_3.eq_1 <| xg c_75_4.eq_1 <| @ex_of T _ _ c_75_5.eq_1
def zbgo := @vd T F.zl8 zuj [0, 0] zbcx rfl rfl
theorem zbgp : zuj.res = [.tmp 4] ∧ zuj.rets = [[2]] ∧ zuj.body = (.seq (.reg o_75_1) c_75_5) := ⟨rfl, rfl, rfl⟩
def zbgq := rg o_76_1.eq_1 <| rg o_76_2.eq_1 <| rg o_76_3.eq_1 <| xg c_76_4.eq_1 <| rg o_76_5.eq_1 <| rg o_76_6.eq_1 <| rg o_76_7.eq_1 <| rg o_76_8.eq_1 <| rg o_76_9.eq_1 <| xg zuk.eq_1 <| xg zul.eq_1 <| xg zum.eq_1 <| xg zun.eq_1 <| xg zuo.eq_1 <| @ex_of T _ _ zup.eq_1
def zbgr := @vd T F.zmg zur [0] zbcy rfl rfl
theorem zbgs : zur.res = [.tmp 2, .tmp 3] ∧ zur.rets = [[2], []] ∧ zur.body = (.seq (.reg o_76_1) zup) := ⟨rfl, rfl, rfl⟩
def zbgt := rg o_79_1.eq_1 <| rg o_79_2.eq_1 <| rg o_79_3.eq_1 <| xg c_79_4.eq_1 <| rg o_79_5.eq_1 <| rg o_79_6.eq_1 <| rg o_79_7.eq_1 <| rg o_79_8.eq_1 <| rg o_79_9.eq_1 <| xg zus.eq_1 <| xg zut.eq_1 <| rg zuu.eq_1 <| xg zuv.eq_1 <| xg zuw.eq_1 <| xg zux.eq_1 <| xg zuy.eq_1 <| xg zuz.eq_1 <| rg zu0.eq_1 <| xg zu1.eq_1 <| xg zu2.eq_1 <| @ex_of T _ _ zu3.eq_1
def zbgu := @vd T F.zkb zu5 [0, 0] zbcz rfl rfl
theorem zbgv : zu5.res = [.tmp 4] ∧ zu5.rets = [[]] ∧ zu5.body = (.seq (.reg o_79_1) zu3) := ⟨rfl, rfl, rfl⟩
def zbgw := rg o_80_1.eq_1 <| rg o_80_2.eq_1 <| rg o_80_3.eq_1 <| And.intro (@df_of T _ _ [(6, 2), (6, 4), (7, 2), (7, 4)] o_80_3.eq_1) <| rg o_80_4.eq_1 <| rg o_80_5.eq_1 <| rg o_80_6.eq_1 <| rg o_80_7.eq_1 <| And.intro (@df_of T _ _ [(5, 3), (8, 3), (8, 6)] o_80_7.eq_1) <| xg c_80_8.eq_1 <| rg o_80_9.eq_1 <| xg zu6.eq_1 <| xg zu7.eq_1 <| xg zu8.eq_1 <| xg zu9.eq_1 <| xg zva.eq_1 <| rg zvb.eq_1 <| xg zvc.eq_1 <| xg zvd.eq_1 <| xg zve.eq_1 <| @ex_of T _ _ zvf.eq_1
def zbgx := @vd T F.zlu zvh [0] zbc0 rfl rfl
theorem zbgy : zvh.res = [.tmp 2] ∧ zvh.rets = [[2]] ∧ zvh.body = (.seq (.reg o_80_1) zvf) := ⟨rfl, rfl, rfl⟩
def zbgz := rg o_81_1.eq_1 <| rg o_81_2.eq_1 <| rg o_81_3.eq_1 <| xg c_81_4.eq_1 <| rg o_81_5.eq_1 <| xg c_81_6.eq_1 <| @ex_of T _ _ c_81_7.eq_1
def zbg0 := @vd T F.zlh zvj [2, 0] zbc1 rfl rfl
theorem zbg1 : zvj.res = [.tmp 4] ∧ zvj.rets = [[2]] ∧ zvj.body = (.seq (.reg o_81_1) c_81_7) := ⟨rfl, rfl, rfl⟩
def zbg2 := rg o_82_1.eq_1 <| rg o_82_2.eq_1 <| rg o_82_3.eq_1 <| xg c_82_4.eq_1 <| @ex_of T _ _ c_82_5.eq_1
def zbg3 := @vd T F.zlv zvl [0] zbc2 rfl rfl
theorem zbg4 : zvl.res = [.tmp 2] ∧ zvl.rets = [[2]] ∧ zvl.body = (.seq (.reg o_82_1) c_82_5) := ⟨rfl, rfl, rfl⟩
def zbg5 := rg o_83_1.eq_1 <| rg o_83_2.eq_1 <| @ex_of T _ _ c_83_3.eq_1
def zbg6 := @vd T F.zld zvn [0] zbc3 rfl rfl
theorem zbg7 : zvn.res = [.tmp 2] ∧ zvn.rets = [[2]] ∧ zvn.body = (.seq (.reg o_83_1) c_83_3) := ⟨rfl, rfl, rfl⟩
def zbg8 := rg o_84_1.eq_1 <| rg o_84_2.eq_1 <| @ex_of T _ _ c_84_3.eq_1
def zbg9 := @vd T F.zla zvp [0] zbc4 rfl rfl
theorem zbha : zvp.res = [.tmp 2] ∧ zvp.rets = [[]] ∧ zvp.body = (.seq (.reg o_84_1) c_84_3) := ⟨rfl, rfl, rfl⟩
def zbhb := rg o_85_1.eq_1 <| rg o_85_2.eq_1 <| rg o_85_3.eq_1 <| rg o_85_4.eq_1 <| rg o_85_5.eq_1 <| rg o_85_6.eq_1 <| rg o_85_7.eq_1 <| xg c_85_8.eq_1 <| rg o_85_9.eq_1 <| rg zvq.eq_1 <| rg zvr.eq_1 <| xg zvs.eq_1 <| xg zvt.eq_1 <| rg zvu.eq_1 <| xg zvv.eq_1 <| xg zvw.eq_1 <| xg zvx.eq_1 <| xg zvy.eq_1 <| rg zvz.eq_1 <| xg zv0.eq_1 <| xg zv1.eq_1 <| xg zv2.eq_1 <| xg zv3.eq_1 <| xg zv4.eq_1 <| @ex_of T _ _ zv5.eq_1
def zbhc := @vd T F.zmk zv7 [0] zbc5 rfl rfl
theorem zbhd : zv7.res = [.tmp 2] ∧ zv7.rets = [[2]] ∧ zv7.body = (.seq (.reg o_85_1) zv5) := ⟨rfl, rfl, rfl⟩
def zbhe := rg o_86_1.eq_1 <| rg o_86_2.eq_1 <| rg o_86_3.eq_1 <| rg o_86_4.eq_1 <| xg c_86_5.eq_1 <| rg o_86_6.eq_1 <| rg o_86_7.eq_1 <| xg c_86_8.eq_1 <| rg o_86_9.eq_1 <| xg zv8.eq_1 <| xg zv9.eq_1 <| xg zwa.eq_1 <| xg zwb.eq_1 <| rg zwc.eq_1 <| xg zwd.eq_1 <| xg zwe.eq_1 <| @ex_of T _ _ zwf.eq_1
def zbhf := @vd T F.zmf zwh [0, 0] zbc6 rfl rfl
theorem zbhg : zwh.res = [.tmp 4] ∧ zwh.rets = [[2]] ∧ zwh.body = (.seq (.reg o_86_1) zwf) := ⟨rfl, rfl, rfl⟩
def zbhh := rg o_87_1.eq_1 <| rg o_87_2.eq_1 <| @ex_of T _ _ c_87_3.eq_1
def zbhi := @vd T F.zmd zwj [0] zbc7 rfl rfl
theorem zbhj : zwj.res = [.tmp 2] ∧ zwj.rets = [[]] ∧ zwj.body = (.seq (.reg o_87_1) c_87_3) := ⟨rfl, rfl, rfl⟩
def zbhk := rg o_88_1.eq_1 <| rg o_88_2.eq_1 <| rg o_88_3.eq_1 <| xg c_88_4.eq_1 <| rg o_88_5.eq_1 <| rg o_88_6.eq_1 <| xg c_88_7.eq_1 <| rg o_88_8.eq_1 <| rg o_88_9.eq_1 <| xg zwk.eq_1 <| rg zwl.eq_1 <| rg zwm.eq_1 <| xg zwn.eq_1 <| rg zwo.eq_1 <| rg zwp.eq_1 <| xg zwq.eq_1 <| rg zwr.eq_1 <| And.intro (@dr_of T _ _ [(1, 10), (3, 10), (4, 10)] zwr.eq_1 (by decide)) <| rg zws.eq_1 <| xg zwt.eq_1 <| rg zwu.eq_1 <| xg zwv.eq_1 <| xg zww.eq_1 <| xg zwx.eq_1 <| xg zwy.eq_1 <| rg zwz.eq_1 <| xg zw0.eq_1 <| xg zw1.eq_1 <| xg zw2.eq_1 <| xg zw3.eq_1 <| xg zw4.eq_1 <| @ex_of T _ _ zw5.eq_1
def zbhl := @vd T F.zkm zw7 [0] zbc8 rfl rfl
theorem zbhm : zw7.res = [.tmp 2] ∧ zw7.rets = [[]] ∧ zw7.body = (.seq (.reg o_88_1) zw5) := ⟨rfl, rfl, rfl⟩
def zbhn := rg o_91_1.eq_1 <| rg o_91_2.eq_1 <| rg o_91_3.eq_1 <| rg o_91_4.eq_1 <| rg o_91_5.eq_1 <| rg o_91_6.eq_1 <| rg o_91_7.eq_1 <| xg c_91_8.eq_1 <| xg c_91_9.eq_1 <| xg zw8.eq_1 <| rg zw9.eq_1 <| xg zxa.eq_1 <| xg zxb.eq_1 <| xg zxc.eq_1 <| xg zxd.eq_1 <| xg zxe.eq_1 <| rg zxf.eq_1 <| rg zxg.eq_1 <| rg zxh.eq_1 <| rg zxi.eq_1 <| rg zxj.eq_1 <| xg zxk.eq_1 <| rg zxl.eq_1 <| xg zxm.eq_1 <| xg zxn.eq_1 <| xg zxo.eq_1 <| xg zxp.eq_1 <| xg zxq.eq_1 <| rg zxr.eq_1 <| xg zxs.eq_1 <| xg zxt.eq_1 <| xg zxu.eq_1 <| xg zxv.eq_1 <| @ex_of T _ _ zxw.eq_1
def zbho := @vd T F.zlo zxy [0] zbc9 rfl rfl
theorem zbhp : zxy.res = [.tmp 2] ∧ zxy.rets = [[2]] ∧ zxy.body = (.seq (.reg o_91_1) zxw) := ⟨rfl, rfl, rfl⟩
def zbhq := rg o_95_1.eq_1 <| rg o_95_2.eq_1 <| @ex_of T _ _ c_95_3.eq_1
def zbhr := @vi T F.zms zx0 zbda rfl
theorem zbhs {n : Nat} {H : Hp} {vs : List V} : (orc T (n + 1)).inl F.zms vs H = finI H.length false [.tmp 4] (unw T (orc T n) n H.length [] (exec T (orc T n) n H.length (.seq (.reg o_95_1) c_95_3) (params 0 vs) H)) := by rw [zht, zbda, y5, zhr]; rfl
def zbht := rg o_96_1.eq_1 <| rg o_96_2.eq_1 <| @ex_of T _ _ c_96_3.eq_1
def zbhu := @vd T F.zjq zx2 [0] zbdb rfl rfl
theorem zbhv : zx2.res = [.tmp 2] ∧ zx2.rets = [[]] ∧ zx2.body = (.seq (.reg o_96_1) c_96_3) := ⟨rfl, rfl, rfl⟩
def zbhw := rg o_97_1.eq_1 <| rg o_97_2.eq_1 <| @ex_of T _ _ c_97_3.eq_1
def zbhx := @vd T F.zjp zx4 [0] zbdc rfl rfl
theorem zbhy : zx4.res = [.tmp 2] ∧ zx4.rets = [[]] ∧ zx4.body = (.seq (.reg o_97_1) c_97_3) := ⟨rfl, rfl, rfl⟩
def zbhz := rg o_98_1.eq_1 <| rg o_98_2.eq_1 <| rg o_98_3.eq_1 <| rg o_98_4.eq_1 <| xg c_98_5.eq_1 <| rg o_98_6.eq_1 <| rg o_98_7.eq_1 <| xg c_98_8.eq_1 <| rg o_98_9.eq_1 <| xg zx5.eq_1 <| rg zx6.eq_1 <| xg zx7.eq_1 <| xg zx8.eq_1 <| xg zx9.eq_1 <| xg zya.eq_1 <| rg zyb.eq_1 <| xg zyc.eq_1 <| xg zyd.eq_1 <| @ex_of T _ _ zye.eq_1
def zbh0 := @vd T F.zjs zyg [0, 0] zbdd rfl rfl
theorem zbh1 : zyg.res = [.tmp 4] ∧ zyg.rets = [[]] ∧ zyg.body = (.seq (.reg o_98_1) zye) := ⟨rfl, rfl, rfl⟩
def zbh2 := rg o_99_1.eq_1 <| rg o_99_2.eq_1 <| @ex_of T _ _ c_99_3.eq_1
def zbh3 := @vd T F.zjw zyi [0] zbde rfl rfl
theorem zbh4 : zyi.res = [.tmp 2] ∧ zyi.rets = [[]] ∧ zyi.body = (.seq (.reg o_99_1) c_99_3) := ⟨rfl, rfl, rfl⟩
def zbh5 := rg zyj.eq_1 <| rg zyk.eq_1 <| And.intro (@dr_of T _ _ [(10, 13), (18, 21)] zyk.eq_1 (by decide)) <| @ex_of T _ _ zyl.eq_1
def zbh6 := @vd T F.zkq zyn [0] zbdf rfl rfl
theorem zbh7 : zyn.res = [.tmp 2] ∧ zyn.rets = [[]] ∧ zyn.body = (.seq (.reg zyj) zyl) := ⟨rfl, rfl, rfl⟩
def zbh8 := rg zyo.eq_1 <| rg zyp.eq_1 <| rg zyq.eq_1 <| rg zyr.eq_1 <| rg zys.eq_1 <| rg zyt.eq_1 <| rg zyu.eq_1 <| xg zyv.eq_1 <| rg zyw.eq_1 <| rg zyx.eq_1 <| rg zyy.eq_1 <| xg zyz.eq_1 <| xg zy0.eq_1 <| xg zy1.eq_1 <| xg zy2.eq_1 <| rg zy3.eq_1 <| xg zy4.eq_1 <| xg zy5.eq_1 <| @ex_of T _ _ zy6.eq_1
def zbh9 := @vd T F.zks zy8 [0, 0] zbdg rfl rfl
theorem zbia : zy8.res = [.cell 4 4 true, .tmp 5] ∧ zy8.rets = [[], []] ∧ zy8.body = (.seq (.reg zyo) zy6) := ⟨rfl, rfl, rfl⟩
def zbib := rg zy9.eq_1 <| rg zza.eq_1 <| rg zzb.eq_1 <| rg zzc.eq_1 <| rg zzd.eq_1 <| rg zze.eq_1 <| And.intro (@df_of T _ _ [(4, 2)] zze.eq_1) <| rg zzf.eq_1 <| xg zzg.eq_1 <| rg zzh.eq_1 <| rg zzi.eq_1 <| xg zzj.eq_1 <| rg zzk.eq_1 <| rg zzl.eq_1 <| rg zzm.eq_1 <| xg zzn.eq_1 <| xg zzo.eq_1 <| xg zzp.eq_1 <| xg zzq.eq_1 <| rg zzr.eq_1 <| rg zzs.eq_1 <| rg zzt.eq_1 <| xg zzu.eq_1 <| rg zzv.eq_1 <| rg zzw.eq_1 <| rg zzx.eq_1 <| xg zzy.eq_1 <| xg zzz.eq_1 <| xg zz0.eq_1 <| xg zz1.eq_1 <| xg zz2.eq_1 <| xg zz3.eq_1 <| @ex_of T _ _ zz4.eq_1
def zbic := @vd T F.zku zz6 [0, 0] zbdh rfl rfl
theorem zbid : zz6.res = [.cell 4 4 true, .tmp 5] ∧ zz6.rets = [[], []] ∧ zz6.body = (.seq (.reg zy9) zz4) := ⟨rfl, rfl, rfl⟩
def zbie := rg zz7.eq_1 <| rg zz8.eq_1 <| rg zz9.eq_1 <| rg z0a.eq_1 <| rg z0b.eq_1 <| xg z0c.eq_1 <| xg z0d.eq_1 <| rg z0e.eq_1 <| xg z0f.eq_1 <| xg z0g.eq_1 <| rg z0h.eq_1 <| rg z0i.eq_1 <| xg z0j.eq_1 <| rg z0k.eq_1 <| rg z0l.eq_1 <| rg z0m.eq_1 <| rg z0n.eq_1 <| rg z0o.eq_1 <| rg z0p.eq_1 <| And.intro (@dr_of T _ _ [(1, 6), (3, 6)] z0p.eq_1 (by decide)) <| rg z0q.eq_1 <| rg z0r.eq_1 <| xg z0s.eq_1 <| rg z0t.eq_1 <| xg z0u.eq_1 <| xg z0v.eq_1 <| xg z0w.eq_1 <| xg z0x.eq_1 <| xg z0y.eq_1 <| rg z0z.eq_1 <| xg z00.eq_1 <| xg z01.eq_1 <| xg z02.eq_1 <| xg z03.eq_1 <| @ex_of T _ _ z04.eq_1
def zbif := @vd T F.zky z06 [0, 0] zbdi rfl rfl
theorem zbig : z06.res = [.cell 4 4 true, .tmp 5] ∧ z06.rets = [[], []] ∧ z06.body = (.seq (.reg zz7) z04) := ⟨rfl, rfl, rfl⟩
def zbih := rg z07.eq_1 <| rg z08.eq_1 <| rg z09.eq_1 <| rg z1a.eq_1 <| rg z1b.eq_1 <| rg z1c.eq_1 <| rg z1d.eq_1 <| rg z1e.eq_1 <| rg z1f.eq_1 <| And.intro (@df_of T _ _ [(0, 5)] z1f.eq_1) <| rg z1g.eq_1 <| rg z1h.eq_1 <| xg z1i.eq_1 <| xg z1j.eq_1 <| xg z1k.eq_1 <| xg z1l.eq_1 <| xg z1m.eq_1 <| rg z1n.eq_1 <| And.intro (@dr_of T _ _ [(7, 4)] z1n.eq_1 (by decide)) <| rg z1o.eq_1 <| rg z1p.eq_1 <| rg z1q.eq_1 <| xg z1r.eq_1 <| rg z1s.eq_1 <| rg z1t.eq_1 <| xg z1u.eq_1 <| xg z1v.eq_1 <| xg z1w.eq_1 <| xg z1x.eq_1 <| xg z1y.eq_1 <| @ex_of T _ _ z1z.eq_1
def zbii := @vd T F.zk0 z11 [0, 0] zbdj rfl rfl
theorem zbij : z11.res = [.cell 4 4 true, .tmp 5] ∧ z11.rets = [[], []] ∧ z11.body = (.seq (.reg z07) z1z) := ⟨rfl, rfl, rfl⟩
def zbik := rg z12.eq_1 <| rg z13.eq_1 <| @ex_of T _ _ z14.eq_1
def zbil := @vd T F.zle z16 [0, 0] zbdk rfl rfl
theorem zbim : z16.res = [.tmp 4] ∧ z16.rets = [[2]] ∧ z16.body = (.seq (.reg z12) z14) := ⟨rfl, rfl, rfl⟩
def zbin := rg z17.eq_1 <| rg z18.eq_1 <| xg z19.eq_1 <| rg z2a.eq_1 <| rg z2b.eq_1 <| xg z2c.eq_1 <| xg z2d.eq_1 <| xg z2e.eq_1 <| rg z2f.eq_1 <| xg z2g.eq_1 <| @ex_of T _ _ z2h.eq_1
def zbio := @vd T F.zlg z2j [2, 0] zbdl rfl rfl
theorem zbip : z2j.res = [.tmp 4] ∧ z2j.rets = [[2]] ∧ z2j.body = (.seq (.reg z17) z2h) := ⟨rfl, rfl, rfl⟩
def zbiq := rg z2k.eq_1 <| rg z2l.eq_1 <| @ex_of T _ _ z2m.eq_1
def zbir := @vd T F.zli z2o [0] zbdm rfl rfl
theorem zbis : z2o.res = [.tmp 2] ∧ z2o.rets = [[]] ∧ z2o.body = (.seq (.reg z2k) z2m) := ⟨rfl, rfl, rfl⟩
def zbit := rg z2p.eq_1 <| rg z2q.eq_1 <| rg z2r.eq_1 <| xg z2s.eq_1 <| rg z2t.eq_1 <| rg z2u.eq_1 <| xg z2v.eq_1 <| xg z2w.eq_1 <| xg z2x.eq_1 <| rg z2y.eq_1 <| xg z2z.eq_1 <| xg z20.eq_1 <| @ex_of T _ _ z21.eq_1
def zbiu := @vd T F.zl5 z23 [0] zbdn rfl rfl
theorem zbiv : z23.res = [.tmp 2] ∧ z23.rets = [[2]] ∧ z23.body = (.seq (.reg z2p) z21) := ⟨rfl, rfl, rfl⟩
def zbiw := rg z24.eq_1 <| rg z25.eq_1 <| rg z26.eq_1 <| xg z27.eq_1 <| rg z28.eq_1 <| xg z29.eq_1 <| @ex_of T _ _ z3a.eq_1
def zbix := @vd T F.zl7 z3c [0] zbdo rfl rfl
theorem zbiy : z3c.res = [.tmp 2] ∧ z3c.rets = [[]] ∧ z3c.body = (.seq (.reg z24) z3a) := ⟨rfl, rfl, rfl⟩
def zbiz := rg z3d.eq_1 <| rg z3e.eq_1 <| rg z3f.eq_1 <| rg z3g.eq_1 <| xg z3h.eq_1 <| rg z3i.eq_1 <| rg z3j.eq_1 <| xg z3k.eq_1 <| xg z3l.eq_1 <| xg z3m.eq_1 <| xg z3n.eq_1 <| rg z3o.eq_1 <| xg z3p.eq_1 <| xg z3q.eq_1 <| @ex_of T _ _ z3r.eq_1
def zbi0 := @vd T F.zmc z3t [0, 0] zbdp rfl rfl
theorem zbi1 : z3t.res = [.tmp 4] ∧ z3t.rets = [[]] ∧ z3t.body = (.seq (.reg z3d) z3r) := ⟨rfl, rfl, rfl⟩
def zbi2 := rg z3u.eq_1 <| rg z3v.eq_1 <| rg z3w.eq_1 <| xg z3x.eq_1 <| rg z3y.eq_1 <| And.intro (@df_of T _ _ [(3, 2), (7, 2), (7, 4), (7, 5), (8, 2), (8, 4), (8, 5)] z3y.eq_1) <| rg z3z.eq_1 <| rg z30.eq_1 <| rg z31.eq_1 <| rg z32.eq_1 <| xg z33.eq_1 <| rg z34.eq_1 <| xg z35.eq_1 <| xg z36.eq_1 <| xg z37.eq_1 <| xg z38.eq_1 <| xg z39.eq_1 <| rg z4a.eq_1 <| xg z4b.eq_1 <| xg z4c.eq_1 <| xg z4d.eq_1 <| @ex_of T _ _ z4e.eq_1
def zbi3 := @vd T F.zls z4g [0] zbdq rfl rfl
theorem zbi4 : z4g.res = [.tmp 2, .tmp 3] ∧ z4g.rets = [[2], []] ∧ z4g.body = (.seq (.reg z3u) z4e) := ⟨rfl, rfl, rfl⟩
def zbi5 := rg z4h.eq_1 <| rg z4i.eq_1 <| rg z4j.eq_1 <| rg z4k.eq_1 <| rg z4l.eq_1 <| rg z4m.eq_1 <| xg z4n.eq_1 <| rg z4o.eq_1 <| xg z4p.eq_1 <| xg z4q.eq_1 <| xg z4r.eq_1 <| xg z4s.eq_1 <| xg z4t.eq_1 <| rg z4u.eq_1 <| xg z4v.eq_1 <| xg z4w.eq_1 <| @ex_of T _ _ z4x.eq_1
def zbi6 := @vd T F.zlc z4z [0, 0] zbdr rfl rfl
theorem zbi7 : z4z.res = [.tmp 4] ∧ z4z.rets = [[2]] ∧ z4z.body = (.seq (.reg z4h) z4x) := ⟨rfl, rfl, rfl⟩
def zbi8 := rg z40.eq_1 <| rg z41.eq_1 <| rg z42.eq_1 <| rg z43.eq_1 <| rg z44.eq_1 <| rg z45.eq_1 <| rg z46.eq_1 <| xg z47.eq_1 <| rg z48.eq_1 <| xg z49.eq_1 <| xg z5a.eq_1 <| xg z5b.eq_1 <| xg z5c.eq_1 <| xg z5d.eq_1 <| rg z5e.eq_1 <| xg z5f.eq_1 <| xg z5g.eq_1 <| xg z5h.eq_1 <| @ex_of T _ _ z5i.eq_1
def zbi9 := @vd T F.zk9 z5k [0, 0] zbds rfl rfl
theorem zbja : z5k.res = [.tmp 4] ∧ z5k.rets = [[]] ∧ z5k.body = (.seq (.reg z40) z5i) := ⟨rfl, rfl, rfl⟩
def zbjb := rg z5l.eq_1 <| rg z5m.eq_1 <| rg z5n.eq_1 <| rg z5o.eq_1 <| xg z5p.eq_1 <| rg z5q.eq_1 <| rg z5r.eq_1 <| rg z5s.eq_1 <| rg z5t.eq_1 <| xg z5u.eq_1 <| rg z5v.eq_1 <| rg z5w.eq_1 <| rg z5x.eq_1 <| rg z5y.eq_1 <| xg z5z.eq_1 <| rg z50.eq_1 <| rg z51.eq_1 <| xg z52.eq_1 <| xg z53.eq_1 <| xg z54.eq_1 <| xg z55.eq_1 <| rg z56.eq_1 <| xg z57.eq_1 <| xg z58.eq_1 <| xg z59.eq_1 <| xg z6a.eq_1 <| xg z6b.eq_1 <| xg z6c.eq_1 <| xg z6d.eq_1 <| xg z6e.eq_1 <| @ex_of T _ _ z6f.eq_1
def zbjc := @vd T F.zmi z6h [0] zbdt rfl rfl
theorem zbjd : z6h.res = [.tmp 2, .tmp 3] ∧ z6h.rets = [[2], []] ∧ z6h.body = (.seq (.reg z5l) z6f) := ⟨rfl, rfl, rfl⟩
def zbje := rg z6i.eq_1 <| rg z6j.eq_1 <| rg z6k.eq_1 <| xg z6l.eq_1 <| rg z6m.eq_1 <| rg z6n.eq_1 <| xg z6o.eq_1 <| rg z6p.eq_1 <| rg z6q.eq_1 <| xg z6r.eq_1 <| rg z6s.eq_1 <| xg z6t.eq_1 <| xg z6u.eq_1 <| xg z6v.eq_1 <| xg z6w.eq_1 <| rg z6x.eq_1 <| xg z6y.eq_1 <| xg z6z.eq_1 <| @ex_of T _ _ z60.eq_1
def zbjf := @vd T F.zkj z62 [0, 0] zbdu rfl rfl
theorem zbjg : z62.res = [.tmp 4] ∧ z62.rets = [[]] ∧ z62.body = (.seq (.reg z6i) z60) := ⟨rfl, rfl, rfl⟩
def zbjh := rg z63.eq_1 <| rg z64.eq_1 <| rg z65.eq_1 <| xg z66.eq_1 <| rg z67.eq_1 <| rg z68.eq_1 <| xg z69.eq_1 <| rg z7a.eq_1 <| xg z7b.eq_1 <| xg z7c.eq_1 <| @ex_of T _ _ z7d.eq_1
def zbji := @vd T F.zkk z7f [0] zbdv rfl rfl
theorem zbjj : z7f.res = [.tmp 2] ∧ z7f.rets = [[]] ∧ z7f.body = (.seq (.reg z63) z7d) := ⟨rfl, rfl, rfl⟩
def zbjk := rg z7g.eq_1 <| rg z7h.eq_1 <| xg z7i.eq_1 <| rg z7j.eq_1 <| rg z7k.eq_1 <| rg z7l.eq_1 <| xg z7m.eq_1 <| xg z7n.eq_1 <| rg z7o.eq_1 <| xg z7p.eq_1 <| xg z7q.eq_1 <| @ex_of T _ _ z7r.eq_1
def zbjl := @vi T F.zmt z7t zbdw rfl
theorem zbjm {n : Nat} {H : Hp} {vs : List V} : (orc T (n + 1)).inl F.zmt vs H = finI H.length false [.tmp 4] (unw T (orc T n) n H.length [] (exec T (orc T n) n H.length (.seq (.reg z7g) z7r) (params 0 vs) H)) := by rw [zht, zbdw, y5, zhr]; rfl
def zbjn := rg z7u.eq_1 <| rg z7v.eq_1 <| rg z7w.eq_1 <| rg z7x.eq_1 <| rg z7y.eq_1 <| rg z7z.eq_1 <| xg z70.eq_1 <| xg z71.eq_1 <| rg z72.eq_1 <| xg z73.eq_1 <| xg z74.eq_1 <| xg z75.eq_1 <| xg z76.eq_1 <| xg z77.eq_1 <| rg z78.eq_1 <| xg z79.eq_1 <| @ex_of T _ _ z8a.eq_1
def zbjo := @vi T F.zmu z8c zbdx rfl
theorem zbjp {n : Nat} {H : Hp} {vs : List V} : (orc T (n + 1)).inl F.zmu vs H = finI H.length false [.tmp 4] (unw T (orc T n) n H.length [] (exec T (orc T n) n H.length (.seq (.reg z7u) z8a) (params 0 vs) H)) := by rw [zht, zbdx, y5, zhr]; rfl
def zbjq := rg z8d.eq_1 <| rg z8e.eq_1 <| rg z8f.eq_1 <| rg z8g.eq_1 <| xg z8h.eq_1 <| rg z8i.eq_1 <| rg z8j.eq_1 <| rg z8k.eq_1 <| rg z8l.eq_1 <| xg z8m.eq_1 <| xg z8n.eq_1 <| xg z8o.eq_1 <| xg z8p.eq_1 <| xg z8q.eq_1 <| @ex_of T _ _ z8r.eq_1
def zbjr := @vd T F.zkt z8t [2, 0, 0] zbdy rfl rfl
theorem zbjs : z8t.res = [.tmp 6] ∧ z8t.rets = [[2]] ∧ z8t.body = (.seq (.reg z8d) z8r) := ⟨rfl, rfl, rfl⟩
def zbjt := rg z8u.eq_1 <| rg z8v.eq_1 <| rg z8w.eq_1 <| rg z8x.eq_1 <| xg z8y.eq_1 <| xg z8z.eq_1 <| rg z80.eq_1 <| xg z81.eq_1 <| @ex_of T _ _ z82.eq_1
def zbju := @vd T F.zkx z84 [0, 0] zbdz rfl rfl
theorem zbjv : z84.res = [.tmp 4] ∧ z84.rets = [[]] ∧ z84.body = (.seq (.reg z8u) z82) := ⟨rfl, rfl, rfl⟩
def zbjw := rg z85.eq_1 <| rg z86.eq_1 <| rg z87.eq_1 <| xg z88.eq_1 <| rg z89.eq_1 <| xg z9a.eq_1 <| xg z9b.eq_1 <| rg z9c.eq_1 <| xg z9d.eq_1 <| xg z9e.eq_1 <| @ex_of T _ _ z9f.eq_1
def zbjx := @vd T F.zkw z9h [0, 0] zbd0 rfl rfl
theorem zbjy : z9h.res = [.tmp 4, .tmp 5] ∧ z9h.rets = [[], []] ∧ z9h.body = (.seq (.reg z85) z9f) := ⟨rfl, rfl, rfl⟩
def zbjz := rg z9i.eq_1 <| rg z9j.eq_1 <| rg z9k.eq_1 <| xg z9l.eq_1 <| rg z9m.eq_1 <| rg z9n.eq_1 <| And.intro (@dr_of T _ _ [(5, 3)] z9n.eq_1 (by decide)) <| rg z9o.eq_1 <| rg z9p.eq_1 <| rg z9q.eq_1 <| rg z9r.eq_1 <| xg z9s.eq_1 <| xg z9t.eq_1 <| rg z9u.eq_1 <| rg z9v.eq_1 <| rg z9w.eq_1 <| xg z9x.eq_1 <| rg z9y.eq_1 <| rg z9z.eq_1 <| xg z90.eq_1 <| xg z91.eq_1 <| xg z92.eq_1 <| xg z93.eq_1 <| xg z94.eq_1 <| xg z95.eq_1 <| xg z96.eq_1 <| @ex_of T _ _ z97.eq_1
def zbj0 := @vd T F.zkz z99 [0, 0] zbd1 rfl rfl
theorem zbj1 : z99.res = [.cell 4 4 true, .tmp 5] ∧ z99.rets = [[], []] ∧ z99.body = (.seq (.reg z9i) z97) := ⟨rfl, rfl, rfl⟩
def zbj2 := rg zbaa.eq_1 <| rg zbab.eq_1 <| rg zbac.eq_1 <| rg zbad.eq_1 <| xg zbae.eq_1 <| rg zbaf.eq_1 <| rg zbag.eq_1 <| rg zbah.eq_1 <| rg zbai.eq_1 <| xg zbaj.eq_1 <| xg zbak.eq_1 <| xg zbal.eq_1 <| rg zbam.eq_1 <| xg zban.eq_1 <| xg zbao.eq_1 <| xg zbap.eq_1 <| xg zbaq.eq_1 <| rg zbar.eq_1 <| xg zbas.eq_1 <| xg zbat.eq_1 <| @ex_of T _ _ zbau.eq_1
def zbj3 := @vd T F.zma zbaw [0] zbd2 rfl rfl
theorem zbj4 : zbaw.res = [.tmp 2] ∧ zbaw.rets = [[]] ∧ zbaw.body = (.seq (.reg zbaa) zbau) := ⟨rfl, rfl, rfl⟩
def zbj5 := rg zbax.eq_1 <| rg zbay.eq_1 <| rg zbaz.eq_1 <| xg zba0.eq_1 <| rg zba1.eq_1 <| xg zba2.eq_1 <| @ex_of T _ _ zba3.eq_1
def zbj6 := @vd T F.zlq zba5 [0] zbd3 rfl rfl
theorem zbj7 : zba5.res = [.tmp 2] ∧ zba5.rets = [[]] ∧ zba5.body = (.seq (.reg zbax) zba3) := ⟨rfl, rfl, rfl⟩
def zbj8 := rg zba6.eq_1 <| rg zba7.eq_1 <| rg zba8.eq_1 <| rg zba9.eq_1 <| rg zbba.eq_1 <| rg zbbb.eq_1 <| rg zbbc.eq_1 <| rg zbbd.eq_1 <| rg zbbe.eq_1 <| rg zbbf.eq_1 <| xg zbbg.eq_1 <| rg zbbh.eq_1 <| xg zbbi.eq_1 <| xg zbbj.eq_1 <| xg zbbk.eq_1 <| xg zbbl.eq_1 <| xg zbbm.eq_1 <| rg zbbn.eq_1 <| xg zbbo.eq_1 <| xg zbbp.eq_1 <| xg zbbq.eq_1 <| rg zbbr.eq_1 <| xg zbbs.eq_1 <| xg zbbt.eq_1 <| xg zbbu.eq_1 <| xg zbbv.eq_1 <| xg zbbw.eq_1 <| rg zbbx.eq_1 <| xg zbby.eq_1 <| xg zbbz.eq_1 <| @ex_of T _ _ zbb0.eq_1
def zbj9 := @vd T F.zk7 zbb2 [] zbd4 rfl rfl
theorem zbka : zbb2.res = [.cell 0 256 true] ∧ zbb2.rets = [[]] ∧ zbb2.body = (.seq (.reg zba6) zbb0) := ⟨rfl, rfl, rfl⟩
end Go.Dvm.C
