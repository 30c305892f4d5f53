/- What each piece of the code comes to: part 1. -/
import Derived.Test.YtngajodhbioheaaQc0
set_option linter.all false
set_option maxRecDepth 100000
set_option maxHeartbeats 4000000
namespace Go.Dvm.C
open Go Go.Dvm
def ke := And.intro @Ow.enc.eq_1 <| And.intro @Sl.enc.eq_1 <| And.intro @I.zjd.enc.eq_1 <| And.intro @I.zje.enc.eq_1 <| And.intro @I.zjf.enc.eq_1 <| And.intro @I.zjg.enc.eq_1 <| And.intro @I.zji.enc.eq_1 <| And.intro @I.zjh.enc.eq_1 <| And.intro @arrEnc.eq_1 <| @I.zjj.enc.eq_1
def kf := And.intro @ke @kn
def tab : List (Nat × MFun) := [(4, zla), (17, zle), (18, zlg), (19, zmd), (22, zmf), (24, zm4), (25, zm6), (31, zna), (42, znc), (44, zne), (45, zng), (46, zni), (47, znk), (48, zno), (49, zns), (50, znu), (52, zof), (53, zop), (56, zpg), (57, zpu), (67, zqe), (68, zqg), (69, zqi), (70, zqs), (71, zqu), (72, zrk), (79, zry), (94, zr0), (95, zr2), (96, zr4), (97, zr6), (98, zsi), (99, zsk), (105, zsy), (145, zth)]
abbrev T : Nat → Option MFun := look tab
theorem zti : T F.zky = some zla := rfl
theorem ztj : T F.zkv = some zle := rfl
theorem ztk : T F.zkx = some zlg := rfl
theorem ztl : T F.zj7 = some zmd := rfl
theorem ztm : T F.zju = some zmf := rfl
theorem ztn : T F.zko = some zm4 := rfl
theorem zto : T F.zku = some zm6 := rfl
theorem ztp : T F.zkl = some zna := rfl
theorem ztq : T F.zkr = some znc := rfl
theorem ztr : T F.zkw = some zne := rfl
theorem zts : T F.zkz = some zng := rfl
theorem ztt : T F.zjx = some zni := rfl
theorem ztu : T F.zk0 = some znk := rfl
theorem ztv : T F.zjz = some zno := rfl
theorem ztw : T F.zj1 = some zns := rfl
theorem ztx : T F.zj2 = some znu := rfl
theorem zty : T F.zjq = some zof := rfl
theorem ztz : T F.zjt = some zop := rfl
theorem zt0 : T F.zkc = some zpg := rfl
theorem zt1 : T F.zkt = some zpu := rfl
theorem zt2 : T F.zk1 = some zqe := rfl
theorem zt3 : T F.zkd = some zqg := rfl
theorem zt4 : T F.zk2 = some zqi := rfl
theorem zt5 : T F.zk3 = some zqs := rfl
theorem zt6 : T F.zk4 = some zqu := rfl
theorem zt7 : T F.zke = some zrk := rfl
theorem zt8 : T F.zkq = some zry := rfl
theorem zt9 : T F.zk5 = some zr0 := rfl
theorem zua : T F.zk6 = some zr2 := rfl
theorem zub : T F.zjl = some zr4 := rfl
theorem zuc : T F.zjk = some zr6 := rfl
theorem zud : T F.zjn = some zsi := rfl
theorem zue : T F.zjr = some zsk := rfl
theorem zuf : T F.zk7 = some zsy := rfl
theorem zug : T F.zk8 = some zth := rfl
def rg {P : Prop} {c c' : List MO} (h : c = c') (p : P) := ra (T := T) h p
def xg {P : Prop} {c c' : MC} (h : c = c') (p : P) := xa (T := T) h p
def zuh := rg o_4_1.eq_1 <| rg o_4_2.eq_1 <| rg o_4_3.eq_1 <| rg o_4_4.eq_1 <| rg o_4_5.eq_1 <| rg o_4_6.eq_1 <| xg c_4_7.eq_1 <| rg o_4_8.eq_1 <| rg o_4_9.eq_1 <| rg o_4_10.eq_1 <| xg c_4_11.eq_1 <| rg o_4_12.eq_1 <| xg c_4_13.eq_1 <| xg c_4_14.eq_1 <| xg c_4_15.eq_1 <| xg c_4_16.eq_1 <| xg c_4_17.eq_1 <| xg c_4_18.eq_1 <| @ex_of T _ _ c_4_19.eq_1
def zui := @vd T F.zky zla [0, 0] zti rfl rfl
theorem zuj : zla.res = [.tmp 4] ∧ zla.rets = [[]] ∧ zla.body = (.seq (.reg o_4_1) c_4_19) := ⟨rfl, rfl, rfl⟩
def zuk := rg o_17_1.eq_1 <| rg o_17_2.eq_1 <| rg o_17_3.eq_1 <| rg o_17_4.eq_1 <| rg o_17_5.eq_1 <| rg o_17_6.eq_1 <| xg c_17_7.eq_1 <| xg c_17_8.eq_1 <| xg c_17_9.eq_1 <| xg zlb.eq_1 <| @ex_of T _ _ zlc.eq_1
def zul := @vd T F.zkv zle [] ztj rfl rfl
theorem zum : zle.res = [.tmp 0] ∧ zle.rets = [[]] ∧ zle.body = (.seq (.reg o_17_1) zlc) := ⟨rfl, rfl, rfl⟩
def zun := rg o_18_1.eq_1 <| rg o_18_2.eq_1 <| @ex_of T _ _ c_18_3.eq_1
def zuo := @vd T F.zkx zlg [0] ztk rfl rfl
theorem zup : zlg.res = [.tmp 2] ∧ zlg.rets = [[]] ∧ zlg.body = (.seq (.reg o_18_1) c_18_3) := ⟨rfl, rfl, rfl⟩
def zuq := rg o_19_1.eq_1 <| rg o_19_2.eq_1 <| rg o_19_3.eq_1 <| rg o_19_4.eq_1 <| rg o_19_5.eq_1 <| rg o_19_6.eq_1 <| xg c_19_7.eq_1 <| xg c_19_8.eq_1 <| rg o_19_9.eq_1 <| rg zlh.eq_1 <| rg zli.eq_1 <| rg zlj.eq_1 <| rg zlk.eq_1 <| rg zll.eq_1 <| rg zlm.eq_1 <| rg zln.eq_1 <| rg zlo.eq_1 <| rg zlp.eq_1 <| rg zlq.eq_1 <| rg zlr.eq_1 <| xg zls.eq_1 <| xg zlt.eq_1 <| xg zlu.eq_1 <| rg zlv.eq_1 <| xg zlw.eq_1 <| xg zlx.eq_1 <| xg zly.eq_1 <| xg zlz.eq_1 <| xg zl0.eq_1 <| rg zl1.eq_1 <| xg zl2.eq_1 <| xg zl3.eq_1 <| xg zl4.eq_1 <| xg zl5.eq_1 <| xg zl6.eq_1 <| xg zl7.eq_1 <| xg zl8.eq_1 <| xg zl9.eq_1 <| xg zma.eq_1 <| @ex_of T _ _ zmb.eq_1
def zur := @vd T F.zj7 zmd [0, 0] ztl rfl rfl
theorem zus : zmd.res = [.cell 4 8 true, .tmp 5] ∧ zmd.rets = [[], []] ∧ zmd.body = (.seq (.reg o_19_1) zmb) := ⟨rfl, rfl, rfl⟩
def zut := rg o_22_1.eq_1 <| rg o_22_2.eq_1 <| @ex_of T _ _ c_22_3.eq_1
def zuu := @vd T F.zju zmf [0] ztm rfl rfl
theorem zuv : zmf.res = [.tmp 2] ∧ zmf.rets = [[]] ∧ zmf.body = (.seq (.reg o_22_1) c_22_3) := ⟨rfl, rfl, rfl⟩
def zuw := rg o_24_1.eq_1 <| rg o_24_2.eq_1 <| rg o_24_3.eq_1 <| rg o_24_4.eq_1 <| rg o_24_5.eq_1 <| rg o_24_6.eq_1 <| xg c_24_7.eq_1 <| xg c_24_8.eq_1 <| rg o_24_9.eq_1 <| rg zmg.eq_1 <| And.intro (@df_of T _ _ [(2, 16), (2, 17), (19, 16), (19, 17), (21, 16), (21, 17)] zmg.eq_1) <| rg zmh.eq_1 <| rg zmi.eq_1 <| rg zmj.eq_1 <| rg zmk.eq_1 <| xg zml.eq_1 <| rg zmm.eq_1 <| xg zmn.eq_1 <| xg zmo.eq_1 <| xg zmp.eq_1 <| xg zmq.eq_1 <| xg zmr.eq_1 <| rg zms.eq_1 <| rg zmt.eq_1 <| xg zmu.eq_1 <| rg zmv.eq_1 <| xg zmw.eq_1 <| xg zmx.eq_1 <| xg zmy.eq_1 <| xg zmz.eq_1 <| xg zm0.eq_1 <| xg zm1.eq_1 <| @ex_of T _ _ zm2.eq_1
def zux := @vd T F.zko zm4 [0, 0] ztn rfl rfl
theorem zuy : zm4.res = [.cell 4 6 true, .tmp 5] ∧ zm4.rets = [[], []] ∧ zm4.body = (.seq (.reg o_24_1) zm2) := ⟨rfl, rfl, rfl⟩
def zuz := rg o_25_1.eq_1 <| rg o_25_2.eq_1 <| @ex_of T _ _ c_25_3.eq_1
def zu0 := @vd T F.zku zm6 [0, 0] zto rfl rfl
theorem zu1 : zm6.res = [.tmp 4] ∧ zm6.rets = [[]] ∧ zm6.body = (.seq (.reg o_25_1) c_25_3) := ⟨rfl, rfl, rfl⟩
def zu2 := rg o_31_1.eq_1 <| rg o_31_2.eq_1 <| rg o_31_3.eq_1 <| rg o_31_4.eq_1 <| rg o_31_5.eq_1 <| xg c_31_6.eq_1 <| rg o_31_7.eq_1 <| xg c_31_8.eq_1 <| xg c_31_9.eq_1 <| xg zm7.eq_1 <| @ex_of T _ _ zm8.eq_1
def zu3 := @vd T F.zkl zna [0, 0] ztp rfl rfl
theorem zu4 : zna.res = [.tmp 4] ∧ zna.rets = [[4]] ∧ zna.body = (.seq (.reg o_31_1) zm8) := ⟨rfl, rfl, rfl⟩
def zu5 := rg o_42_1.eq_1 <| rg o_42_2.eq_1 <| @ex_of T _ _ c_42_3.eq_1
def zu6 := @vd T F.zkr znc [0, 0] ztq rfl rfl
theorem zu7 : znc.res = [.tmp 4] ∧ znc.rets = [[]] ∧ znc.body = (.seq (.reg o_42_1) c_42_3) := ⟨rfl, rfl, rfl⟩
def zu8 := rg o_44_1.eq_1 <| rg o_44_2.eq_1 <| @ex_of T _ _ c_44_3.eq_1
def zu9 := @vd T F.zkw zne [0] ztr rfl rfl
theorem zva : zne.res = [.tmp 2] ∧ zne.rets = [[]] ∧ zne.body = (.seq (.reg o_44_1) c_44_3) := ⟨rfl, rfl, rfl⟩
def zvb := rg o_45_1.eq_1 <| rg o_45_2.eq_1 <| @ex_of T _ _ c_45_3.eq_1
def zvc := @vi T F.zkz zng zts rfl
theorem zvd {n : Nat} {H : Hp} {vs : List V} : (orc T (n + 1)).inl F.zkz vs H = finI H.length false [.tmp 3] (unw T (orc T n) n H.length [] (exec T (orc T n) n H.length (.seq (.reg o_45_1) c_45_3) (params 0 vs) H)) := by rw [zhw, zts, y6, zhu]; rfl
def zve := rg o_46_1.eq_1 <| rg o_46_2.eq_1 <| @ex_of T _ _ c_46_3.eq_1
def zvf := @vd T F.zjx zni [0, 0] ztt rfl rfl
theorem zvg : zni.res = [.tmp 4] ∧ zni.rets = [[]] ∧ zni.body = (.seq (.reg o_46_1) c_46_3) := ⟨rfl, rfl, rfl⟩
def zvh := rg o_47_1.eq_1 <| rg o_47_2.eq_1 <| @ex_of T _ _ c_47_3.eq_1
def zvi := @vi T F.zk0 znk ztu rfl
theorem zvj {n : Nat} {H : Hp} {vs : List V} : (orc T (n + 1)).inl F.zk0 vs H = finI H.length false [.tmp 4] (unw T (orc T n) n H.length [] (exec T (orc T n) n H.length (.seq (.reg o_47_1) c_47_3) (params 0 vs) H)) := by rw [zhw, ztu, y6, zhu]; rfl
def zvk := rg o_48_1.eq_1 <| rg o_48_2.eq_1 <| rg o_48_3.eq_1 <| xg c_48_4.eq_1 <| rg o_48_5.eq_1 <| xg c_48_6.eq_1 <| xg c_48_7.eq_1 <| rg o_48_8.eq_1 <| xg c_48_9.eq_1 <| xg znl.eq_1 <| @ex_of T _ _ znm.eq_1
def zvl := @vd T F.zjz zno [0, 0] ztv rfl rfl
theorem zvm : zno.res = [.tmp 4] ∧ zno.rets = [[]] ∧ zno.body = (.seq (.reg o_48_1) znm) := ⟨rfl, rfl, rfl⟩
def zvn := rg o_49_1.eq_1 <| rg o_49_2.eq_1 <| rg o_49_3.eq_1 <| xg c_49_4.eq_1 <| rg o_49_5.eq_1 <| xg c_49_6.eq_1 <| xg c_49_7.eq_1 <| rg o_49_8.eq_1 <| xg c_49_9.eq_1 <| xg znp.eq_1 <| @ex_of T _ _ znq.eq_1
def zvo := @vd T F.zj1 zns [0, 0] ztw rfl rfl
theorem zvp : zns.res = [.tmp 4] ∧ zns.rets = [[]] ∧ zns.body = (.seq (.reg o_49_1) znq) := ⟨rfl, rfl, rfl⟩
def zvq := rg o_50_1.eq_1 <| rg o_50_2.eq_1 <| rg o_50_3.eq_1 <| xg c_50_4.eq_1 <| rg o_50_5.eq_1 <| xg c_50_6.eq_1 <| @ex_of T _ _ c_50_7.eq_1
def zvr := @vd T F.zj2 znu [0] ztx rfl rfl
theorem zvs : znu.res = [.tmp 2] ∧ znu.rets = [[2]] ∧ znu.body = (.seq (.reg o_50_1) c_50_7) := ⟨rfl, rfl, rfl⟩
def zvt := rg o_52_1.eq_1 <| rg o_52_2.eq_1 <| rg o_52_3.eq_1 <| xg c_52_4.eq_1 <| rg o_52_5.eq_1 <| rg o_52_6.eq_1 <| rg o_52_7.eq_1 <| rg o_52_8.eq_1 <| xg c_52_9.eq_1 <| rg znv.eq_1 <| rg znw.eq_1 <| rg znx.eq_1 <| xg zny.eq_1 <| rg znz.eq_1 <| rg zn0.eq_1 <| rg zn1.eq_1 <| rg zn2.eq_1 <| rg zn3.eq_1 <| xg zn4.eq_1 <| xg zn5.eq_1 <| xg zn6.eq_1 <| xg zn7.eq_1 <| xg zn8.eq_1 <| rg zn9.eq_1 <| xg zoa.eq_1 <| xg zob.eq_1 <| xg zoc.eq_1 <| @ex_of T _ _ zod.eq_1
def zvu := @vd T F.zjq zof [0] zty rfl rfl
theorem zvv : zof.res = [.tmp 2] ∧ zof.rets = [[]] ∧ zof.body = (.seq (.reg o_52_1) zod) := ⟨rfl, rfl, rfl⟩
def zvw := rg o_53_1.eq_1 <| rg o_53_2.eq_1 <| rg o_53_3.eq_1 <| rg o_53_4.eq_1 <| rg o_53_5.eq_1 <| rg o_53_6.eq_1 <| xg c_53_7.eq_1 <| xg c_53_8.eq_1 <| rg o_53_9.eq_1 <| xg zog.eq_1 <| xg zoh.eq_1 <| xg zoi.eq_1 <| xg zoj.eq_1 <| xg zok.eq_1 <| rg zol.eq_1 <| xg zom.eq_1 <| @ex_of T _ _ zon.eq_1
def zvx := @vd T F.zjt zop [0] ztz rfl rfl
theorem zvy : zop.res = [.tmp 2] ∧ zop.rets = [[]] ∧ zop.body = (.seq (.reg o_53_1) zon) := ⟨rfl, rfl, rfl⟩
def zvz := rg o_56_1.eq_1 <| rg o_56_2.eq_1 <| rg o_56_3.eq_1 <| rg o_56_4.eq_1 <| rg o_56_5.eq_1 <| rg o_56_6.eq_1 <| rg o_56_7.eq_1 <| xg c_56_8.eq_1 <| xg c_56_9.eq_1 <| xg zoq.eq_1 <| rg zor.eq_1 <| xg zos.eq_1 <| xg zot.eq_1 <| xg zou.eq_1 <| xg zov.eq_1 <| xg zow.eq_1 <| rg zox.eq_1 <| rg zoy.eq_1 <| rg zoz.eq_1 <| rg zo0.eq_1 <| rg zo1.eq_1 <| xg zo2.eq_1 <| rg zo3.eq_1 <| xg zo4.eq_1 <| xg zo5.eq_1 <| xg zo6.eq_1 <| xg zo7.eq_1 <| xg zo8.eq_1 <| rg zo9.eq_1 <| xg zpa.eq_1 <| xg zpb.eq_1 <| xg zpc.eq_1 <| xg zpd.eq_1 <| @ex_of T _ _ zpe.eq_1
def zv0 := @vd T F.zkc zpg [0] zt0 rfl rfl
theorem zv1 : zpg.res = [.tmp 2] ∧ zpg.rets = [[2]] ∧ zpg.body = (.seq (.reg o_56_1) zpe) := ⟨rfl, rfl, rfl⟩
def zv2 := rg o_57_1.eq_1 <| rg o_57_2.eq_1 <| rg o_57_3.eq_1 <| xg c_57_4.eq_1 <| rg o_57_5.eq_1 <| rg o_57_6.eq_1 <| rg o_57_7.eq_1 <| rg o_57_8.eq_1 <| rg o_57_9.eq_1 <| xg zph.eq_1 <| xg zpi.eq_1 <| rg zpj.eq_1 <| xg zpk.eq_1 <| xg zpl.eq_1 <| xg zpm.eq_1 <| xg zpn.eq_1 <| xg zpo.eq_1 <| rg zpp.eq_1 <| xg zpq.eq_1 <| xg zpr.eq_1 <| @ex_of T _ _ zps.eq_1
def zv3 := @vd T F.zkt zpu [0, 0] zt1 rfl rfl
theorem zv4 : zpu.res = [.tmp 4] ∧ zpu.rets = [[]] ∧ zpu.body = (.seq (.reg o_57_1) zps) := ⟨rfl, rfl, rfl⟩
def zv5 := rg o_67_1.eq_1 <| rg o_67_2.eq_1 <| rg o_67_3.eq_1 <| rg o_67_4.eq_1 <| xg c_67_5.eq_1 <| rg o_67_6.eq_1 <| rg o_67_7.eq_1 <| xg c_67_8.eq_1 <| rg o_67_9.eq_1 <| rg zpv.eq_1 <| rg zpw.eq_1 <| rg zpx.eq_1 <| xg zpy.eq_1 <| xg zpz.eq_1 <| xg zp0.eq_1 <| rg zp1.eq_1 <| xg zp2.eq_1 <| xg zp3.eq_1 <| xg zp4.eq_1 <| xg zp5.eq_1 <| rg zp6.eq_1 <| rg zp7.eq_1 <| xg zp8.eq_1 <| xg zp9.eq_1 <| xg zqa.eq_1 <| xg zqb.eq_1 <| @ex_of T _ _ zqc.eq_1
def zv6 := @vi T F.zk1 zqe zt2 rfl
theorem zv7 {n : Nat} {H : Hp} {vs : List V} : (orc T (n + 1)).inl F.zk1 vs H = finI H.length true [.tmp 4] (unw T (orc T n) n H.length [] (exec T (orc T n) n H.length (.seq (.reg o_67_1) zqc) (params 0 vs) H)) := by rw [zhw, zt2, y6, zhu]; rfl
def zv8 := rg o_68_1.eq_1 <| rg o_68_2.eq_1 <| rg o_68_3.eq_1 <| xg c_68_4.eq_1 <| rg o_68_5.eq_1 <| xg c_68_6.eq_1 <| @ex_of T _ _ c_68_7.eq_1
def zv9 := @vd T F.zkd zqg [0] zt3 rfl rfl
theorem zwa : zqg.res = [.tmp 2] ∧ zqg.rets = [[4]] ∧ zqg.body = (.seq (.reg o_68_1) c_68_7) := ⟨rfl, rfl, rfl⟩
def zwb := rg o_69_1.eq_1 <| rg o_69_2.eq_1 <| @ex_of T _ _ c_69_3.eq_1
def zwc := @vi T F.zk2 zqi zt4 rfl
theorem zwd {n : Nat} {H : Hp} {vs : List V} : (orc T (n + 1)).inl F.zk2 vs H = finI H.length false [.tmp 3] (unw T (orc T n) n H.length [] (exec T (orc T n) n H.length (.seq (.reg o_69_1) c_69_3) (params 0 vs) H)) := by rw [zhw, zt4, y6, zhu]; rfl
def zwe := rg o_70_1.eq_1 <| rg o_70_2.eq_1 <| rg o_70_3.eq_1 <| rg o_70_4.eq_1 <| rg o_70_5.eq_1 <| rg o_70_6.eq_1 <| xg c_70_7.eq_1 <| xg c_70_8.eq_1 <| rg o_70_9.eq_1 <| xg zqj.eq_1 <| xg zqk.eq_1 <| xg zql.eq_1 <| xg zqm.eq_1 <| xg zqn.eq_1 <| rg zqo.eq_1 <| xg zqp.eq_1 <| @ex_of T _ _ zqq.eq_1
def zwf := @vi T F.zk3 zqs zt5 rfl
theorem zwg {n : Nat} {H : Hp} {vs : List V} : (orc T (n + 1)).inl F.zk3 vs H = finI H.length false [.tmp 4] (unw T (orc T n) n H.length [] (exec T (orc T n) n H.length (.seq (.reg o_70_1) zqq) (params 0 vs) H)) := by rw [zhw, zt5, y6, zhu]; rfl
def zwh := rg o_71_1.eq_1 <| rg o_71_2.eq_1 <| @ex_of T _ _ c_71_3.eq_1
def zwi := @vi T F.zk4 zqu zt6 rfl
theorem zwj {n : Nat} {H : Hp} {vs : List V} : (orc T (n + 1)).inl F.zk4 vs H = finI H.length false [.tmp 3] (unw T (orc T n) n H.length [] (exec T (orc T n) n H.length (.seq (.reg o_71_1) c_71_3) (params 0 vs) H)) := by rw [zhw, zt6, y6, zhu]; rfl
def zwk := rg o_72_1.eq_1 <| rg o_72_2.eq_1 <| rg o_72_3.eq_1 <| rg o_72_4.eq_1 <| rg o_72_5.eq_1 <| xg c_72_6.eq_1 <| rg o_72_7.eq_1 <| rg o_72_8.eq_1 <| rg o_72_9.eq_1 <| xg zqv.eq_1 <| rg zqw.eq_1 <| rg zqx.eq_1 <| xg zqy.eq_1 <| xg zqz.eq_1 <| xg zq0.eq_1 <| xg zq1.eq_1 <| rg zq2.eq_1 <| rg zq3.eq_1 <| xg zq4.eq_1 <| xg zq5.eq_1 <| xg zq6.eq_1 <| rg zq7.eq_1 <| xg zq8.eq_1 <| xg zq9.eq_1 <| xg zra.eq_1 <| xg zrb.eq_1 <| xg zrc.eq_1 <| xg zrd.eq_1 <| xg zre.eq_1 <| xg zrf.eq_1 <| xg zrg.eq_1 <| xg zrh.eq_1 <| @ex_of T _ _ zri.eq_1
def zwl := @vd T F.zke zrk [4, 0, 0] zt7 rfl rfl
theorem zwm : zrk.res = [.tmp 6] ∧ zrk.rets = [[4]] ∧ zrk.body = (.seq (.reg o_72_1) zri) := ⟨rfl, rfl, rfl⟩
def zwn := rg o_79_1.eq_1 <| rg o_79_2.eq_1 <| rg o_79_3.eq_1 <| xg c_79_4.eq_1 <| rg o_79_5.eq_1 <| rg o_79_6.eq_1 <| rg o_79_7.eq_1 <| rg o_79_8.eq_1 <| rg o_79_9.eq_1 <| xg zrl.eq_1 <| xg zrm.eq_1 <| rg zrn.eq_1 <| xg zro.eq_1 <| xg zrp.eq_1 <| xg zrq.eq_1 <| xg zrr.eq_1 <| xg zrs.eq_1 <| rg zrt.eq_1 <| xg zru.eq_1 <| xg zrv.eq_1 <| @ex_of T _ _ zrw.eq_1
def zwo := @vd T F.zkq zry [0, 0] zt8 rfl rfl
theorem zwp : zry.res = [.tmp 4] ∧ zry.rets = [[]] ∧ zry.body = (.seq (.reg o_79_1) zrw) := ⟨rfl, rfl, rfl⟩
def zwq := rg o_94_1.eq_1 <| rg o_94_2.eq_1 <| @ex_of T _ _ c_94_3.eq_1
def zwr := @vi T F.zk5 zr0 zt9 rfl
theorem zws {n : Nat} {H : Hp} {vs : List V} : (orc T (n + 1)).inl F.zk5 vs H = finI H.length false [.tmp 3] (unw T (orc T n) n H.length [] (exec T (orc T n) n H.length (.seq (.reg o_94_1) c_94_3) (params 0 vs) H)) := by rw [zhw, zt9, y6, zhu]; rfl
def zwt := rg o_95_1.eq_1 <| rg o_95_2.eq_1 <| @ex_of T _ _ c_95_3.eq_1
def zwu := @vi T F.zk6 zr2 zua rfl
theorem zwv {n : Nat} {H : Hp} {vs : List V} : (orc T (n + 1)).inl F.zk6 vs H = finI H.length false [.tmp 4] (unw T (orc T n) n H.length [] (exec T (orc T n) n H.length (.seq (.reg o_95_1) c_95_3) (params 0 vs) H)) := by rw [zhw, zua, y6, zhu]; rfl
def zww := rg o_96_1.eq_1 <| rg o_96_2.eq_1 <| @ex_of T _ _ c_96_3.eq_1
def zwx := @vd T F.zjl zr4 [0] zub rfl rfl
theorem zwy : zr4.res = [.tmp 2] ∧ zr4.rets = [[]] ∧ zr4.body = (.seq (.reg o_96_1) c_96_3) := ⟨rfl, rfl, rfl⟩
def zwz := rg o_97_1.eq_1 <| rg o_97_2.eq_1 <| @ex_of T _ _ c_97_3.eq_1
def zw0 := @vd T F.zjk zr6 [0] zuc rfl rfl
theorem zw1 : zr6.res = [.tmp 2] ∧ zr6.rets = [[]] ∧ zr6.body = (.seq (.reg o_97_1) c_97_3) := ⟨rfl, rfl, rfl⟩
def zw2 := rg o_98_1.eq_1 <| rg o_98_2.eq_1 <| rg o_98_3.eq_1 <| rg o_98_4.eq_1 <| xg c_98_5.eq_1 <| rg o_98_6.eq_1 <| rg o_98_7.eq_1 <| xg c_98_8.eq_1 <| rg o_98_9.eq_1 <| xg zr7.eq_1 <| rg zr8.eq_1 <| xg zr9.eq_1 <| xg zsa.eq_1 <| xg zsb.eq_1 <| xg zsc.eq_1 <| rg zsd.eq_1 <| xg zse.eq_1 <| xg zsf.eq_1 <| @ex_of T _ _ zsg.eq_1
def zw3 := @vd T F.zjn zsi [0, 0] zud rfl rfl
theorem zw4 : zsi.res = [.tmp 4] ∧ zsi.rets = [[]] ∧ zsi.body = (.seq (.reg o_98_1) zsg) := ⟨rfl, rfl, rfl⟩
def zw5 := rg o_99_1.eq_1 <| rg o_99_2.eq_1 <| @ex_of T _ _ c_99_3.eq_1
def zw6 := @vd T F.zjr zsk [0] zue rfl rfl
theorem zw7 : zsk.res = [.tmp 2] ∧ zsk.rets = [[]] ∧ zsk.body = (.seq (.reg o_99_1) c_99_3) := ⟨rfl, rfl, rfl⟩
def zw8 := rg zsl.eq_1 <| rg zsm.eq_1 <| xg zsn.eq_1 <| rg zso.eq_1 <| rg zsp.eq_1 <| rg zsq.eq_1 <| xg zsr.eq_1 <| xg zss.eq_1 <| rg zst.eq_1 <| xg zsu.eq_1 <| xg zsv.eq_1 <| @ex_of T _ _ zsw.eq_1
def zw9 := @vi T F.zk7 zsy zuf rfl
theorem zxa {n : Nat} {H : Hp} {vs : List V} : (orc T (n + 1)).inl F.zk7 vs H = finI H.length false [.tmp 4] (unw T (orc T n) n H.length [] (exec T (orc T n) n H.length (.seq (.reg zsl) zsw) (params 0 vs) H)) := by rw [zhw, zuf, y6, zhu]; rfl
def zxb := rg zsz.eq_1 <| rg zs0.eq_1 <| rg zs1.eq_1 <| rg zs2.eq_1 <| rg zs3.eq_1 <| rg zs4.eq_1 <| xg zs5.eq_1 <| xg zs6.eq_1 <| rg zs7.eq_1 <| xg zs8.eq_1 <| xg zs9.eq_1 <| xg zta.eq_1 <| xg ztb.eq_1 <| xg ztc.eq_1 <| rg ztd.eq_1 <| xg zte.eq_1 <| @ex_of T _ _ ztf.eq_1
def zxc := @vi T F.zk8 zth zug rfl
theorem zxd {n : Nat} {H : Hp} {vs : List V} : (orc T (n + 1)).inl F.zk8 vs H = finI H.length false [.tmp 4] (unw T (orc T n) n H.length [] (exec T (orc T n) n H.length (.seq (.reg zsz) ztf) (params 0 vs) H)) := by rw [zhw, zug, y6, zhu]; rfl
end Go.Dvm.C
