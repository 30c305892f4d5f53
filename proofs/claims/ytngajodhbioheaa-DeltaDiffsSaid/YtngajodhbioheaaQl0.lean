/- What each piece of the code comes to: part 1. -/
import Derived.Test.YtngajodhbioheaaQc0
set_option linter.all false
set_option maxRecDepth 100000
set_option maxHeartbeats 4000000
namespace Go.Dvm.C
open Go Go.Dvm
def ke := And.intro @Ow.enc.eq_1 <| And.intro @Sl.enc.eq_1 <| And.intro @I.zjl.enc.eq_1 <| And.intro @I.zjm.enc.eq_1 <| And.intro @I.zjn.enc.eq_1 <| And.intro @I.zjo.enc.eq_1 <| And.intro @I.zjq.enc.eq_1 <| And.intro @I.zjp.enc.eq_1 <| And.intro @arrEnc.eq_1 <| @I.zjr.enc.eq_1
def kf := And.intro @ke @kn
def tab : List (Nat × MFun) := [(3, zl1), (17, zl5), (18, zl7), (19, zm4), (20, zos), (21, zpg), (22, zpi), (24, zp7), (25, zp9), (31, zqd), (39, zqf), (40, zqp), (42, zqr), (44, zqt), (45, zqv), (46, zqx), (47, zqz), (48, zq3), (49, zq7), (50, zq9), (51, zrh), (52, zr2), (53, zsc), (56, zs3), (57, zth), (67, zt1), (68, zt3), (69, zt5), (70, zuf), (71, zuh), (72, zu7), (79, zvl), (88, zv9), (94, zwb), (95, zwd), (96, zwf), (97, zwh), (98, zwt), (99, zwv), (105, zw9), (138, zxu), (139, zx7), (145, zyq)]
abbrev T : Nat → Option MFun := look tab
theorem zyr : T F.zlp = some zl1 := rfl
theorem zys : T F.zk3 = some zl5 := rfl
theorem zyt : T F.zk5 = some zl7 := rfl
theorem zyu : T F.zkf = some zm4 := rfl
theorem zyv : T F.zll = some zos := rfl
theorem zyw : T F.zlo = some zpg := rfl
theorem zyx : T F.zj2 = some zpi := rfl
theorem zyy : T F.zkw = some zp7 := rfl
theorem zyz : T F.zk2 = some zp9 := rfl
theorem zy0 : T F.zkt = some zqd := rfl
theorem zy1 : T F.zld = some zqf := rfl
theorem zy2 : T F.zlc = some zqp := rfl
theorem zy3 : T F.zkz = some zqr := rfl
theorem zy4 : T F.zk4 = some zqt := rfl
theorem zy5 : T F.zlq = some zqv := rfl
theorem zy6 : T F.zj5 = some zqx := rfl
theorem zy7 : T F.zlr = some zqz := rfl
theorem zy8 : T F.zj7 = some zq3 := rfl
theorem zy9 : T F.zj9 = some zq7 := rfl
theorem zza : T F.zka = some zq9 := rfl
theorem zzb : T F.zlf = some zrh := rfl
theorem zzc : T F.zjy = some zr2 := rfl
theorem zzd : T F.zj1 = some zsc := rfl
theorem zze : T F.zkk = some zs3 := rfl
theorem zzf : T F.zk1 = some zth := rfl
theorem zzg : T F.zls = some zt1 := rfl
theorem zzh : T F.zkl = some zt3 := rfl
theorem zzi : T F.zlt = some zt5 := rfl
theorem zzj : T F.zlu = some zuf := rfl
theorem zzk : T F.zlv = some zuh := rfl
theorem zzl : T F.zkm = some zu7 := rfl
theorem zzm : T F.zky = some zvl := rfl
theorem zzn : T F.zla = some zv9 := rfl
theorem zzo : T F.zlw = some zwb := rfl
theorem zzp : T F.zlx = some zwd := rfl
theorem zzq : T F.zjt = some zwf := rfl
theorem zzr : T F.zjs = some zwh := rfl
theorem zzs : T F.zjv = some zwt := rfl
theorem zzt : T F.zjz = some zwv := rfl
theorem zzu : T F.zly = some zw9 := rfl
theorem zzv : T F.zk7 = some zxu := rfl
theorem zzw : T F.zk8 = some zx7 := rfl
theorem zzx : T F.zlz = some zyq := rfl
def rg {P : Prop} {c c' : List MO} (h : c = c') (p : P) := ra (T := T) h p
def xg {P : Prop} {c c' : MC} (h : c = c') (p : P) := xa (T := T) h p
def zzy := rg o_3_1.eq_1 <| rg o_3_2.eq_1 <| rg o_3_3.eq_1 <| rg o_3_4.eq_1 <| rg o_3_5.eq_1 <| rg o_3_6.eq_1 <| xg c_3_7.eq_1 <| rg o_3_8.eq_1 <| rg o_3_9.eq_1 <| rg o_3_10.eq_1 <| rg o_3_11.eq_1 <| xg c_3_12.eq_1 <| xg c_3_13.eq_1 <| xg c_3_14.eq_1 <| xg c_3_15.eq_1 <| xg c_3_16.eq_1 <| xg c_3_17.eq_1 <| xg c_3_18.eq_1 <| @ex_of T _ _ c_3_19.eq_1
def zzz := @vd T F.zlp zl1 [0, 0] zyr rfl rfl
theorem zz0 : zl1.res = [.tmp 4] ∧ zl1.rets = [[]] ∧ zl1.body = (.seq (.reg o_3_1) c_3_19) := ⟨rfl, rfl, rfl⟩
def zz1 := rg o_17_1.eq_1 <| rg o_17_2.eq_1 <| rg o_17_3.eq_1 <| rg o_17_4.eq_1 <| rg o_17_5.eq_1 <| rg o_17_6.eq_1 <| xg c_17_7.eq_1 <| xg c_17_8.eq_1 <| xg c_17_9.eq_1 <| xg zl2.eq_1 <| @ex_of T _ _ zl3.eq_1
def zz2 := @vd T F.zk3 zl5 [] zys rfl rfl
theorem zz3 : zl5.res = [.tmp 0] ∧ zl5.rets = [[]] ∧ zl5.body = (.seq (.reg o_17_1) zl3) := ⟨rfl, rfl, rfl⟩
def zz4 := rg o_18_1.eq_1 <| rg o_18_2.eq_1 <| @ex_of T _ _ c_18_3.eq_1
def zz5 := @vd T F.zk5 zl7 [0] zyt rfl rfl
theorem zz6 : zl7.res = [.tmp 2] ∧ zl7.rets = [[]] ∧ zl7.body = (.seq (.reg o_18_1) c_18_3) := ⟨rfl, rfl, rfl⟩
def zz7 := rg o_19_1.eq_1 <| rg o_19_2.eq_1 <| rg o_19_3.eq_1 <| rg o_19_4.eq_1 <| rg o_19_5.eq_1 <| rg o_19_6.eq_1 <| xg c_19_7.eq_1 <| xg c_19_8.eq_1 <| rg o_19_9.eq_1 <| rg zl8.eq_1 <| rg zl9.eq_1 <| rg zma.eq_1 <| rg zmb.eq_1 <| rg zmc.eq_1 <| rg zmd.eq_1 <| rg zme.eq_1 <| rg zmf.eq_1 <| rg zmg.eq_1 <| rg zmh.eq_1 <| rg zmi.eq_1 <| xg zmj.eq_1 <| xg zmk.eq_1 <| xg zml.eq_1 <| rg zmm.eq_1 <| xg zmn.eq_1 <| xg zmo.eq_1 <| xg zmp.eq_1 <| xg zmq.eq_1 <| xg zmr.eq_1 <| rg zms.eq_1 <| xg zmt.eq_1 <| xg zmu.eq_1 <| xg zmv.eq_1 <| xg zmw.eq_1 <| xg zmx.eq_1 <| xg zmy.eq_1 <| xg zmz.eq_1 <| xg zm0.eq_1 <| xg zm1.eq_1 <| @ex_of T _ _ zm2.eq_1
def zz8 := @vd T F.zkf zm4 [0, 0] zyu rfl rfl
theorem zz9 : zm4.res = [.cell 4 8 true, .tmp 5] ∧ zm4.rets = [[], []] ∧ zm4.body = (.seq (.reg o_19_1) zm2) := ⟨rfl, rfl, rfl⟩
def z0a := rg o_20_1.eq_1 <| rg o_20_2.eq_1 <| rg o_20_3.eq_1 <| rg o_20_4.eq_1 <| rg o_20_5.eq_1 <| xg c_20_6.eq_1 <| rg o_20_7.eq_1 <| rg o_20_8.eq_1 <| xg c_20_9.eq_1 <| rg zm5.eq_1 <| And.intro (@df_of T _ _ [(1, 12), (3, 12), (5, 12), (7, 12)] zm5.eq_1) <| rg zm6.eq_1 <| rg zm7.eq_1 <| xg zm8.eq_1 <| xg zm9.eq_1 <| rg zna.eq_1 <| xg znb.eq_1 <| xg znc.eq_1 <| xg znd.eq_1 <| xg zne.eq_1 <| rg znf.eq_1 <| rg zng.eq_1 <| xg znh.eq_1 <| rg zni.eq_1 <| rg znj.eq_1 <| rg znk.eq_1 <| rg znl.eq_1 <| xg znm.eq_1 <| rg znn.eq_1 <| xg zno.eq_1 <| xg znp.eq_1 <| rg znq.eq_1 <| rg znr.eq_1 <| rg zns.eq_1 <| xg znt.eq_1 <| rg znu.eq_1 <| xg znv.eq_1 <| xg znw.eq_1 <| rg znx.eq_1 <| rg zny.eq_1 <| rg znz.eq_1 <| xg zn0.eq_1 <| rg zn1.eq_1 <| And.intro (@df_of T _ _ [(1, 12), (3, 12), (5, 12), (7, 12)] zn1.eq_1) <| rg zn2.eq_1 <| rg zn3.eq_1 <| And.intro (@df_of T _ _ [(1, 7)] zn3.eq_1) <| xg zn4.eq_1 <| xg zn5.eq_1 <| rg zn6.eq_1 <| xg zn7.eq_1 <| xg zn8.eq_1 <| xg zn9.eq_1 <| xg zoa.eq_1 <| rg zob.eq_1 <| xg zoc.eq_1 <| xg zod.eq_1 <| xg zoe.eq_1 <| xg zof.eq_1 <| xg zog.eq_1 <| xg zoh.eq_1 <| xg zoi.eq_1 <| xg zoj.eq_1 <| xg zok.eq_1 <| xg zol.eq_1 <| xg zom.eq_1 <| xg zon.eq_1 <| xg zoo.eq_1 <| xg zop.eq_1 <| @ex_of T _ _ zoq.eq_1
def z0b := @vd T F.zll zos [0, 0] zyv rfl rfl
theorem z0c : zos.res = [.cell 4 8 true, .tmp 5] ∧ zos.rets = [[], []] ∧ zos.body = (.seq (.reg o_20_1) zoq) := ⟨rfl, rfl, rfl⟩
def z0d := rg o_21_1.eq_1 <| rg o_21_2.eq_1 <| rg o_21_3.eq_1 <| xg c_21_4.eq_1 <| rg o_21_5.eq_1 <| rg o_21_6.eq_1 <| xg c_21_7.eq_1 <| rg o_21_8.eq_1 <| rg o_21_9.eq_1 <| xg zot.eq_1 <| rg zou.eq_1 <| xg zov.eq_1 <| xg zow.eq_1 <| xg zox.eq_1 <| xg zoy.eq_1 <| rg zoz.eq_1 <| rg zo0.eq_1 <| xg zo1.eq_1 <| rg zo2.eq_1 <| rg zo3.eq_1 <| xg zo4.eq_1 <| rg zo5.eq_1 <| xg zo6.eq_1 <| xg zo7.eq_1 <| xg zo8.eq_1 <| xg zo9.eq_1 <| rg zpa.eq_1 <| xg zpb.eq_1 <| xg zpc.eq_1 <| xg zpd.eq_1 <| @ex_of T _ _ zpe.eq_1
def z0e := @vd T F.zlo zpg [0, 0] zyw rfl rfl
theorem z0f : zpg.res = [.tmp 4] ∧ zpg.rets = [[]] ∧ zpg.body = (.seq (.reg o_21_1) zpe) := ⟨rfl, rfl, rfl⟩
def z0g := rg o_22_1.eq_1 <| rg o_22_2.eq_1 <| @ex_of T _ _ c_22_3.eq_1
def z0h := @vd T F.zj2 zpi [0] zyx rfl rfl
theorem z0i : zpi.res = [.tmp 2] ∧ zpi.rets = [[]] ∧ zpi.body = (.seq (.reg o_22_1) c_22_3) := ⟨rfl, rfl, rfl⟩
def z0j := rg o_24_1.eq_1 <| rg o_24_2.eq_1 <| rg o_24_3.eq_1 <| rg o_24_4.eq_1 <| rg o_24_5.eq_1 <| rg o_24_6.eq_1 <| xg c_24_7.eq_1 <| xg c_24_8.eq_1 <| rg o_24_9.eq_1 <| rg zpj.eq_1 <| And.intro (@df_of T _ _ [(2, 16), (2, 17), (19, 16), (19, 17), (21, 16), (21, 17)] zpj.eq_1) <| rg zpk.eq_1 <| rg zpl.eq_1 <| rg zpm.eq_1 <| rg zpn.eq_1 <| xg zpo.eq_1 <| rg zpp.eq_1 <| xg zpq.eq_1 <| xg zpr.eq_1 <| xg zps.eq_1 <| xg zpt.eq_1 <| xg zpu.eq_1 <| rg zpv.eq_1 <| rg zpw.eq_1 <| xg zpx.eq_1 <| rg zpy.eq_1 <| xg zpz.eq_1 <| xg zp0.eq_1 <| xg zp1.eq_1 <| xg zp2.eq_1 <| xg zp3.eq_1 <| xg zp4.eq_1 <| @ex_of T _ _ zp5.eq_1
def z0k := @vd T F.zkw zp7 [0, 0] zyy rfl rfl
theorem z0l : zp7.res = [.cell 4 6 true, .tmp 5] ∧ zp7.rets = [[], []] ∧ zp7.body = (.seq (.reg o_24_1) zp5) := ⟨rfl, rfl, rfl⟩
def z0m := rg o_25_1.eq_1 <| rg o_25_2.eq_1 <| @ex_of T _ _ c_25_3.eq_1
def z0n := @vd T F.zk2 zp9 [0, 0] zyz rfl rfl
theorem z0o : zp9.res = [.tmp 4] ∧ zp9.rets = [[]] ∧ zp9.body = (.seq (.reg o_25_1) c_25_3) := ⟨rfl, rfl, rfl⟩
def z0p := rg o_31_1.eq_1 <| rg o_31_2.eq_1 <| rg o_31_3.eq_1 <| rg o_31_4.eq_1 <| rg o_31_5.eq_1 <| xg c_31_6.eq_1 <| rg o_31_7.eq_1 <| xg c_31_8.eq_1 <| xg c_31_9.eq_1 <| xg zqa.eq_1 <| @ex_of T _ _ zqb.eq_1
def z0q := @vd T F.zkt zqd [0, 0] zy0 rfl rfl
theorem z0r : zqd.res = [.tmp 4] ∧ zqd.rets = [[4]] ∧ zqd.body = (.seq (.reg o_31_1) zqb) := ⟨rfl, rfl, rfl⟩
def z0s := rg o_39_1.eq_1 <| rg o_39_2.eq_1 <| rg o_39_3.eq_1 <| rg o_39_4.eq_1 <| xg c_39_5.eq_1 <| xg c_39_6.eq_1 <| @ex_of T _ _ c_39_7.eq_1
def z0t := @vd T F.zld zqf [0] zy1 rfl rfl
theorem z0u : zqf.res = [.tmp 2] ∧ zqf.rets = [[]] ∧ zqf.body = (.seq (.reg o_39_1) c_39_7) := ⟨rfl, rfl, rfl⟩
def z0v := rg o_40_1.eq_1 <| rg o_40_2.eq_1 <| rg o_40_3.eq_1 <| xg c_40_4.eq_1 <| rg o_40_5.eq_1 <| rg o_40_6.eq_1 <| rg o_40_7.eq_1 <| xg c_40_8.eq_1 <| xg c_40_9.eq_1 <| rg zqg.eq_1 <| xg zqh.eq_1 <| xg zqi.eq_1 <| xg zqj.eq_1 <| xg zqk.eq_1 <| rg zql.eq_1 <| xg zqm.eq_1 <| @ex_of T _ _ zqn.eq_1
def z0w := @vd T F.zlc zqp [0] zy2 rfl rfl
theorem z0x : zqp.res = [.tmp 2] ∧ zqp.rets = [[]] ∧ zqp.body = (.seq (.reg o_40_1) zqn) := ⟨rfl, rfl, rfl⟩
def z0y := rg o_42_1.eq_1 <| rg o_42_2.eq_1 <| @ex_of T _ _ c_42_3.eq_1
def z0z := @vd T F.zkz zqr [0, 0] zy3 rfl rfl
theorem z00 : zqr.res = [.tmp 4] ∧ zqr.rets = [[]] ∧ zqr.body = (.seq (.reg o_42_1) c_42_3) := ⟨rfl, rfl, rfl⟩
def z01 := rg o_44_1.eq_1 <| rg o_44_2.eq_1 <| @ex_of T _ _ c_44_3.eq_1
def z02 := @vd T F.zk4 zqt [0] zy4 rfl rfl
theorem z03 : zqt.res = [.tmp 2] ∧ zqt.rets = [[]] ∧ zqt.body = (.seq (.reg o_44_1) c_44_3) := ⟨rfl, rfl, rfl⟩
def z04 := rg o_45_1.eq_1 <| rg o_45_2.eq_1 <| @ex_of T _ _ c_45_3.eq_1
def z05 := @vi T F.zlq zqv zy5 rfl
theorem z06 {n : Nat} {H : Hp} {vs : List V} : (orc T (n + 1)).inl F.zlq vs H = finI H.length false [.tmp 3] (unw T (orc T n) n H.length [] (exec T (orc T n) n H.length (.seq (.reg o_45_1) c_45_3) (params 0 vs) H)) := by rw [zhx, zy5, y8, zhv]; rfl
def z07 := rg o_46_1.eq_1 <| rg o_46_2.eq_1 <| @ex_of T _ _ c_46_3.eq_1
def z08 := @vd T F.zj5 zqx [0, 0] zy6 rfl rfl
theorem z09 : zqx.res = [.tmp 4] ∧ zqx.rets = [[]] ∧ zqx.body = (.seq (.reg o_46_1) c_46_3) := ⟨rfl, rfl, rfl⟩
def z1a := rg o_47_1.eq_1 <| rg o_47_2.eq_1 <| @ex_of T _ _ c_47_3.eq_1
def z1b := @vi T F.zlr zqz zy7 rfl
theorem z1c {n : Nat} {H : Hp} {vs : List V} : (orc T (n + 1)).inl F.zlr vs H = finI H.length false [.tmp 4] (unw T (orc T n) n H.length [] (exec T (orc T n) n H.length (.seq (.reg o_47_1) c_47_3) (params 0 vs) H)) := by rw [zhx, zy7, y8, zhv]; rfl
def z1d := rg o_48_1.eq_1 <| rg o_48_2.eq_1 <| rg o_48_3.eq_1 <| xg c_48_4.eq_1 <| rg o_48_5.eq_1 <| xg c_48_6.eq_1 <| xg c_48_7.eq_1 <| rg o_48_8.eq_1 <| xg c_48_9.eq_1 <| xg zq0.eq_1 <| @ex_of T _ _ zq1.eq_1
def z1e := @vd T F.zj7 zq3 [0, 0] zy8 rfl rfl
theorem z1f : zq3.res = [.tmp 4] ∧ zq3.rets = [[]] ∧ zq3.body = (.seq (.reg o_48_1) zq1) := ⟨rfl, rfl, rfl⟩
def z1g := rg o_49_1.eq_1 <| rg o_49_2.eq_1 <| rg o_49_3.eq_1 <| xg c_49_4.eq_1 <| rg o_49_5.eq_1 <| xg c_49_6.eq_1 <| xg c_49_7.eq_1 <| rg o_49_8.eq_1 <| xg c_49_9.eq_1 <| xg zq4.eq_1 <| @ex_of T _ _ zq5.eq_1
def z1h := @vd T F.zj9 zq7 [0, 0] zy9 rfl rfl
theorem z1i : zq7.res = [.tmp 4] ∧ zq7.rets = [[]] ∧ zq7.body = (.seq (.reg o_49_1) zq5) := ⟨rfl, rfl, rfl⟩
def z1j := rg o_50_1.eq_1 <| rg o_50_2.eq_1 <| rg o_50_3.eq_1 <| xg c_50_4.eq_1 <| rg o_50_5.eq_1 <| xg c_50_6.eq_1 <| @ex_of T _ _ c_50_7.eq_1
def z1k := @vd T F.zka zq9 [0] zza rfl rfl
theorem z1l : zq9.res = [.tmp 2] ∧ zq9.rets = [[2]] ∧ zq9.body = (.seq (.reg o_50_1) c_50_7) := ⟨rfl, rfl, rfl⟩
def z1m := rg o_51_1.eq_1 <| rg o_51_2.eq_1 <| rg o_51_3.eq_1 <| xg c_51_4.eq_1 <| rg o_51_5.eq_1 <| rg o_51_6.eq_1 <| xg c_51_7.eq_1 <| rg o_51_8.eq_1 <| xg c_51_9.eq_1 <| xg zra.eq_1 <| xg zrb.eq_1 <| xg zrc.eq_1 <| rg zrd.eq_1 <| xg zre.eq_1 <| @ex_of T _ _ zrf.eq_1
def z1n := @vd T F.zlf zrh [0, 0] zzb rfl rfl
theorem z1o : zrh.res = [.cell 4 3 true, .tmp 5] ∧ zrh.rets = [[], []] ∧ zrh.body = (.seq (.reg o_51_1) zrf) := ⟨rfl, rfl, rfl⟩
def z1p := rg o_52_1.eq_1 <| rg o_52_2.eq_1 <| rg o_52_3.eq_1 <| xg c_52_4.eq_1 <| rg o_52_5.eq_1 <| rg o_52_6.eq_1 <| rg o_52_7.eq_1 <| rg o_52_8.eq_1 <| xg c_52_9.eq_1 <| rg zri.eq_1 <| rg zrj.eq_1 <| rg zrk.eq_1 <| xg zrl.eq_1 <| rg zrm.eq_1 <| rg zrn.eq_1 <| rg zro.eq_1 <| rg zrp.eq_1 <| rg zrq.eq_1 <| xg zrr.eq_1 <| xg zrs.eq_1 <| xg zrt.eq_1 <| xg zru.eq_1 <| xg zrv.eq_1 <| rg zrw.eq_1 <| xg zrx.eq_1 <| xg zry.eq_1 <| xg zrz.eq_1 <| @ex_of T _ _ zr0.eq_1
def z1q := @vd T F.zjy zr2 [0] zzc rfl rfl
theorem z1r : zr2.res = [.tmp 2] ∧ zr2.rets = [[]] ∧ zr2.body = (.seq (.reg o_52_1) zr0) := ⟨rfl, rfl, rfl⟩
def z1s := rg o_53_1.eq_1 <| rg o_53_2.eq_1 <| rg o_53_3.eq_1 <| rg o_53_4.eq_1 <| rg o_53_5.eq_1 <| rg o_53_6.eq_1 <| xg c_53_7.eq_1 <| xg c_53_8.eq_1 <| rg o_53_9.eq_1 <| xg zr3.eq_1 <| xg zr4.eq_1 <| xg zr5.eq_1 <| xg zr6.eq_1 <| xg zr7.eq_1 <| rg zr8.eq_1 <| xg zr9.eq_1 <| @ex_of T _ _ zsa.eq_1
def z1t := @vd T F.zj1 zsc [0] zzd rfl rfl
theorem z1u : zsc.res = [.tmp 2] ∧ zsc.rets = [[]] ∧ zsc.body = (.seq (.reg o_53_1) zsa) := ⟨rfl, rfl, rfl⟩
def z1v := rg o_56_1.eq_1 <| rg o_56_2.eq_1 <| rg o_56_3.eq_1 <| rg o_56_4.eq_1 <| rg o_56_5.eq_1 <| rg o_56_6.eq_1 <| rg o_56_7.eq_1 <| xg c_56_8.eq_1 <| xg c_56_9.eq_1 <| xg zsd.eq_1 <| rg zse.eq_1 <| xg zsf.eq_1 <| xg zsg.eq_1 <| xg zsh.eq_1 <| xg zsi.eq_1 <| xg zsj.eq_1 <| rg zsk.eq_1 <| rg zsl.eq_1 <| rg zsm.eq_1 <| rg zsn.eq_1 <| rg zso.eq_1 <| xg zsp.eq_1 <| rg zsq.eq_1 <| xg zsr.eq_1 <| xg zss.eq_1 <| xg zst.eq_1 <| xg zsu.eq_1 <| xg zsv.eq_1 <| rg zsw.eq_1 <| xg zsx.eq_1 <| xg zsy.eq_1 <| xg zsz.eq_1 <| xg zs0.eq_1 <| @ex_of T _ _ zs1.eq_1
def z1w := @vd T F.zkk zs3 [0] zze rfl rfl
theorem z1x : zs3.res = [.tmp 2] ∧ zs3.rets = [[2]] ∧ zs3.body = (.seq (.reg o_56_1) zs1) := ⟨rfl, rfl, rfl⟩
def z1y := rg o_57_1.eq_1 <| rg o_57_2.eq_1 <| rg o_57_3.eq_1 <| xg c_57_4.eq_1 <| rg o_57_5.eq_1 <| rg o_57_6.eq_1 <| rg o_57_7.eq_1 <| rg o_57_8.eq_1 <| rg o_57_9.eq_1 <| xg zs4.eq_1 <| xg zs5.eq_1 <| rg zs6.eq_1 <| xg zs7.eq_1 <| xg zs8.eq_1 <| xg zs9.eq_1 <| xg zta.eq_1 <| xg ztb.eq_1 <| rg ztc.eq_1 <| xg ztd.eq_1 <| xg zte.eq_1 <| @ex_of T _ _ ztf.eq_1
def z1z := @vd T F.zk1 zth [0, 0] zzf rfl rfl
theorem z10 : zth.res = [.tmp 4] ∧ zth.rets = [[]] ∧ zth.body = (.seq (.reg o_57_1) ztf) := ⟨rfl, rfl, rfl⟩
def z11 := rg o_67_1.eq_1 <| rg o_67_2.eq_1 <| rg o_67_3.eq_1 <| rg o_67_4.eq_1 <| xg c_67_5.eq_1 <| rg o_67_6.eq_1 <| rg o_67_7.eq_1 <| xg c_67_8.eq_1 <| rg o_67_9.eq_1 <| rg zti.eq_1 <| rg ztj.eq_1 <| rg ztk.eq_1 <| xg ztl.eq_1 <| xg ztm.eq_1 <| xg ztn.eq_1 <| rg zto.eq_1 <| xg ztp.eq_1 <| xg ztq.eq_1 <| xg ztr.eq_1 <| xg zts.eq_1 <| rg ztt.eq_1 <| rg ztu.eq_1 <| xg ztv.eq_1 <| xg ztw.eq_1 <| xg ztx.eq_1 <| xg zty.eq_1 <| @ex_of T _ _ ztz.eq_1
def z12 := @vi T F.zls zt1 zzg rfl
theorem z13 {n : Nat} {H : Hp} {vs : List V} : (orc T (n + 1)).inl F.zls vs H = finI H.length true [.tmp 4] (unw T (orc T n) n H.length [] (exec T (orc T n) n H.length (.seq (.reg o_67_1) ztz) (params 0 vs) H)) := by rw [zhx, zzg, y8, zhv]; rfl
def z14 := rg o_68_1.eq_1 <| rg o_68_2.eq_1 <| rg o_68_3.eq_1 <| xg c_68_4.eq_1 <| rg o_68_5.eq_1 <| xg c_68_6.eq_1 <| @ex_of T _ _ c_68_7.eq_1
def z15 := @vd T F.zkl zt3 [0] zzh rfl rfl
theorem z16 : zt3.res = [.tmp 2] ∧ zt3.rets = [[4]] ∧ zt3.body = (.seq (.reg o_68_1) c_68_7) := ⟨rfl, rfl, rfl⟩
def z17 := rg o_69_1.eq_1 <| rg o_69_2.eq_1 <| @ex_of T _ _ c_69_3.eq_1
def z18 := @vi T F.zlt zt5 zzi rfl
theorem z19 {n : Nat} {H : Hp} {vs : List V} : (orc T (n + 1)).inl F.zlt vs H = finI H.length false [.tmp 3] (unw T (orc T n) n H.length [] (exec T (orc T n) n H.length (.seq (.reg o_69_1) c_69_3) (params 0 vs) H)) := by rw [zhx, zzi, y8, zhv]; rfl
def z2a := rg o_70_1.eq_1 <| rg o_70_2.eq_1 <| rg o_70_3.eq_1 <| rg o_70_4.eq_1 <| rg o_70_5.eq_1 <| rg o_70_6.eq_1 <| xg c_70_7.eq_1 <| xg c_70_8.eq_1 <| rg o_70_9.eq_1 <| xg zt6.eq_1 <| xg zt7.eq_1 <| xg zt8.eq_1 <| xg zt9.eq_1 <| xg zua.eq_1 <| rg zub.eq_1 <| xg zuc.eq_1 <| @ex_of T _ _ zud.eq_1
def z2b := @vi T F.zlu zuf zzj rfl
theorem z2c {n : Nat} {H : Hp} {vs : List V} : (orc T (n + 1)).inl F.zlu vs H = finI H.length false [.tmp 4] (unw T (orc T n) n H.length [] (exec T (orc T n) n H.length (.seq (.reg o_70_1) zud) (params 0 vs) H)) := by rw [zhx, zzj, y8, zhv]; rfl
def z2d := rg o_71_1.eq_1 <| rg o_71_2.eq_1 <| @ex_of T _ _ c_71_3.eq_1
def z2e := @vi T F.zlv zuh zzk rfl
theorem z2f {n : Nat} {H : Hp} {vs : List V} : (orc T (n + 1)).inl F.zlv vs H = finI H.length false [.tmp 3] (unw T (orc T n) n H.length [] (exec T (orc T n) n H.length (.seq (.reg o_71_1) c_71_3) (params 0 vs) H)) := by rw [zhx, zzk, y8, zhv]; rfl
def z2g := rg o_72_1.eq_1 <| rg o_72_2.eq_1 <| rg o_72_3.eq_1 <| rg o_72_4.eq_1 <| rg o_72_5.eq_1 <| xg c_72_6.eq_1 <| rg o_72_7.eq_1 <| rg o_72_8.eq_1 <| rg o_72_9.eq_1 <| xg zui.eq_1 <| rg zuj.eq_1 <| rg zuk.eq_1 <| xg zul.eq_1 <| xg zum.eq_1 <| xg zun.eq_1 <| xg zuo.eq_1 <| rg zup.eq_1 <| rg zuq.eq_1 <| xg zur.eq_1 <| xg zus.eq_1 <| xg zut.eq_1 <| rg zuu.eq_1 <| xg zuv.eq_1 <| xg zuw.eq_1 <| xg zux.eq_1 <| xg zuy.eq_1 <| xg zuz.eq_1 <| xg zu0.eq_1 <| xg zu1.eq_1 <| xg zu2.eq_1 <| xg zu3.eq_1 <| xg zu4.eq_1 <| @ex_of T _ _ zu5.eq_1
def z2h := @vd T F.zkm zu7 [4, 0, 0] zzl rfl rfl
theorem z2i : zu7.res = [.tmp 6] ∧ zu7.rets = [[4]] ∧ zu7.body = (.seq (.reg o_72_1) zu5) := ⟨rfl, rfl, rfl⟩
def z2j := rg o_79_1.eq_1 <| rg o_79_2.eq_1 <| rg o_79_3.eq_1 <| xg c_79_4.eq_1 <| rg o_79_5.eq_1 <| rg o_79_6.eq_1 <| rg o_79_7.eq_1 <| rg o_79_8.eq_1 <| rg o_79_9.eq_1 <| xg zu8.eq_1 <| xg zu9.eq_1 <| rg zva.eq_1 <| xg zvb.eq_1 <| xg zvc.eq_1 <| xg zvd.eq_1 <| xg zve.eq_1 <| xg zvf.eq_1 <| rg zvg.eq_1 <| xg zvh.eq_1 <| xg zvi.eq_1 <| @ex_of T _ _ zvj.eq_1
def z2k := @vd T F.zky zvl [0, 0] zzm rfl rfl
theorem z2l : zvl.res = [.tmp 4] ∧ zvl.rets = [[]] ∧ zvl.body = (.seq (.reg o_79_1) zvj) := ⟨rfl, rfl, rfl⟩
def z2m := rg o_88_1.eq_1 <| rg o_88_2.eq_1 <| rg o_88_3.eq_1 <| xg c_88_4.eq_1 <| rg o_88_5.eq_1 <| rg o_88_6.eq_1 <| xg c_88_7.eq_1 <| rg o_88_8.eq_1 <| rg o_88_9.eq_1 <| xg zvm.eq_1 <| rg zvn.eq_1 <| rg zvo.eq_1 <| xg zvp.eq_1 <| rg zvq.eq_1 <| rg zvr.eq_1 <| xg zvs.eq_1 <| rg zvt.eq_1 <| And.intro (@dr_of T _ _ [(1, 10), (3, 10), (4, 10)] zvt.eq_1 (by decide)) <| rg zvu.eq_1 <| xg zvv.eq_1 <| rg zvw.eq_1 <| xg zvx.eq_1 <| xg zvy.eq_1 <| xg zvz.eq_1 <| xg zv0.eq_1 <| rg zv1.eq_1 <| xg zv2.eq_1 <| xg zv3.eq_1 <| xg zv4.eq_1 <| xg zv5.eq_1 <| xg zv6.eq_1 <| @ex_of T _ _ zv7.eq_1
def z2n := @vd T F.zla zv9 [0] zzn rfl rfl
theorem z2o : zv9.res = [.tmp 2] ∧ zv9.rets = [[]] ∧ zv9.body = (.seq (.reg o_88_1) zv7) := ⟨rfl, rfl, rfl⟩
def z2p := rg o_94_1.eq_1 <| rg o_94_2.eq_1 <| @ex_of T _ _ c_94_3.eq_1
def z2q := @vi T F.zlw zwb zzo rfl
theorem z2r {n : Nat} {H : Hp} {vs : List V} : (orc T (n + 1)).inl F.zlw vs H = finI H.length false [.tmp 3] (unw T (orc T n) n H.length [] (exec T (orc T n) n H.length (.seq (.reg o_94_1) c_94_3) (params 0 vs) H)) := by rw [zhx, zzo, y8, zhv]; rfl
def z2s := rg o_95_1.eq_1 <| rg o_95_2.eq_1 <| @ex_of T _ _ c_95_3.eq_1
def z2t := @vi T F.zlx zwd zzp rfl
theorem z2u {n : Nat} {H : Hp} {vs : List V} : (orc T (n + 1)).inl F.zlx vs H = finI H.length false [.tmp 4] (unw T (orc T n) n H.length [] (exec T (orc T n) n H.length (.seq (.reg o_95_1) c_95_3) (params 0 vs) H)) := by rw [zhx, zzp, y8, zhv]; rfl
def z2v := rg o_96_1.eq_1 <| rg o_96_2.eq_1 <| @ex_of T _ _ c_96_3.eq_1
def z2w := @vd T F.zjt zwf [0] zzq rfl rfl
theorem z2x : zwf.res = [.tmp 2] ∧ zwf.rets = [[]] ∧ zwf.body = (.seq (.reg o_96_1) c_96_3) := ⟨rfl, rfl, rfl⟩
def z2y := rg o_97_1.eq_1 <| rg o_97_2.eq_1 <| @ex_of T _ _ c_97_3.eq_1
def z2z := @vd T F.zjs zwh [0] zzr rfl rfl
theorem z20 : zwh.res = [.tmp 2] ∧ zwh.rets = [[]] ∧ zwh.body = (.seq (.reg o_97_1) c_97_3) := ⟨rfl, rfl, rfl⟩
def z21 := rg o_98_1.eq_1 <| rg o_98_2.eq_1 <| rg o_98_3.eq_1 <| rg o_98_4.eq_1 <| xg c_98_5.eq_1 <| rg o_98_6.eq_1 <| rg o_98_7.eq_1 <| xg c_98_8.eq_1 <| rg o_98_9.eq_1 <| xg zwi.eq_1 <| rg zwj.eq_1 <| xg zwk.eq_1 <| xg zwl.eq_1 <| xg zwm.eq_1 <| xg zwn.eq_1 <| rg zwo.eq_1 <| xg zwp.eq_1 <| xg zwq.eq_1 <| @ex_of T _ _ zwr.eq_1
def z22 := @vd T F.zjv zwt [0, 0] zzs rfl rfl
theorem z23 : zwt.res = [.tmp 4] ∧ zwt.rets = [[]] ∧ zwt.body = (.seq (.reg o_98_1) zwr) := ⟨rfl, rfl, rfl⟩
def z24 := rg o_99_1.eq_1 <| rg o_99_2.eq_1 <| @ex_of T _ _ c_99_3.eq_1
def z25 := @vd T F.zjz zwv [0] zzt rfl rfl
theorem z26 : zwv.res = [.tmp 2] ∧ zwv.rets = [[]] ∧ zwv.body = (.seq (.reg o_99_1) c_99_3) := ⟨rfl, rfl, rfl⟩
def z27 := rg zww.eq_1 <| rg zwx.eq_1 <| xg zwy.eq_1 <| rg zwz.eq_1 <| rg zw0.eq_1 <| rg zw1.eq_1 <| xg zw2.eq_1 <| xg zw3.eq_1 <| rg zw4.eq_1 <| xg zw5.eq_1 <| xg zw6.eq_1 <| @ex_of T _ _ zw7.eq_1
def z28 := @vi T F.zly zw9 zzu rfl
theorem z29 {n : Nat} {H : Hp} {vs : List V} : (orc T (n + 1)).inl F.zly vs H = finI H.length false [.tmp 4] (unw T (orc T n) n H.length [] (exec T (orc T n) n H.length (.seq (.reg zww) zw7) (params 0 vs) H)) := by rw [zhx, zzu, y8, zhv]; rfl
def z3a := rg zxa.eq_1 <| rg zxb.eq_1 <| rg zxc.eq_1 <| xg zxd.eq_1 <| rg zxe.eq_1 <| rg zxf.eq_1 <| xg zxg.eq_1 <| rg zxh.eq_1 <| rg zxi.eq_1 <| xg zxj.eq_1 <| rg zxk.eq_1 <| xg zxl.eq_1 <| xg zxm.eq_1 <| xg zxn.eq_1 <| xg zxo.eq_1 <| rg zxp.eq_1 <| xg zxq.eq_1 <| xg zxr.eq_1 <| @ex_of T _ _ zxs.eq_1
def z3b := @vd T F.zk7 zxu [0, 0] zzv rfl rfl
theorem z3c : zxu.res = [.tmp 4] ∧ zxu.rets = [[]] ∧ zxu.body = (.seq (.reg zxa) zxs) := ⟨rfl, rfl, rfl⟩
def z3d := rg zxv.eq_1 <| rg zxw.eq_1 <| rg zxx.eq_1 <| xg zxy.eq_1 <| rg zxz.eq_1 <| rg zx0.eq_1 <| xg zx1.eq_1 <| rg zx2.eq_1 <| xg zx3.eq_1 <| xg zx4.eq_1 <| @ex_of T _ _ zx5.eq_1
def z3e := @vd T F.zk8 zx7 [0] zzw rfl rfl
theorem z3f : zx7.res = [.tmp 2] ∧ zx7.rets = [[]] ∧ zx7.body = (.seq (.reg zxv) zx5) := ⟨rfl, rfl, rfl⟩
def z3g := rg zx8.eq_1 <| rg zx9.eq_1 <| rg zya.eq_1 <| rg zyb.eq_1 <| rg zyc.eq_1 <| rg zyd.eq_1 <| xg zye.eq_1 <| xg zyf.eq_1 <| rg zyg.eq_1 <| xg zyh.eq_1 <| xg zyi.eq_1 <| xg zyj.eq_1 <| xg zyk.eq_1 <| xg zyl.eq_1 <| rg zym.eq_1 <| xg zyn.eq_1 <| @ex_of T _ _ zyo.eq_1
def z3h := @vi T F.zlz zyq zzx rfl
theorem z3i {n : Nat} {H : Hp} {vs : List V} : (orc T (n + 1)).inl F.zlz vs H = finI H.length false [.tmp 4] (unw T (orc T n) n H.length [] (exec T (orc T n) n H.length (.seq (.reg zx8) zyo) (params 0 vs) H)) := by rw [zhx, zzx, y8, zhv]; rfl
end Go.Dvm.C
