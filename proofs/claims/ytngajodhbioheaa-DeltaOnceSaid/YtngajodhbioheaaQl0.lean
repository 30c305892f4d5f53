/- What each piece of the code comes to: part 1. -/
import Derived.Test.YtngajodhbioheaaQc0
set_option linter.all false
set_option maxRecDepth 100000
set_option maxHeartbeats 4000000
namespace Go.Dvm.C
open Go Go.Dvm
def ke := And.intro @Ow.enc.eq_1 <| And.intro @Sl.enc.eq_1 <| And.intro @I.zjj.enc.eq_1 <| And.intro @I.zjk.enc.eq_1 <| And.intro @I.zjl.enc.eq_1 <| And.intro @I.zjm.enc.eq_1 <| And.intro @I.zjo.enc.eq_1 <| And.intro @I.zjn.enc.eq_1 <| And.intro @arrEnc.eq_1 <| @I.zjp.enc.eq_1
def kf := And.intro @ke @kn
def tab : List (Nat × MFun) := [(6, zn2), (17, zn6), (19, zo3), (22, zo5), (24, zpu), (25, zpw), (26, zqa), (27, zq8), (31, zrc), (42, zre), (45, zrg), (46, zri), (47, zrk), (48, zro), (49, zrs), (50, zru), (52, zsf), (53, zsp), (56, ztg), (57, ztu), (58, zuc), (59, zvg), (60, zvi), (61, zvq), (62, zvs), (63, zvu), (67, zwe), (68, zwg), (69, zwi), (70, zws), (71, zwu), (72, zxk), (79, zxy), (81, zx0), (83, zx2), (84, zx4), (91, zyv), (94, zyx), (95, zyz), (96, zy1), (97, zy3), (98, zzf), (99, zzh), (105, zzv), (106, zz0), (107, z0b), (108, z0y), (109, z03), (110, z1c), (111, z1p), (112, z1u), (113, z1z), (114, z14), (115, z2n), (116, z20), (117, z25), (135, z3o), (136, z39), (142, z4n), (145, z46), (151, z5b), (152, z5g), (153, z6e), (154, z6j), (155, z6s), (156, z63), (157, z68), (167, z75), (170, z8o), (171, z8t)]
abbrev T : Nat → Option MFun := look tab
theorem z8u : T F.znj = some zn2 := rfl
theorem z8v : T F.zk1 = some zn6 := rfl
theorem z8w : T F.zkd = some zo3 := rfl
theorem z8x : T F.zj0 = some zo5 := rfl
theorem z8y : T F.zku = some zpu := rfl
theorem z8z : T F.zk0 = some zpw := rfl
theorem z80 : T F.zm1 = some zqa := rfl
theorem z81 : T F.zni = some zq8 := rfl
theorem z82 : T F.zkr = some zrc := rfl
theorem z83 : T F.zkx = some zre := rfl
theorem z84 : T F.znk = some zrg := rfl
theorem z85 : T F.zj3 = some zri := rfl
theorem z86 : T F.znl = some zrk := rfl
theorem z87 : T F.zj5 = some zro := rfl
theorem z88 : T F.zj7 = some zrs := rfl
theorem z89 : T F.zj8 = some zru := rfl
theorem z9a : T F.zjw = some zsf := rfl
theorem z9b : T F.zjz = some zsp := rfl
theorem z9c : T F.zki = some ztg := rfl
theorem z9d : T F.zkz = some ztu := rfl
theorem z9e : T F.zlm = some zuc := rfl
theorem z9f : T F.zmq = some zvg := rfl
theorem z9g : T F.zm0 = some zvi := rfl
theorem z9h : T F.zm7 = some zvq := rfl
theorem z9i : T F.zm9 = some zvs := rfl
theorem z9j : T F.znf = some zvu := rfl
theorem z9k : T F.znm = some zwe := rfl
theorem z9l : T F.zkj = some zwg := rfl
theorem z9m : T F.znn = some zwi := rfl
theorem z9n : T F.zno = some zws := rfl
theorem z9o : T F.znp = some zwu := rfl
theorem z9p : T F.zkk = some zxk := rfl
theorem z9q : T F.zkw = some zxy := rfl
theorem z9r : T F.zm4 = some zx0 := rfl
theorem z9s : T F.zlh = some zx2 := rfl
theorem z9t : T F.zle = some zx4 := rfl
theorem z9u : T F.zne = some zyv := rfl
theorem z9v : T F.znq = some zyx := rfl
theorem z9w : T F.znr = some zyz := rfl
theorem z9x : T F.zjr = some zy1 := rfl
theorem z9y : T F.zjq = some zy3 := rfl
theorem z9z : T F.zjt = some zzf := rfl
theorem z90 : T F.zjx = some zzh := rfl
theorem z91 : T F.zns = some zzv := rfl
theorem z92 : T F.zk5 = some zz0 := rfl
theorem z93 : T F.zk8 = some z0b := rfl
theorem z94 : T F.zlk = some z0y := rfl
theorem z95 : T F.zli = some z03 := rfl
theorem z96 : T F.zll = some z1c := rfl
theorem z97 : T F.znt = some z1p := rfl
theorem z98 : T F.znu = some z1u := rfl
theorem z99 : T F.zmv = some z1z := rfl
theorem zbaa : T F.zmu = some z14 := rfl
theorem zbab : T F.zmx = some z2n := rfl
theorem zbac : T F.zm3 = some z20 := rfl
theorem zbad : T F.zm8 = some z25 := rfl
theorem zbae : T F.zlg = some z3o := rfl
theorem zbaf : T F.zld = some z39 := rfl
theorem zbag : T F.znv = some z4n := rfl
theorem zbah : T F.znw = some z46 := rfl
theorem zbai : T F.znx = some z5b := rfl
theorem zbaj : T F.zk2 = some z5g := rfl
theorem zbak : T F.zk7 = some z6e := rfl
theorem zbal : T F.zny = some z6j := rfl
theorem zbam : T F.znz = some z6s := rfl
theorem zban : T F.zlo = some z63 := rfl
theorem zbao : T F.zmr = some z68 := rfl
theorem zbap : T F.zlb = some z75 := rfl
theorem zbaq : T F.zn0 = some z8o := rfl
theorem zbar : T F.zln = some z8t := rfl
def rg {P : Prop} {c c' : List MO} (h : c = c') (p : P) := ra (T := T) h p
def xg {P : Prop} {c c' : MC} (h : c = c') (p : P) := xa (T := T) h p
def zbas := rg o_6_1.eq_1 <| rg o_6_2.eq_1 <| rg o_6_3.eq_1 <| rg o_6_4.eq_1 <| xg c_6_5.eq_1 <| rg o_6_6.eq_1 <| rg o_6_7.eq_1 <| rg o_6_8.eq_1 <| xg c_6_9.eq_1 <| rg o_6_10.eq_1 <| rg o_6_11.eq_1 <| xg c_6_12.eq_1 <| xg c_6_13.eq_1 <| xg c_6_14.eq_1 <| xg c_6_15.eq_1 <| xg c_6_16.eq_1 <| @ex_of T _ _ c_6_17.eq_1
def zbat := @vd T F.znj zn2 [0] z8u rfl rfl
theorem zbau : zn2.res = [.tmp 2] ∧ zn2.rets = [[]] ∧ zn2.body = (.seq (.reg o_6_1) c_6_17) := ⟨rfl, rfl, rfl⟩
def zbav := rg o_17_1.eq_1 <| rg o_17_2.eq_1 <| rg o_17_3.eq_1 <| rg o_17_4.eq_1 <| rg o_17_5.eq_1 <| rg o_17_6.eq_1 <| xg c_17_7.eq_1 <| xg c_17_8.eq_1 <| xg c_17_9.eq_1 <| xg zn3.eq_1 <| @ex_of T _ _ zn4.eq_1
def zbaw := @vd T F.zk1 zn6 [] z8v rfl rfl
theorem zbax : zn6.res = [.tmp 0] ∧ zn6.rets = [[]] ∧ zn6.body = (.seq (.reg o_17_1) zn4) := ⟨rfl, rfl, rfl⟩
def zbay := rg o_19_1.eq_1 <| rg o_19_2.eq_1 <| rg o_19_3.eq_1 <| rg o_19_4.eq_1 <| rg o_19_5.eq_1 <| rg o_19_6.eq_1 <| xg c_19_7.eq_1 <| xg c_19_8.eq_1 <| rg o_19_9.eq_1 <| rg zn7.eq_1 <| rg zn8.eq_1 <| rg zn9.eq_1 <| rg zoa.eq_1 <| rg zob.eq_1 <| rg zoc.eq_1 <| rg zod.eq_1 <| rg zoe.eq_1 <| rg zof.eq_1 <| rg zog.eq_1 <| rg zoh.eq_1 <| xg zoi.eq_1 <| xg zoj.eq_1 <| xg zok.eq_1 <| rg zol.eq_1 <| xg zom.eq_1 <| xg zon.eq_1 <| xg zoo.eq_1 <| xg zop.eq_1 <| xg zoq.eq_1 <| rg zor.eq_1 <| xg zos.eq_1 <| xg zot.eq_1 <| xg zou.eq_1 <| xg zov.eq_1 <| xg zow.eq_1 <| xg zox.eq_1 <| xg zoy.eq_1 <| xg zoz.eq_1 <| xg zo0.eq_1 <| @ex_of T _ _ zo1.eq_1
def zbaz := @vd T F.zkd zo3 [0, 0] z8w rfl rfl
theorem zba0 : zo3.res = [.cell 4 8 true, .tmp 5] ∧ zo3.rets = [[], []] ∧ zo3.body = (.seq (.reg o_19_1) zo1) := ⟨rfl, rfl, rfl⟩
def zba1 := rg o_22_1.eq_1 <| rg o_22_2.eq_1 <| @ex_of T _ _ c_22_3.eq_1
def zba2 := @vd T F.zj0 zo5 [0] z8x rfl rfl
theorem zba3 : zo5.res = [.tmp 2] ∧ zo5.rets = [[]] ∧ zo5.body = (.seq (.reg o_22_1) c_22_3) := ⟨rfl, rfl, rfl⟩
def zba4 := rg o_24_1.eq_1 <| rg o_24_2.eq_1 <| rg o_24_3.eq_1 <| rg o_24_4.eq_1 <| rg o_24_5.eq_1 <| rg o_24_6.eq_1 <| xg c_24_7.eq_1 <| xg c_24_8.eq_1 <| rg o_24_9.eq_1 <| rg zo6.eq_1 <| And.intro (@df_of T _ _ [(2, 16), (2, 17), (19, 16), (19, 17), (21, 16), (21, 17)] zo6.eq_1) <| rg zo7.eq_1 <| rg zo8.eq_1 <| rg zo9.eq_1 <| rg zpa.eq_1 <| xg zpb.eq_1 <| rg zpc.eq_1 <| xg zpd.eq_1 <| xg zpe.eq_1 <| xg zpf.eq_1 <| xg zpg.eq_1 <| xg zph.eq_1 <| rg zpi.eq_1 <| rg zpj.eq_1 <| xg zpk.eq_1 <| rg zpl.eq_1 <| xg zpm.eq_1 <| xg zpn.eq_1 <| xg zpo.eq_1 <| xg zpp.eq_1 <| xg zpq.eq_1 <| xg zpr.eq_1 <| @ex_of T _ _ zps.eq_1
def zba5 := @vd T F.zku zpu [0, 0] z8y rfl rfl
theorem zba6 : zpu.res = [.cell 4 6 true, .tmp 5] ∧ zpu.rets = [[], []] ∧ zpu.body = (.seq (.reg o_24_1) zps) := ⟨rfl, rfl, rfl⟩
def zba7 := rg o_25_1.eq_1 <| rg o_25_2.eq_1 <| @ex_of T _ _ c_25_3.eq_1
def zba8 := @vd T F.zk0 zpw [0, 0] z8z rfl rfl
theorem zba9 : zpw.res = [.tmp 4] ∧ zpw.rets = [[]] ∧ zpw.body = (.seq (.reg o_25_1) c_25_3) := ⟨rfl, rfl, rfl⟩
def zbba := rg o_26_1.eq_1 <| rg o_26_2.eq_1 <| rg o_26_3.eq_1 <| rg o_26_4.eq_1 <| rg o_26_5.eq_1 <| rg o_26_6.eq_1 <| xg c_26_7.eq_1 <| xg c_26_8.eq_1 <| rg o_26_9.eq_1 <| rg zpx.eq_1 <| rg zpy.eq_1 <| rg zpz.eq_1 <| rg zp0.eq_1 <| xg zp1.eq_1 <| xg zp2.eq_1 <| rg zp3.eq_1 <| xg zp4.eq_1 <| xg zp5.eq_1 <| xg zp6.eq_1 <| xg zp7.eq_1 <| @ex_of T _ _ zp8.eq_1
def zbbb := @vd T F.zm1 zqa [0] z80 rfl rfl
theorem zbbc : zqa.res = [.cell 2 8 true, .tmp 3] ∧ zqa.rets = [[], []] ∧ zqa.body = (.seq (.reg o_26_1) zp8) := ⟨rfl, rfl, rfl⟩
def zbbd := rg o_27_1.eq_1 <| rg o_27_2.eq_1 <| rg o_27_3.eq_1 <| xg c_27_4.eq_1 <| rg o_27_5.eq_1 <| rg o_27_6.eq_1 <| rg o_27_7.eq_1 <| rg o_27_8.eq_1 <| rg o_27_9.eq_1 <| xg zqb.eq_1 <| rg zqc.eq_1 <| xg zqd.eq_1 <| xg zqe.eq_1 <| xg zqf.eq_1 <| xg zqg.eq_1 <| xg zqh.eq_1 <| rg zqi.eq_1 <| rg zqj.eq_1 <| rg zqk.eq_1 <| xg zql.eq_1 <| rg zqm.eq_1 <| rg zqn.eq_1 <| rg zqo.eq_1 <| rg zqp.eq_1 <| rg zqq.eq_1 <| And.intro (@df_of T _ _ [(8, 5), (8, 6)] zqq.eq_1) <| xg zqr.eq_1 <| rg zqs.eq_1 <| xg zqt.eq_1 <| xg zqu.eq_1 <| xg zqv.eq_1 <| xg zqw.eq_1 <| xg zqx.eq_1 <| rg zqy.eq_1 <| xg zqz.eq_1 <| xg zq0.eq_1 <| xg zq1.eq_1 <| xg zq2.eq_1 <| xg zq3.eq_1 <| xg zq4.eq_1 <| xg zq5.eq_1 <| @ex_of T _ _ zq6.eq_1
def zbbe := @vd T F.zni zq8 [0] z81 rfl rfl
theorem zbbf : zq8.res = [.tmp 2, .tmp 3] ∧ zq8.rets = [[2], []] ∧ zq8.body = (.seq (.reg o_27_1) zq6) := ⟨rfl, rfl, rfl⟩
def zbbg := rg o_31_1.eq_1 <| rg o_31_2.eq_1 <| rg o_31_3.eq_1 <| rg o_31_4.eq_1 <| rg o_31_5.eq_1 <| xg c_31_6.eq_1 <| rg o_31_7.eq_1 <| xg c_31_8.eq_1 <| xg c_31_9.eq_1 <| xg zq9.eq_1 <| @ex_of T _ _ zra.eq_1
def zbbh := @vd T F.zkr zrc [0, 0] z82 rfl rfl
theorem zbbi : zrc.res = [.tmp 4] ∧ zrc.rets = [[4]] ∧ zrc.body = (.seq (.reg o_31_1) zra) := ⟨rfl, rfl, rfl⟩
def zbbj := rg o_42_1.eq_1 <| rg o_42_2.eq_1 <| @ex_of T _ _ c_42_3.eq_1
def zbbk := @vd T F.zkx zre [0, 0] z83 rfl rfl
theorem zbbl : zre.res = [.tmp 4] ∧ zre.rets = [[]] ∧ zre.body = (.seq (.reg o_42_1) c_42_3) := ⟨rfl, rfl, rfl⟩
def zbbm := rg o_45_1.eq_1 <| rg o_45_2.eq_1 <| @ex_of T _ _ c_45_3.eq_1
def zbbn := @vi T F.znk zrg z84 rfl
theorem zbbo {n : Nat} {H : Hp} {vs : List V} : (orc T (n + 1)).inl F.znk vs H = finI H.length false [.tmp 3] (unw T (orc T n) n H.length [] (exec T (orc T n) n H.length (.seq (.reg o_45_1) c_45_3) (params 0 vs) H)) := by rw [zhx, z84, y6, zhv]; rfl
def zbbp := rg o_46_1.eq_1 <| rg o_46_2.eq_1 <| @ex_of T _ _ c_46_3.eq_1
def zbbq := @vd T F.zj3 zri [0, 0] z85 rfl rfl
theorem zbbr : zri.res = [.tmp 4] ∧ zri.rets = [[]] ∧ zri.body = (.seq (.reg o_46_1) c_46_3) := ⟨rfl, rfl, rfl⟩
def zbbs := rg o_47_1.eq_1 <| rg o_47_2.eq_1 <| @ex_of T _ _ c_47_3.eq_1
def zbbt := @vi T F.znl zrk z86 rfl
theorem zbbu {n : Nat} {H : Hp} {vs : List V} : (orc T (n + 1)).inl F.znl vs H = finI H.length false [.tmp 4] (unw T (orc T n) n H.length [] (exec T (orc T n) n H.length (.seq (.reg o_47_1) c_47_3) (params 0 vs) H)) := by rw [zhx, z86, y6, zhv]; rfl
def zbbv := rg o_48_1.eq_1 <| rg o_48_2.eq_1 <| rg o_48_3.eq_1 <| xg c_48_4.eq_1 <| rg o_48_5.eq_1 <| xg c_48_6.eq_1 <| xg c_48_7.eq_1 <| rg o_48_8.eq_1 <| xg c_48_9.eq_1 <| xg zrl.eq_1 <| @ex_of T _ _ zrm.eq_1
def zbbw := @vd T F.zj5 zro [0, 0] z87 rfl rfl
theorem zbbx : zro.res = [.tmp 4] ∧ zro.rets = [[]] ∧ zro.body = (.seq (.reg o_48_1) zrm) := ⟨rfl, rfl, rfl⟩
def zbby := rg o_49_1.eq_1 <| rg o_49_2.eq_1 <| rg o_49_3.eq_1 <| xg c_49_4.eq_1 <| rg o_49_5.eq_1 <| xg c_49_6.eq_1 <| xg c_49_7.eq_1 <| rg o_49_8.eq_1 <| xg c_49_9.eq_1 <| xg zrp.eq_1 <| @ex_of T _ _ zrq.eq_1
def zbbz := @vd T F.zj7 zrs [0, 0] z88 rfl rfl
theorem zbb0 : zrs.res = [.tmp 4] ∧ zrs.rets = [[]] ∧ zrs.body = (.seq (.reg o_49_1) zrq) := ⟨rfl, rfl, rfl⟩
def zbb1 := rg o_50_1.eq_1 <| rg o_50_2.eq_1 <| rg o_50_3.eq_1 <| xg c_50_4.eq_1 <| rg o_50_5.eq_1 <| xg c_50_6.eq_1 <| @ex_of T _ _ c_50_7.eq_1
def zbb2 := @vd T F.zj8 zru [0] z89 rfl rfl
theorem zbb3 : zru.res = [.tmp 2] ∧ zru.rets = [[2]] ∧ zru.body = (.seq (.reg o_50_1) c_50_7) := ⟨rfl, rfl, rfl⟩
def zbb4 := rg o_52_1.eq_1 <| rg o_52_2.eq_1 <| rg o_52_3.eq_1 <| xg c_52_4.eq_1 <| rg o_52_5.eq_1 <| rg o_52_6.eq_1 <| rg o_52_7.eq_1 <| rg o_52_8.eq_1 <| xg c_52_9.eq_1 <| rg zrv.eq_1 <| rg zrw.eq_1 <| rg zrx.eq_1 <| xg zry.eq_1 <| rg zrz.eq_1 <| rg zr0.eq_1 <| rg zr1.eq_1 <| rg zr2.eq_1 <| rg zr3.eq_1 <| xg zr4.eq_1 <| xg zr5.eq_1 <| xg zr6.eq_1 <| xg zr7.eq_1 <| xg zr8.eq_1 <| rg zr9.eq_1 <| xg zsa.eq_1 <| xg zsb.eq_1 <| xg zsc.eq_1 <| @ex_of T _ _ zsd.eq_1
def zbb5 := @vd T F.zjw zsf [0] z9a rfl rfl
theorem zbb6 : zsf.res = [.tmp 2] ∧ zsf.rets = [[]] ∧ zsf.body = (.seq (.reg o_52_1) zsd) := ⟨rfl, rfl, rfl⟩
def zbb7 := rg o_53_1.eq_1 <| rg o_53_2.eq_1 <| rg o_53_3.eq_1 <| rg o_53_4.eq_1 <| rg o_53_5.eq_1 <| rg o_53_6.eq_1 <| xg c_53_7.eq_1 <| xg c_53_8.eq_1 <| rg o_53_9.eq_1 <| xg zsg.eq_1 <| xg zsh.eq_1 <| xg zsi.eq_1 <| xg zsj.eq_1 <| xg zsk.eq_1 <| rg zsl.eq_1 <| xg zsm.eq_1 <| @ex_of T _ _ zsn.eq_1
def zbb8 := @vd T F.zjz zsp [0] z9b rfl rfl
theorem zbb9 : zsp.res = [.tmp 2] ∧ zsp.rets = [[]] ∧ zsp.body = (.seq (.reg o_53_1) zsn) := ⟨rfl, rfl, rfl⟩
def zbca := rg o_56_1.eq_1 <| rg o_56_2.eq_1 <| rg o_56_3.eq_1 <| rg o_56_4.eq_1 <| rg o_56_5.eq_1 <| rg o_56_6.eq_1 <| rg o_56_7.eq_1 <| xg c_56_8.eq_1 <| xg c_56_9.eq_1 <| xg zsq.eq_1 <| rg zsr.eq_1 <| xg zss.eq_1 <| xg zst.eq_1 <| xg zsu.eq_1 <| xg zsv.eq_1 <| xg zsw.eq_1 <| rg zsx.eq_1 <| rg zsy.eq_1 <| rg zsz.eq_1 <| rg zs0.eq_1 <| rg zs1.eq_1 <| xg zs2.eq_1 <| rg zs3.eq_1 <| xg zs4.eq_1 <| xg zs5.eq_1 <| xg zs6.eq_1 <| xg zs7.eq_1 <| xg zs8.eq_1 <| rg zs9.eq_1 <| xg zta.eq_1 <| xg ztb.eq_1 <| xg ztc.eq_1 <| xg ztd.eq_1 <| @ex_of T _ _ zte.eq_1
def zbcb := @vd T F.zki ztg [0] z9c rfl rfl
theorem zbcc : ztg.res = [.tmp 2] ∧ ztg.rets = [[2]] ∧ ztg.body = (.seq (.reg o_56_1) zte) := ⟨rfl, rfl, rfl⟩
def zbcd := rg o_57_1.eq_1 <| rg o_57_2.eq_1 <| rg o_57_3.eq_1 <| xg c_57_4.eq_1 <| rg o_57_5.eq_1 <| rg o_57_6.eq_1 <| rg o_57_7.eq_1 <| rg o_57_8.eq_1 <| rg o_57_9.eq_1 <| xg zth.eq_1 <| xg zti.eq_1 <| rg ztj.eq_1 <| xg ztk.eq_1 <| xg ztl.eq_1 <| xg ztm.eq_1 <| xg ztn.eq_1 <| xg zto.eq_1 <| rg ztp.eq_1 <| xg ztq.eq_1 <| xg ztr.eq_1 <| @ex_of T _ _ zts.eq_1
def zbce := @vd T F.zkz ztu [0, 0] z9d rfl rfl
theorem zbcf : ztu.res = [.tmp 4] ∧ ztu.rets = [[]] ∧ ztu.body = (.seq (.reg o_57_1) zts) := ⟨rfl, rfl, rfl⟩
def zbcg := rg o_58_1.eq_1 <| rg o_58_2.eq_1 <| rg o_58_3.eq_1 <| xg c_58_4.eq_1 <| rg o_58_5.eq_1 <| rg o_58_6.eq_1 <| rg o_58_7.eq_1 <| rg o_58_8.eq_1 <| rg o_58_9.eq_1 <| rg ztv.eq_1 <| rg ztw.eq_1 <| xg ztx.eq_1 <| xg zty.eq_1 <| xg ztz.eq_1 <| rg zt0.eq_1 <| rg zt1.eq_1 <| And.intro (@df_of T _ _ [(5, 8)] zt1.eq_1) <| rg zt2.eq_1 <| xg zt3.eq_1 <| rg zt4.eq_1 <| xg zt5.eq_1 <| xg zt6.eq_1 <| xg zt7.eq_1 <| xg zt8.eq_1 <| xg zt9.eq_1 <| @ex_of T _ _ zua.eq_1
def zbch := @vd T F.zlm zuc [0] z9e rfl rfl
theorem zbci : zuc.res = [.tmp 2, .tmp 3, .tmp 4] ∧ zuc.rets = [[2], [], []] ∧ zuc.body = (.seq (.reg o_58_1) zua) := ⟨rfl, rfl, rfl⟩
def zbcj := rg o_59_1.eq_1 <| rg o_59_2.eq_1 <| rg o_59_3.eq_1 <| rg o_59_4.eq_1 <| rg o_59_5.eq_1 <| rg o_59_6.eq_1 <| xg c_59_7.eq_1 <| rg o_59_8.eq_1 <| rg o_59_9.eq_1 <| rg zud.eq_1 <| And.intro (@df_of T _ _ [(1, 3), (1, 4)] zud.eq_1) <| rg zue.eq_1 <| xg zuf.eq_1 <| xg zug.eq_1 <| xg zuh.eq_1 <| xg zui.eq_1 <| xg zuj.eq_1 <| rg zuk.eq_1 <| rg zul.eq_1 <| rg zum.eq_1 <| xg zun.eq_1 <| rg zuo.eq_1 <| rg zup.eq_1 <| rg zuq.eq_1 <| xg zur.eq_1 <| rg zus.eq_1 <| rg zut.eq_1 <| rg zuu.eq_1 <| rg zuv.eq_1 <| xg zuw.eq_1 <| xg zux.eq_1 <| xg zuy.eq_1 <| rg zuz.eq_1 <| xg zu0.eq_1 <| xg zu1.eq_1 <| xg zu2.eq_1 <| xg zu3.eq_1 <| rg zu4.eq_1 <| And.intro (@dr_of T _ _ [(10, 13)] zu4.eq_1 (by decide)) <| xg zu5.eq_1 <| xg zu6.eq_1 <| xg zu7.eq_1 <| xg zu8.eq_1 <| xg zu9.eq_1 <| xg zva.eq_1 <| xg zvb.eq_1 <| xg zvc.eq_1 <| xg zvd.eq_1 <| @ex_of T _ _ zve.eq_1
def zbck := @vd T F.zmq zvg [0] z9f rfl rfl
theorem zbcl : zvg.res = [.cell 2 8 true, .tmp 3] ∧ zvg.rets = [[], []] ∧ zvg.body = (.seq (.reg o_59_1) zve) := ⟨rfl, rfl, rfl⟩
def zbcm := rg o_60_1.eq_1 <| rg o_60_2.eq_1 <| rg o_60_3.eq_1 <| xg c_60_4.eq_1 <| @ex_of T _ _ c_60_5.eq_1
def zbcn := @vd T F.zm0 zvi [0] z9g rfl rfl
theorem zbco : zvi.res = [.tmp 2] ∧ zvi.rets = [[]] ∧ zvi.body = (.seq (.reg o_60_1) c_60_5) := ⟨rfl, rfl, rfl⟩
def zbcp := rg o_61_1.eq_1 <| rg o_61_2.eq_1 <| rg o_61_3.eq_1 <| rg o_61_4.eq_1 <| rg o_61_5.eq_1 <| xg c_61_6.eq_1 <| rg o_61_7.eq_1 <| xg c_61_8.eq_1 <| xg c_61_9.eq_1 <| xg zvj.eq_1 <| xg zvk.eq_1 <| xg zvl.eq_1 <| rg zvm.eq_1 <| xg zvn.eq_1 <| @ex_of T _ _ zvo.eq_1
def zbcq := @vd T F.zm7 zvq [2, 0] z9h rfl rfl
theorem zbcr : zvq.res = [.tmp 4] ∧ zvq.rets = [[2]] ∧ zvq.body = (.seq (.reg o_61_1) zvo) := ⟨rfl, rfl, rfl⟩
def zbcs := rg o_62_1.eq_1 <| rg o_62_2.eq_1 <| @ex_of T _ _ c_62_3.eq_1
def zbct := @vd T F.zm9 zvs [2, 0] z9i rfl rfl
theorem zbcu : zvs.res = [.tmp 4] ∧ zvs.rets = [[2]] ∧ zvs.body = (.seq (.reg o_62_1) c_62_3) := ⟨rfl, rfl, rfl⟩
def zbcv := rg o_63_1.eq_1 <| rg o_63_2.eq_1 <| rg o_63_3.eq_1 <| xg c_63_4.eq_1 <| rg o_63_5.eq_1 <| rg o_63_6.eq_1 <| xg c_63_7.eq_1 <| xg c_63_8.eq_1 <| @ex_of T _ _ c_63_9.eq_1
def zbcw := @vd T F.znf zvu [0] z9j rfl rfl
theorem zbcx : zvu.res = [.tmp 2, .tmp 3] ∧ zvu.rets = [[2], []] ∧ zvu.body = (.seq (.reg o_63_1) c_63_9) := ⟨rfl, rfl, rfl⟩
def zbcy := rg o_67_1.eq_1 <| rg o_67_2.eq_1 <| rg o_67_3.eq_1 <| rg o_67_4.eq_1 <| xg c_67_5.eq_1 <| rg o_67_6.eq_1 <| rg o_67_7.eq_1 <| xg c_67_8.eq_1 <| rg o_67_9.eq_1 <| rg zvv.eq_1 <| rg zvw.eq_1 <| rg zvx.eq_1 <| xg zvy.eq_1 <| xg zvz.eq_1 <| xg zv0.eq_1 <| rg zv1.eq_1 <| xg zv2.eq_1 <| xg zv3.eq_1 <| xg zv4.eq_1 <| xg zv5.eq_1 <| rg zv6.eq_1 <| rg zv7.eq_1 <| xg zv8.eq_1 <| xg zv9.eq_1 <| xg zwa.eq_1 <| xg zwb.eq_1 <| @ex_of T _ _ zwc.eq_1
def zbcz := @vi T F.znm zwe z9k rfl
theorem zbc0 {n : Nat} {H : Hp} {vs : List V} : (orc T (n + 1)).inl F.znm vs H = finI H.length true [.tmp 4] (unw T (orc T n) n H.length [] (exec T (orc T n) n H.length (.seq (.reg o_67_1) zwc) (params 0 vs) H)) := by rw [zhx, z9k, y6, zhv]; rfl
def zbc1 := rg o_68_1.eq_1 <| rg o_68_2.eq_1 <| rg o_68_3.eq_1 <| xg c_68_4.eq_1 <| rg o_68_5.eq_1 <| xg c_68_6.eq_1 <| @ex_of T _ _ c_68_7.eq_1
def zbc2 := @vd T F.zkj zwg [0] z9l rfl rfl
theorem zbc3 : zwg.res = [.tmp 2] ∧ zwg.rets = [[4]] ∧ zwg.body = (.seq (.reg o_68_1) c_68_7) := ⟨rfl, rfl, rfl⟩
def zbc4 := rg o_69_1.eq_1 <| rg o_69_2.eq_1 <| @ex_of T _ _ c_69_3.eq_1
def zbc5 := @vi T F.znn zwi z9m rfl
theorem zbc6 {n : Nat} {H : Hp} {vs : List V} : (orc T (n + 1)).inl F.znn vs H = finI H.length false [.tmp 3] (unw T (orc T n) n H.length [] (exec T (orc T n) n H.length (.seq (.reg o_69_1) c_69_3) (params 0 vs) H)) := by rw [zhx, z9m, y6, zhv]; rfl
def zbc7 := rg o_70_1.eq_1 <| rg o_70_2.eq_1 <| rg o_70_3.eq_1 <| rg o_70_4.eq_1 <| rg o_70_5.eq_1 <| rg o_70_6.eq_1 <| xg c_70_7.eq_1 <| xg c_70_8.eq_1 <| rg o_70_9.eq_1 <| xg zwj.eq_1 <| xg zwk.eq_1 <| xg zwl.eq_1 <| xg zwm.eq_1 <| xg zwn.eq_1 <| rg zwo.eq_1 <| xg zwp.eq_1 <| @ex_of T _ _ zwq.eq_1
def zbc8 := @vi T F.zno zws z9n rfl
theorem zbc9 {n : Nat} {H : Hp} {vs : List V} : (orc T (n + 1)).inl F.zno vs H = finI H.length false [.tmp 4] (unw T (orc T n) n H.length [] (exec T (orc T n) n H.length (.seq (.reg o_70_1) zwq) (params 0 vs) H)) := by rw [zhx, z9n, y6, zhv]; rfl
def zbda := rg o_71_1.eq_1 <| rg o_71_2.eq_1 <| @ex_of T _ _ c_71_3.eq_1
def zbdb := @vi T F.znp zwu z9o rfl
theorem zbdc {n : Nat} {H : Hp} {vs : List V} : (orc T (n + 1)).inl F.znp vs H = finI H.length false [.tmp 3] (unw T (orc T n) n H.length [] (exec T (orc T n) n H.length (.seq (.reg o_71_1) c_71_3) (params 0 vs) H)) := by rw [zhx, z9o, y6, zhv]; rfl
def zbdd := rg o_72_1.eq_1 <| rg o_72_2.eq_1 <| rg o_72_3.eq_1 <| rg o_72_4.eq_1 <| rg o_72_5.eq_1 <| xg c_72_6.eq_1 <| rg o_72_7.eq_1 <| rg o_72_8.eq_1 <| rg o_72_9.eq_1 <| xg zwv.eq_1 <| rg zww.eq_1 <| rg zwx.eq_1 <| xg zwy.eq_1 <| xg zwz.eq_1 <| xg zw0.eq_1 <| xg zw1.eq_1 <| rg zw2.eq_1 <| rg zw3.eq_1 <| xg zw4.eq_1 <| xg zw5.eq_1 <| xg zw6.eq_1 <| rg zw7.eq_1 <| xg zw8.eq_1 <| xg zw9.eq_1 <| xg zxa.eq_1 <| xg zxb.eq_1 <| xg zxc.eq_1 <| xg zxd.eq_1 <| xg zxe.eq_1 <| xg zxf.eq_1 <| xg zxg.eq_1 <| xg zxh.eq_1 <| @ex_of T _ _ zxi.eq_1
def zbde := @vd T F.zkk zxk [4, 0, 4] z9p rfl rfl
theorem zbdf : zxk.res = [.tmp 6] ∧ zxk.rets = [[4]] ∧ zxk.body = (.seq (.reg o_72_1) zxi) := ⟨rfl, rfl, rfl⟩
def zbdg := rg o_79_1.eq_1 <| rg o_79_2.eq_1 <| rg o_79_3.eq_1 <| xg c_79_4.eq_1 <| rg o_79_5.eq_1 <| rg o_79_6.eq_1 <| rg o_79_7.eq_1 <| rg o_79_8.eq_1 <| rg o_79_9.eq_1 <| xg zxl.eq_1 <| xg zxm.eq_1 <| rg zxn.eq_1 <| xg zxo.eq_1 <| xg zxp.eq_1 <| xg zxq.eq_1 <| xg zxr.eq_1 <| xg zxs.eq_1 <| rg zxt.eq_1 <| xg zxu.eq_1 <| xg zxv.eq_1 <| @ex_of T _ _ zxw.eq_1
def zbdh := @vd T F.zkw zxy [0, 0] z9q rfl rfl
theorem zbdi : zxy.res = [.tmp 4] ∧ zxy.rets = [[]] ∧ zxy.body = (.seq (.reg o_79_1) zxw) := ⟨rfl, rfl, rfl⟩
def zbdj := rg o_81_1.eq_1 <| rg o_81_2.eq_1 <| rg o_81_3.eq_1 <| xg c_81_4.eq_1 <| rg o_81_5.eq_1 <| xg c_81_6.eq_1 <| @ex_of T _ _ c_81_7.eq_1
def zbdk := @vd T F.zm4 zx0 [2, 0] z9r rfl rfl
theorem zbdl : zx0.res = [.tmp 4] ∧ zx0.rets = [[2]] ∧ zx0.body = (.seq (.reg o_81_1) c_81_7) := ⟨rfl, rfl, rfl⟩
def zbdm := rg o_83_1.eq_1 <| rg o_83_2.eq_1 <| @ex_of T _ _ c_83_3.eq_1
def zbdn := @vd T F.zlh zx2 [0] z9s rfl rfl
theorem zbdo : zx2.res = [.tmp 2] ∧ zx2.rets = [[2]] ∧ zx2.body = (.seq (.reg o_83_1) c_83_3) := ⟨rfl, rfl, rfl⟩
def zbdp := rg o_84_1.eq_1 <| rg o_84_2.eq_1 <| @ex_of T _ _ c_84_3.eq_1
def zbdq := @vd T F.zle zx4 [0] z9t rfl rfl
theorem zbdr : zx4.res = [.tmp 2] ∧ zx4.rets = [[]] ∧ zx4.body = (.seq (.reg o_84_1) c_84_3) := ⟨rfl, rfl, rfl⟩
def zbds := rg o_91_1.eq_1 <| rg o_91_2.eq_1 <| rg o_91_3.eq_1 <| rg o_91_4.eq_1 <| rg o_91_5.eq_1 <| rg o_91_6.eq_1 <| rg o_91_7.eq_1 <| xg c_91_8.eq_1 <| xg c_91_9.eq_1 <| xg zx5.eq_1 <| rg zx6.eq_1 <| xg zx7.eq_1 <| xg zx8.eq_1 <| xg zx9.eq_1 <| xg zya.eq_1 <| xg zyb.eq_1 <| rg zyc.eq_1 <| rg zyd.eq_1 <| rg zye.eq_1 <| rg zyf.eq_1 <| rg zyg.eq_1 <| xg zyh.eq_1 <| rg zyi.eq_1 <| xg zyj.eq_1 <| xg zyk.eq_1 <| xg zyl.eq_1 <| xg zym.eq_1 <| xg zyn.eq_1 <| rg zyo.eq_1 <| xg zyp.eq_1 <| xg zyq.eq_1 <| xg zyr.eq_1 <| xg zys.eq_1 <| @ex_of T _ _ zyt.eq_1
def zbdt := @vd T F.zne zyv [0] z9u rfl rfl
theorem zbdu : zyv.res = [.tmp 2] ∧ zyv.rets = [[2]] ∧ zyv.body = (.seq (.reg o_91_1) zyt) := ⟨rfl, rfl, rfl⟩
def zbdv := rg o_94_1.eq_1 <| rg o_94_2.eq_1 <| @ex_of T _ _ c_94_3.eq_1
def zbdw := @vi T F.znq zyx z9v rfl
theorem zbdx {n : Nat} {H : Hp} {vs : List V} : (orc T (n + 1)).inl F.znq vs H = finI H.length false [.tmp 3] (unw T (orc T n) n H.length [] (exec T (orc T n) n H.length (.seq (.reg o_94_1) c_94_3) (params 0 vs) H)) := by rw [zhx, z9v, y6, zhv]; rfl
def zbdy := rg o_95_1.eq_1 <| rg o_95_2.eq_1 <| @ex_of T _ _ c_95_3.eq_1
def zbdz := @vi T F.znr zyz z9w rfl
theorem zbd0 {n : Nat} {H : Hp} {vs : List V} : (orc T (n + 1)).inl F.znr vs H = finI H.length false [.tmp 4] (unw T (orc T n) n H.length [] (exec T (orc T n) n H.length (.seq (.reg o_95_1) c_95_3) (params 0 vs) H)) := by rw [zhx, z9w, y6, zhv]; rfl
def zbd1 := rg o_96_1.eq_1 <| rg o_96_2.eq_1 <| @ex_of T _ _ c_96_3.eq_1
def zbd2 := @vd T F.zjr zy1 [0] z9x rfl rfl
theorem zbd3 : zy1.res = [.tmp 2] ∧ zy1.rets = [[]] ∧ zy1.body = (.seq (.reg o_96_1) c_96_3) := ⟨rfl, rfl, rfl⟩
def zbd4 := rg o_97_1.eq_1 <| rg o_97_2.eq_1 <| @ex_of T _ _ c_97_3.eq_1
def zbd5 := @vd T F.zjq zy3 [0] z9y rfl rfl
theorem zbd6 : zy3.res = [.tmp 2] ∧ zy3.rets = [[]] ∧ zy3.body = (.seq (.reg o_97_1) c_97_3) := ⟨rfl, rfl, rfl⟩
def zbd7 := rg o_98_1.eq_1 <| rg o_98_2.eq_1 <| rg o_98_3.eq_1 <| rg o_98_4.eq_1 <| xg c_98_5.eq_1 <| rg o_98_6.eq_1 <| rg o_98_7.eq_1 <| xg c_98_8.eq_1 <| rg o_98_9.eq_1 <| xg zy4.eq_1 <| rg zy5.eq_1 <| xg zy6.eq_1 <| xg zy7.eq_1 <| xg zy8.eq_1 <| xg zy9.eq_1 <| rg zza.eq_1 <| xg zzb.eq_1 <| xg zzc.eq_1 <| @ex_of T _ _ zzd.eq_1
def zbd8 := @vd T F.zjt zzf [0, 0] z9z rfl rfl
theorem zbd9 : zzf.res = [.tmp 4] ∧ zzf.rets = [[]] ∧ zzf.body = (.seq (.reg o_98_1) zzd) := ⟨rfl, rfl, rfl⟩
def zbea := rg o_99_1.eq_1 <| rg o_99_2.eq_1 <| @ex_of T _ _ c_99_3.eq_1
def zbeb := @vd T F.zjx zzh [0] z90 rfl rfl
theorem zbec : zzh.res = [.tmp 2] ∧ zzh.rets = [[]] ∧ zzh.body = (.seq (.reg o_99_1) c_99_3) := ⟨rfl, rfl, rfl⟩
def zbed := rg zzi.eq_1 <| rg zzj.eq_1 <| xg zzk.eq_1 <| rg zzl.eq_1 <| rg zzm.eq_1 <| rg zzn.eq_1 <| xg zzo.eq_1 <| xg zzp.eq_1 <| rg zzq.eq_1 <| xg zzr.eq_1 <| xg zzs.eq_1 <| @ex_of T _ _ zzt.eq_1
def zbee := @vi T F.zns zzv z91 rfl
theorem zbef {n : Nat} {H : Hp} {vs : List V} : (orc T (n + 1)).inl F.zns vs H = finI H.length false [.tmp 4] (unw T (orc T n) n H.length [] (exec T (orc T n) n H.length (.seq (.reg zzi) zzt) (params 0 vs) H)) := by rw [zhx, z91, y6, zhv]; rfl
def zbeg := rg zzw.eq_1 <| rg zzx.eq_1 <| @ex_of T _ _ zzy.eq_1
def zbeh := @vd T F.zk5 zz0 [0] z92 rfl rfl
theorem zbei : zz0.res = [.tmp 2] ∧ zz0.rets = [[]] ∧ zz0.body = (.seq (.reg zzw) zzy) := ⟨rfl, rfl, rfl⟩
def zbej := rg zz1.eq_1 <| rg zz2.eq_1 <| rg zz3.eq_1 <| rg zz4.eq_1 <| xg zz5.eq_1 <| rg zz6.eq_1 <| xg zz7.eq_1 <| xg zz8.eq_1 <| @ex_of T _ _ zz9.eq_1
def zbek := @vd T F.zk8 z0b [0] z93 rfl rfl
theorem zbel : z0b.res = [.tmp 2, .tmp 3] ∧ z0b.rets = [[], []] ∧ z0b.body = (.seq (.reg zz1) zz9) := ⟨rfl, rfl, rfl⟩
def zbem := rg z0c.eq_1 <| rg z0d.eq_1 <| rg z0e.eq_1 <| xg z0f.eq_1 <| rg z0g.eq_1 <| rg z0h.eq_1 <| rg z0i.eq_1 <| rg z0j.eq_1 <| rg z0k.eq_1 <| xg z0l.eq_1 <| xg z0m.eq_1 <| rg z0n.eq_1 <| xg z0o.eq_1 <| xg z0p.eq_1 <| xg z0q.eq_1 <| xg z0r.eq_1 <| xg z0s.eq_1 <| rg z0t.eq_1 <| xg z0u.eq_1 <| xg z0v.eq_1 <| @ex_of T _ _ z0w.eq_1
def zben := @vd T F.zlk z0y [0, 0] z94 rfl rfl
theorem zbeo : z0y.res = [.tmp 4] ∧ z0y.rets = [[]] ∧ z0y.body = (.seq (.reg z0c) z0w) := ⟨rfl, rfl, rfl⟩
def zbep := rg z0z.eq_1 <| rg z00.eq_1 <| @ex_of T _ _ z01.eq_1
def zbeq := @vd T F.zli z03 [0, 0] z95 rfl rfl
theorem zber : z03.res = [.tmp 4] ∧ z03.rets = [[2]] ∧ z03.body = (.seq (.reg z0z) z01) := ⟨rfl, rfl, rfl⟩
def zbes := rg z04.eq_1 <| rg z05.eq_1 <| rg z06.eq_1 <| xg z07.eq_1 <| rg z08.eq_1 <| xg z09.eq_1 <| @ex_of T _ _ z1a.eq_1
def zbet := @vd T F.zll z1c [0] z96 rfl rfl
theorem zbeu : z1c.res = [.tmp 2] ∧ z1c.rets = [[2]] ∧ z1c.body = (.seq (.reg z04) z1a) := ⟨rfl, rfl, rfl⟩
def zbev := rg z1d.eq_1 <| rg z1e.eq_1 <| rg z1f.eq_1 <| rg z1g.eq_1 <| xg z1h.eq_1 <| rg z1i.eq_1 <| xg z1j.eq_1 <| xg z1k.eq_1 <| xg z1l.eq_1 <| xg z1m.eq_1 <| @ex_of T _ _ z1n.eq_1
def zbew := @vi T F.znt z1p z97 rfl
theorem zbex {n : Nat} {H : Hp} {vs : List V} : (orc T (n + 1)).inl F.znt vs H = finI H.length false [] (unw T (orc T n) n H.length [] (exec T (orc T n) n H.length (.seq (.reg z1d) z1n) (params 0 vs) H)) := by rw [zhx, z97, y6, zhv]; rfl
def zbey := rg z1q.eq_1 <| rg z1r.eq_1 <| @ex_of T _ _ z1s.eq_1
def zbez := @vi T F.znu z1u z98 rfl
theorem zbe0 {n : Nat} {H : Hp} {vs : List V} : (orc T (n + 1)).inl F.znu vs H = finI H.length false [.tmp 2] (unw T (orc T n) n H.length [] (exec T (orc T n) n H.length (.seq (.reg z1q) z1s) (params 0 vs) H)) := by rw [zhx, z98, y6, zhv]; rfl
def zbe1 := rg z1v.eq_1 <| rg z1w.eq_1 <| @ex_of T _ _ z1x.eq_1
def zbe2 := @vd T F.zmv z1z [0] z99 rfl rfl
theorem zbe3 : z1z.res = [.tmp 2] ∧ z1z.rets = [[]] ∧ z1z.body = (.seq (.reg z1v) z1x) := ⟨rfl, rfl, rfl⟩
def zbe4 := rg z10.eq_1 <| rg z11.eq_1 <| @ex_of T _ _ z12.eq_1
def zbe5 := @vd T F.zmu z14 [0] zbaa rfl rfl
theorem zbe6 : z14.res = [.tmp 2] ∧ z14.rets = [[]] ∧ z14.body = (.seq (.reg z10) z12) := ⟨rfl, rfl, rfl⟩
def zbe7 := rg z15.eq_1 <| rg z16.eq_1 <| rg z17.eq_1 <| rg z18.eq_1 <| rg z19.eq_1 <| rg z2a.eq_1 <| xg z2b.eq_1 <| xg z2c.eq_1 <| rg z2d.eq_1 <| xg z2e.eq_1 <| xg z2f.eq_1 <| xg z2g.eq_1 <| xg z2h.eq_1 <| xg z2i.eq_1 <| rg z2j.eq_1 <| xg z2k.eq_1 <| @ex_of T _ _ z2l.eq_1
def zbe8 := @vd T F.zmx z2n [0] zbab rfl rfl
theorem zbe9 : z2n.res = [.tmp 2] ∧ z2n.rets = [[]] ∧ z2n.body = (.seq (.reg z15) z2l) := ⟨rfl, rfl, rfl⟩
def zbfa := rg z2o.eq_1 <| rg z2p.eq_1 <| xg z2q.eq_1 <| rg z2r.eq_1 <| rg z2s.eq_1 <| xg z2t.eq_1 <| xg z2u.eq_1 <| xg z2v.eq_1 <| rg z2w.eq_1 <| xg z2x.eq_1 <| @ex_of T _ _ z2y.eq_1
def zbfb := @vd T F.zm3 z20 [2, 0] zbac rfl rfl
theorem zbfc : z20.res = [.tmp 4] ∧ z20.rets = [[2]] ∧ z20.body = (.seq (.reg z2o) z2y) := ⟨rfl, rfl, rfl⟩
def zbfd := rg z21.eq_1 <| rg z22.eq_1 <| @ex_of T _ _ z23.eq_1
def zbfe := @vd T F.zm8 z25 [0] zbad rfl rfl
theorem zbff : z25.res = [.tmp 2] ∧ z25.rets = [[]] ∧ z25.body = (.seq (.reg z21) z23) := ⟨rfl, rfl, rfl⟩
def zbfg := rg z26.eq_1 <| rg z27.eq_1 <| rg z28.eq_1 <| rg z29.eq_1 <| rg z3a.eq_1 <| rg z3b.eq_1 <| xg z3c.eq_1 <| rg z3d.eq_1 <| xg z3e.eq_1 <| xg z3f.eq_1 <| xg z3g.eq_1 <| xg z3h.eq_1 <| xg z3i.eq_1 <| rg z3j.eq_1 <| xg z3k.eq_1 <| xg z3l.eq_1 <| @ex_of T _ _ z3m.eq_1
def zbfh := @vd T F.zlg z3o [0, 0] zbae rfl rfl
theorem zbfi : z3o.res = [.tmp 4] ∧ z3o.rets = [[2]] ∧ z3o.body = (.seq (.reg z26) z3m) := ⟨rfl, rfl, rfl⟩
def zbfj := rg z3p.eq_1 <| rg z3q.eq_1 <| rg z3r.eq_1 <| rg z3s.eq_1 <| rg z3t.eq_1 <| rg z3u.eq_1 <| rg z3v.eq_1 <| xg z3w.eq_1 <| rg z3x.eq_1 <| xg z3y.eq_1 <| xg z3z.eq_1 <| xg z30.eq_1 <| xg z31.eq_1 <| xg z32.eq_1 <| rg z33.eq_1 <| xg z34.eq_1 <| xg z35.eq_1 <| xg z36.eq_1 <| @ex_of T _ _ z37.eq_1
def zbfk := @vd T F.zld z39 [0, 0] zbaf rfl rfl
theorem zbfl : z39.res = [.tmp 4] ∧ z39.rets = [[]] ∧ z39.body = (.seq (.reg z3p) z37) := ⟨rfl, rfl, rfl⟩
def zbfm := rg z4a.eq_1 <| rg z4b.eq_1 <| xg z4c.eq_1 <| rg z4d.eq_1 <| rg z4e.eq_1 <| rg z4f.eq_1 <| xg z4g.eq_1 <| xg z4h.eq_1 <| rg z4i.eq_1 <| xg z4j.eq_1 <| xg z4k.eq_1 <| @ex_of T _ _ z4l.eq_1
def zbfn := @vi T F.znv z4n zbag rfl
theorem zbfo {n : Nat} {H : Hp} {vs : List V} : (orc T (n + 1)).inl F.znv vs H = finI H.length false [.tmp 4] (unw T (orc T n) n H.length [] (exec T (orc T n) n H.length (.seq (.reg z4a) z4l) (params 0 vs) H)) := by rw [zhx, zbag, y6, zhv]; rfl
def zbfp := rg z4o.eq_1 <| rg z4p.eq_1 <| rg z4q.eq_1 <| rg z4r.eq_1 <| rg z4s.eq_1 <| rg z4t.eq_1 <| xg z4u.eq_1 <| xg z4v.eq_1 <| rg z4w.eq_1 <| xg z4x.eq_1 <| xg z4y.eq_1 <| xg z4z.eq_1 <| xg z40.eq_1 <| xg z41.eq_1 <| rg z42.eq_1 <| xg z43.eq_1 <| @ex_of T _ _ z44.eq_1
def zbfq := @vi T F.znw z46 zbah rfl
theorem zbfr {n : Nat} {H : Hp} {vs : List V} : (orc T (n + 1)).inl F.znw vs H = finI H.length false [.tmp 4] (unw T (orc T n) n H.length [] (exec T (orc T n) n H.length (.seq (.reg z4o) z44) (params 0 vs) H)) := by rw [zhx, zbah, y6, zhv]; rfl
def zbfs := rg z47.eq_1 <| rg z48.eq_1 <| @ex_of T _ _ z49.eq_1
def zbft := @vi T F.znx z5b zbai rfl
theorem zbfu {n : Nat} {H : Hp} {vs : List V} : (orc T (n + 1)).inl F.znx vs H = finI H.length false [.tmp 4] (unw T (orc T n) n H.length [] (exec T (orc T n) n H.length (.seq (.reg z47) z49) (params 0 vs) H)) := by rw [zhx, zbai, y6, zhv]; rfl
def zbfv := rg z5c.eq_1 <| rg z5d.eq_1 <| @ex_of T _ _ z5e.eq_1
def zbfw := @vd T F.zk2 z5g [0] zbaj rfl rfl
theorem zbfx : z5g.res = [.tmp 2] ∧ z5g.rets = [[]] ∧ z5g.body = (.seq (.reg z5c) z5e) := ⟨rfl, rfl, rfl⟩
def zbfy := rg z5h.eq_1 <| rg z5i.eq_1 <| rg z5j.eq_1 <| rg z5k.eq_1 <| rg z5l.eq_1 <| rg z5m.eq_1 <| rg z5n.eq_1 <| rg z5o.eq_1 <| xg z5p.eq_1 <| rg z5q.eq_1 <| xg z5r.eq_1 <| rg z5s.eq_1 <| xg z5t.eq_1 <| xg z5u.eq_1 <| xg z5v.eq_1 <| rg z5w.eq_1 <| xg z5x.eq_1 <| rg z5y.eq_1 <| xg z5z.eq_1 <| xg z50.eq_1 <| xg z51.eq_1 <| xg z52.eq_1 <| rg z53.eq_1 <| xg z54.eq_1 <| xg z55.eq_1 <| xg z56.eq_1 <| xg z57.eq_1 <| xg z58.eq_1 <| rg z59.eq_1 <| xg z6a.eq_1 <| xg z6b.eq_1 <| @ex_of T _ _ z6c.eq_1
def zbfz := @vd T F.zk7 z6e [0] zbak rfl rfl
theorem zbf0 : z6e.res = [.tmp 2, .tmp 3] ∧ z6e.rets = [[], []] ∧ z6e.body = (.seq (.reg z5h) z6c) := ⟨rfl, rfl, rfl⟩
def zbf1 := rg z6f.eq_1 <| rg z6g.eq_1 <| @ex_of T _ _ z6h.eq_1
def zbf2 := @vi T F.zny z6j zbal rfl
theorem zbf3 {n : Nat} {H : Hp} {vs : List V} : (orc T (n + 1)).inl F.zny vs H = finI H.length false [.tmp 2] (unw T (orc T n) n H.length [] (exec T (orc T n) n H.length (.seq (.reg z6f) z6h) (params 0 vs) H)) := by rw [zhx, zbal, y6, zhv]; rfl
def zbf4 := rg z6k.eq_1 <| rg z6l.eq_1 <| rg z6m.eq_1 <| rg z6n.eq_1 <| xg z6o.eq_1 <| xg z6p.eq_1 <| @ex_of T _ _ z6q.eq_1
def zbf5 := @vi T F.znz z6s zbam rfl
theorem zbf6 {n : Nat} {H : Hp} {vs : List V} : (orc T (n + 1)).inl F.znz vs H = finI H.length false [.tmp 6] (unw T (orc T n) n H.length [] (exec T (orc T n) n H.length (.seq (.reg z6k) z6q) (params 0 vs) H)) := by rw [zhx, zbam, y6, zhv]; rfl
def zbf7 := rg z6t.eq_1 <| rg z6u.eq_1 <| rg z6v.eq_1 <| rg z6w.eq_1 <| xg z6x.eq_1 <| rg z6y.eq_1 <| xg z6z.eq_1 <| xg z60.eq_1 <| @ex_of T _ _ z61.eq_1
def zbf8 := @vd T F.zlo z63 [0] zban rfl rfl
theorem zbf9 : z63.res = [.tmp 2, .tmp 3] ∧ z63.rets = [[], []] ∧ z63.body = (.seq (.reg z6t) z61) := ⟨rfl, rfl, rfl⟩
def zbga := rg z64.eq_1 <| rg z65.eq_1 <| @ex_of T _ _ z66.eq_1
def zbgb := @vd T F.zmr z68 [0] zbao rfl rfl
theorem zbgc : z68.res = [.tmp 2] ∧ z68.rets = [[]] ∧ z68.body = (.seq (.reg z64) z66) := ⟨rfl, rfl, rfl⟩
def zbgd := rg z69.eq_1 <| rg z7a.eq_1 <| rg z7b.eq_1 <| rg z7c.eq_1 <| rg z7d.eq_1 <| rg z7e.eq_1 <| rg z7f.eq_1 <| rg z7g.eq_1 <| rg z7h.eq_1 <| rg z7i.eq_1 <| xg z7j.eq_1 <| rg z7k.eq_1 <| xg z7l.eq_1 <| xg z7m.eq_1 <| xg z7n.eq_1 <| xg z7o.eq_1 <| xg z7p.eq_1 <| rg z7q.eq_1 <| xg z7r.eq_1 <| xg z7s.eq_1 <| xg z7t.eq_1 <| rg z7u.eq_1 <| xg z7v.eq_1 <| xg z7w.eq_1 <| xg z7x.eq_1 <| xg z7y.eq_1 <| xg z7z.eq_1 <| rg z70.eq_1 <| xg z71.eq_1 <| xg z72.eq_1 <| @ex_of T _ _ z73.eq_1
def zbge := @vd T F.zlb z75 [] zbap rfl rfl
theorem zbgf : z75.res = [.cell 0 256 true] ∧ z75.rets = [[]] ∧ z75.body = (.seq (.reg z69) z73) := ⟨rfl, rfl, rfl⟩
def zbgg := rg z76.eq_1 <| rg z77.eq_1 <| rg z78.eq_1 <| rg z79.eq_1 <| rg z8a.eq_1 <| rg z8b.eq_1 <| xg z8c.eq_1 <| xg z8d.eq_1 <| rg z8e.eq_1 <| xg z8f.eq_1 <| xg z8g.eq_1 <| xg z8h.eq_1 <| xg z8i.eq_1 <| xg z8j.eq_1 <| rg z8k.eq_1 <| xg z8l.eq_1 <| @ex_of T _ _ z8m.eq_1
def zbgh := @vi T F.zn0 z8o zbaq rfl
theorem zbgi {n : Nat} {H : Hp} {vs : List V} : (orc T (n + 1)).inl F.zn0 vs H = finI H.length false [.tmp 4] (unw T (orc T n) n H.length [] (exec T (orc T n) n H.length (.seq (.reg z76) z8m) (params 0 vs) H)) := by rw [zhx, zbaq, y6, zhv]; rfl
def zbgj := rg z8p.eq_1 <| rg z8q.eq_1 <| @ex_of T _ _ z8r.eq_1
def zbgk := @vd T F.zln z8t [0] zbar rfl rfl
theorem zbgl : z8t.res = [.tmp 2] ∧ z8t.rets = [[]] ∧ z8t.body = (.seq (.reg z8p) z8r) := ⟨rfl, rfl, rfl⟩
end Go.Dvm.C
