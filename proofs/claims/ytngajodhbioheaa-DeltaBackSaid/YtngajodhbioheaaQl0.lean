/- What each piece of the code comes to: part 1. -/
import Derived.Test.YtngajodhbioheaaQc0
set_option linter.all false
set_option maxRecDepth 100000
set_option maxHeartbeats 4000000
namespace Go.Dvm.C
open Go Go.Dvm
def ke := And.intro @Ow.enc.eq_1 <| And.intro @Sl.enc.eq_1 <| And.intro @I.zjp.enc.eq_1 <| And.intro @I.zjq.enc.eq_1 <| And.intro @I.zjr.enc.eq_1 <| And.intro @I.zjs.enc.eq_1 <| And.intro @I.zju.enc.eq_1 <| And.intro @I.zjt.enc.eq_1 <| And.intro @arrEnc.eq_1 <| @I.zjv.enc.eq_1
def kf := And.intro @ke @kn
def tab : List (Nat × MFun) := [(9, zob), (17, zof), (18, zoh), (19, zpe), (22, zpg), (24, zp5), (25, zp7), (26, zql), (27, zrj), (31, zrn), (36, zrp), (42, zrr), (44, zrt), (45, zrv), (46, zrx), (47, zrz), (48, zr3), (49, zr7), (50, zr9), (52, zsu), (53, zs4), (56, ztv), (57, zt9), (58, zur), (59, zvv), (60, zvx), (61, zv5), (62, zv7), (63, zv9), (67, zwt), (68, zwv), (69, zwx), (70, zw7), (71, zw9), (72, zxa), (79, zxo), (81, zxq), (83, zxs), (84, zxu), (91, zyl), (94, zyn), (95, zyp), (96, zyr), (97, zyt), (98, zy5), (99, zy7), (105, zzl), (106, zzq), (107, zz1), (108, z0o), (109, z0t), (110, z02), (111, z1f), (112, z1k), (113, z1p), (114, z1u), (115, z2d), (116, z2q), (117, z2v), (135, z3e), (136, z3z), (142, z4d), (145, z4w), (151, z41), (152, z46), (153, z54), (154, z59), (155, z6i), (156, z6t), (157, z6y), (167, z7v), (170, z8e), (171, z8j)]
abbrev T : Nat → Option MFun := look tab
theorem z8k : T F.zns = some zob := rfl
theorem z8l : T F.zk7 = some zof := rfl
theorem z8m : T F.zk9 = some zoh := rfl
theorem z8n : T F.zkj = some zpe := rfl
theorem z8o : T F.zj6 = some zpg := rfl
theorem z8p : T F.zk0 = some zp5 := rfl
theorem z8q : T F.zk6 = some zp7 := rfl
theorem z8r : T F.zm9 = some zql := rfl
theorem z8s : T F.znq = some zrj := rfl
theorem z8t : T F.zkx = some zrn := rfl
theorem z8u : T F.znr = some zrp := rfl
theorem z8v : T F.zk3 = some zrr := rfl
theorem z8w : T F.zk8 = some zrt := rfl
theorem z8x : T F.znt = some zrv := rfl
theorem z8y : T F.zj9 = some zrx := rfl
theorem z8z : T F.znu = some zrz := rfl
theorem z80 : T F.zkb = some zr3 := rfl
theorem z81 : T F.zkd = some zr7 := rfl
theorem z82 : T F.zke = some zr9 := rfl
theorem z83 : T F.zj2 = some zsu := rfl
theorem z84 : T F.zj5 = some zs4 := rfl
theorem z85 : T F.zko = some ztv := rfl
theorem z86 : T F.zk5 = some zt9 := rfl
theorem z87 : T F.zlu = some zur := rfl
theorem z88 : T F.zmy = some zvv := rfl
theorem z89 : T F.zm8 = some zvx := rfl
theorem z9a : T F.znf = some zv5 := rfl
theorem z9b : T F.znh = some zv7 := rfl
theorem z9c : T F.znn = some zv9 := rfl
theorem z9d : T F.znv = some zwt := rfl
theorem z9e : T F.zkp = some zwv := rfl
theorem z9f : T F.znw = some zwx := rfl
theorem z9g : T F.znx = some zw7 := rfl
theorem z9h : T F.zny = some zw9 := rfl
theorem z9i : T F.zkq = some zxa := rfl
theorem z9j : T F.zk2 = some zxo := rfl
theorem z9k : T F.znc = some zxq := rfl
theorem z9l : T F.zlp = some zxs := rfl
theorem z9m : T F.zlm = some zxu := rfl
theorem z9n : T F.znm = some zyl := rfl
theorem z9o : T F.znz = some zyn := rfl
theorem z9p : T F.zn0 = some zyp := rfl
theorem z9q : T F.zjx = some zyr := rfl
theorem z9r : T F.zjw = some zyt := rfl
theorem z9s : T F.zjz = some zy5 := rfl
theorem z9t : T F.zj3 = some zy7 := rfl
theorem z9u : T F.zn1 = some zzl := rfl
theorem z9v : T F.zld = some zzq := rfl
theorem z9w : T F.zlg = some zz1 := rfl
theorem z9x : T F.zls = some z0o := rfl
theorem z9y : T F.zlq = some z0t := rfl
theorem z9z : T F.zlt = some z02 := rfl
theorem z90 : T F.zn2 = some z1f := rfl
theorem z91 : T F.zn3 = some z1k := rfl
theorem z92 : T F.zm3 = some z1p := rfl
theorem z93 : T F.zm2 = some z1u := rfl
theorem z94 : T F.zm5 = some z2d := rfl
theorem z95 : T F.znb = some z2q := rfl
theorem z96 : T F.zng = some z2v := rfl
theorem z97 : T F.zlo = some z3e := rfl
theorem z98 : T F.zll = some z3z := rfl
theorem z99 : T F.zn4 = some z4d := rfl
theorem zbaa : T F.zn5 = some z4w := rfl
theorem zbab : T F.zn6 = some z41 := rfl
theorem zbac : T F.zla = some z46 := rfl
theorem zbad : T F.zlf = some z54 := rfl
theorem zbae : T F.zn7 = some z59 := rfl
theorem zbaf : T F.zn8 = some z6i := rfl
theorem zbag : T F.zlw = some z6t := rfl
theorem zbah : T F.zmz = some z6y := rfl
theorem zbai : T F.zlj = some z7v := rfl
theorem zbaj : T F.zn9 = some z8e := rfl
theorem zbak : T F.zlv = some z8j := rfl
def rg {P : Prop} {c c' : List MO} (h : c = c') (p : P) := ra (T := T) h p
def xg {P : Prop} {c c' : MC} (h : c = c') (p : P) := xa (T := T) h p
def zbal := rg o_9_1.eq_1 <| rg o_9_2.eq_1 <| rg o_9_3.eq_1 <| rg o_9_4.eq_1 <| rg o_9_5.eq_1 <| rg o_9_6.eq_1 <| xg c_9_7.eq_1 <| rg o_9_8.eq_1 <| rg o_9_9.eq_1 <| rg o_9_10.eq_1 <| xg c_9_11.eq_1 <| rg o_9_12.eq_1 <| rg o_9_13.eq_1 <| rg o_9_14.eq_1 <| rg o_9_15.eq_1 <| xg c_9_16.eq_1 <| xg c_9_17.eq_1 <| xg c_9_18.eq_1 <| xg c_9_19.eq_1 <| xg c_9_20.eq_1 <| xg c_9_21.eq_1 <| xg c_9_22.eq_1 <| xg c_9_23.eq_1 <| xg c_9_24.eq_1 <| @ex_of T _ _ c_9_25.eq_1
def zbam := @vd T F.zns zob [0, 0] z8k rfl rfl
theorem zban : zob.res = [.tmp 4] ∧ zob.rets = [[]] ∧ zob.body = (.seq (.reg o_9_1) c_9_25) := ⟨rfl, rfl, rfl⟩
def zbao := rg o_17_1.eq_1 <| rg o_17_2.eq_1 <| rg o_17_3.eq_1 <| rg o_17_4.eq_1 <| rg o_17_5.eq_1 <| rg o_17_6.eq_1 <| xg c_17_7.eq_1 <| xg c_17_8.eq_1 <| xg c_17_9.eq_1 <| xg zoc.eq_1 <| @ex_of T _ _ zod.eq_1
def zbap := @vd T F.zk7 zof [] z8l rfl rfl
theorem zbaq : zof.res = [.tmp 0] ∧ zof.rets = [[]] ∧ zof.body = (.seq (.reg o_17_1) zod) := ⟨rfl, rfl, rfl⟩
def zbar := rg o_18_1.eq_1 <| rg o_18_2.eq_1 <| @ex_of T _ _ c_18_3.eq_1
def zbas := @vd T F.zk9 zoh [0] z8m rfl rfl
theorem zbat : zoh.res = [.tmp 2] ∧ zoh.rets = [[]] ∧ zoh.body = (.seq (.reg o_18_1) c_18_3) := ⟨rfl, rfl, rfl⟩
def zbau := rg o_19_1.eq_1 <| rg o_19_2.eq_1 <| rg o_19_3.eq_1 <| rg o_19_4.eq_1 <| rg o_19_5.eq_1 <| rg o_19_6.eq_1 <| xg c_19_7.eq_1 <| xg c_19_8.eq_1 <| rg o_19_9.eq_1 <| rg zoi.eq_1 <| rg zoj.eq_1 <| rg zok.eq_1 <| rg zol.eq_1 <| rg zom.eq_1 <| rg zon.eq_1 <| rg zoo.eq_1 <| rg zop.eq_1 <| rg zoq.eq_1 <| rg zor.eq_1 <| rg zos.eq_1 <| xg zot.eq_1 <| xg zou.eq_1 <| xg zov.eq_1 <| rg zow.eq_1 <| xg zox.eq_1 <| xg zoy.eq_1 <| xg zoz.eq_1 <| xg zo0.eq_1 <| xg zo1.eq_1 <| rg zo2.eq_1 <| xg zo3.eq_1 <| xg zo4.eq_1 <| xg zo5.eq_1 <| xg zo6.eq_1 <| xg zo7.eq_1 <| xg zo8.eq_1 <| xg zo9.eq_1 <| xg zpa.eq_1 <| xg zpb.eq_1 <| @ex_of T _ _ zpc.eq_1
def zbav := @vd T F.zkj zpe [0, 0] z8n rfl rfl
theorem zbaw : zpe.res = [.cell 4 8 true, .tmp 5] ∧ zpe.rets = [[], []] ∧ zpe.body = (.seq (.reg o_19_1) zpc) := ⟨rfl, rfl, rfl⟩
def zbax := rg o_22_1.eq_1 <| rg o_22_2.eq_1 <| @ex_of T _ _ c_22_3.eq_1
def zbay := @vd T F.zj6 zpg [0] z8o rfl rfl
theorem zbaz : zpg.res = [.tmp 2] ∧ zpg.rets = [[]] ∧ zpg.body = (.seq (.reg o_22_1) c_22_3) := ⟨rfl, rfl, rfl⟩
def zba0 := rg o_24_1.eq_1 <| rg o_24_2.eq_1 <| rg o_24_3.eq_1 <| rg o_24_4.eq_1 <| rg o_24_5.eq_1 <| rg o_24_6.eq_1 <| xg c_24_7.eq_1 <| xg c_24_8.eq_1 <| rg o_24_9.eq_1 <| rg zph.eq_1 <| And.intro (@df_of T _ _ [(2, 16), (2, 17), (19, 16), (19, 17), (21, 16), (21, 17)] zph.eq_1) <| rg zpi.eq_1 <| rg zpj.eq_1 <| rg zpk.eq_1 <| rg zpl.eq_1 <| xg zpm.eq_1 <| rg zpn.eq_1 <| xg zpo.eq_1 <| xg zpp.eq_1 <| xg zpq.eq_1 <| xg zpr.eq_1 <| xg zps.eq_1 <| rg zpt.eq_1 <| rg zpu.eq_1 <| xg zpv.eq_1 <| rg zpw.eq_1 <| xg zpx.eq_1 <| xg zpy.eq_1 <| xg zpz.eq_1 <| xg zp0.eq_1 <| xg zp1.eq_1 <| xg zp2.eq_1 <| @ex_of T _ _ zp3.eq_1
def zba1 := @vd T F.zk0 zp5 [0, 0] z8p rfl rfl
theorem zba2 : zp5.res = [.cell 4 6 true, .tmp 5] ∧ zp5.rets = [[], []] ∧ zp5.body = (.seq (.reg o_24_1) zp3) := ⟨rfl, rfl, rfl⟩
def zba3 := rg o_25_1.eq_1 <| rg o_25_2.eq_1 <| @ex_of T _ _ c_25_3.eq_1
def zba4 := @vd T F.zk6 zp7 [0, 0] z8q rfl rfl
theorem zba5 : zp7.res = [.tmp 4] ∧ zp7.rets = [[]] ∧ zp7.body = (.seq (.reg o_25_1) c_25_3) := ⟨rfl, rfl, rfl⟩
def zba6 := rg o_26_1.eq_1 <| rg o_26_2.eq_1 <| rg o_26_3.eq_1 <| rg o_26_4.eq_1 <| rg o_26_5.eq_1 <| rg o_26_6.eq_1 <| xg c_26_7.eq_1 <| xg c_26_8.eq_1 <| rg o_26_9.eq_1 <| rg zp8.eq_1 <| rg zp9.eq_1 <| rg zqa.eq_1 <| rg zqb.eq_1 <| xg zqc.eq_1 <| xg zqd.eq_1 <| rg zqe.eq_1 <| xg zqf.eq_1 <| xg zqg.eq_1 <| xg zqh.eq_1 <| xg zqi.eq_1 <| @ex_of T _ _ zqj.eq_1
def zba7 := @vd T F.zm9 zql [0] z8r rfl rfl
theorem zba8 : zql.res = [.cell 2 8 true, .tmp 3] ∧ zql.rets = [[], []] ∧ zql.body = (.seq (.reg o_26_1) zqj) := ⟨rfl, rfl, rfl⟩
def zba9 := rg o_27_1.eq_1 <| rg o_27_2.eq_1 <| rg o_27_3.eq_1 <| xg c_27_4.eq_1 <| rg o_27_5.eq_1 <| rg o_27_6.eq_1 <| rg o_27_7.eq_1 <| rg o_27_8.eq_1 <| rg o_27_9.eq_1 <| xg zqm.eq_1 <| rg zqn.eq_1 <| xg zqo.eq_1 <| xg zqp.eq_1 <| xg zqq.eq_1 <| xg zqr.eq_1 <| xg zqs.eq_1 <| rg zqt.eq_1 <| rg zqu.eq_1 <| rg zqv.eq_1 <| xg zqw.eq_1 <| rg zqx.eq_1 <| rg zqy.eq_1 <| rg zqz.eq_1 <| rg zq0.eq_1 <| rg zq1.eq_1 <| And.intro (@df_of T _ _ [(8, 5), (8, 6)] zq1.eq_1) <| xg zq2.eq_1 <| rg zq3.eq_1 <| xg zq4.eq_1 <| xg zq5.eq_1 <| xg zq6.eq_1 <| xg zq7.eq_1 <| xg zq8.eq_1 <| rg zq9.eq_1 <| xg zra.eq_1 <| xg zrb.eq_1 <| xg zrc.eq_1 <| xg zrd.eq_1 <| xg zre.eq_1 <| xg zrf.eq_1 <| xg zrg.eq_1 <| @ex_of T _ _ zrh.eq_1
def zbba := @vd T F.znq zrj [0] z8s rfl rfl
theorem zbbb : zrj.res = [.tmp 2, .tmp 3] ∧ zrj.rets = [[2], []] ∧ zrj.body = (.seq (.reg o_27_1) zrh) := ⟨rfl, rfl, rfl⟩
def zbbc := rg o_31_1.eq_1 <| rg o_31_2.eq_1 <| rg o_31_3.eq_1 <| rg o_31_4.eq_1 <| rg o_31_5.eq_1 <| xg c_31_6.eq_1 <| rg o_31_7.eq_1 <| xg c_31_8.eq_1 <| xg c_31_9.eq_1 <| xg zrk.eq_1 <| @ex_of T _ _ zrl.eq_1
def zbbd := @vd T F.zkx zrn [0, 0] z8t rfl rfl
theorem zbbe : zrn.res = [.tmp 4] ∧ zrn.rets = [[4]] ∧ zrn.body = (.seq (.reg o_31_1) zrl) := ⟨rfl, rfl, rfl⟩
def zbbf := rg o_36_1.eq_1 <| rg o_36_2.eq_1 <| @ex_of T _ _ c_36_3.eq_1
def zbbg := @vd T F.znr zrp [0, 0] z8u rfl rfl
theorem zbbh : zrp.res = [.tmp 4] ∧ zrp.rets = [[]] ∧ zrp.body = (.seq (.reg o_36_1) c_36_3) := ⟨rfl, rfl, rfl⟩
def zbbi := rg o_42_1.eq_1 <| rg o_42_2.eq_1 <| @ex_of T _ _ c_42_3.eq_1
def zbbj := @vd T F.zk3 zrr [0, 0] z8v rfl rfl
theorem zbbk : zrr.res = [.tmp 4] ∧ zrr.rets = [[]] ∧ zrr.body = (.seq (.reg o_42_1) c_42_3) := ⟨rfl, rfl, rfl⟩
def zbbl := rg o_44_1.eq_1 <| rg o_44_2.eq_1 <| @ex_of T _ _ c_44_3.eq_1
def zbbm := @vd T F.zk8 zrt [0] z8w rfl rfl
theorem zbbn : zrt.res = [.tmp 2] ∧ zrt.rets = [[]] ∧ zrt.body = (.seq (.reg o_44_1) c_44_3) := ⟨rfl, rfl, rfl⟩
def zbbo := rg o_45_1.eq_1 <| rg o_45_2.eq_1 <| @ex_of T _ _ c_45_3.eq_1
def zbbp := @vi T F.znt zrv z8x rfl
theorem zbbq {n : Nat} {H : Hp} {vs : List V} : (orc T (n + 1)).inl F.znt vs H = finI H.length false [.tmp 3] (unw T (orc T n) n H.length [] (exec T (orc T n) n H.length (.seq (.reg o_45_1) c_45_3) (params 0 vs) H)) := by rw [zhz, z8x, y6, zhx]; rfl
def zbbr := rg o_46_1.eq_1 <| rg o_46_2.eq_1 <| @ex_of T _ _ c_46_3.eq_1
def zbbs := @vd T F.zj9 zrx [0, 0] z8y rfl rfl
theorem zbbt : zrx.res = [.tmp 4] ∧ zrx.rets = [[]] ∧ zrx.body = (.seq (.reg o_46_1) c_46_3) := ⟨rfl, rfl, rfl⟩
def zbbu := rg o_47_1.eq_1 <| rg o_47_2.eq_1 <| @ex_of T _ _ c_47_3.eq_1
def zbbv := @vi T F.znu zrz z8z rfl
theorem zbbw {n : Nat} {H : Hp} {vs : List V} : (orc T (n + 1)).inl F.znu vs H = finI H.length false [.tmp 4] (unw T (orc T n) n H.length [] (exec T (orc T n) n H.length (.seq (.reg o_47_1) c_47_3) (params 0 vs) H)) := by rw [zhz, z8z, y6, zhx]; rfl
def zbbx := rg o_48_1.eq_1 <| rg o_48_2.eq_1 <| rg o_48_3.eq_1 <| xg c_48_4.eq_1 <| rg o_48_5.eq_1 <| xg c_48_6.eq_1 <| xg c_48_7.eq_1 <| rg o_48_8.eq_1 <| xg c_48_9.eq_1 <| xg zr0.eq_1 <| @ex_of T _ _ zr1.eq_1
def zbby := @vd T F.zkb zr3 [0, 0] z80 rfl rfl
theorem zbbz : zr3.res = [.tmp 4] ∧ zr3.rets = [[]] ∧ zr3.body = (.seq (.reg o_48_1) zr1) := ⟨rfl, rfl, rfl⟩
def zbb0 := rg o_49_1.eq_1 <| rg o_49_2.eq_1 <| rg o_49_3.eq_1 <| xg c_49_4.eq_1 <| rg o_49_5.eq_1 <| xg c_49_6.eq_1 <| xg c_49_7.eq_1 <| rg o_49_8.eq_1 <| xg c_49_9.eq_1 <| xg zr4.eq_1 <| @ex_of T _ _ zr5.eq_1
def zbb1 := @vd T F.zkd zr7 [0, 0] z81 rfl rfl
theorem zbb2 : zr7.res = [.tmp 4] ∧ zr7.rets = [[]] ∧ zr7.body = (.seq (.reg o_49_1) zr5) := ⟨rfl, rfl, rfl⟩
def zbb3 := rg o_50_1.eq_1 <| rg o_50_2.eq_1 <| rg o_50_3.eq_1 <| xg c_50_4.eq_1 <| rg o_50_5.eq_1 <| xg c_50_6.eq_1 <| @ex_of T _ _ c_50_7.eq_1
def zbb4 := @vd T F.zke zr9 [0] z82 rfl rfl
theorem zbb5 : zr9.res = [.tmp 2] ∧ zr9.rets = [[2]] ∧ zr9.body = (.seq (.reg o_50_1) c_50_7) := ⟨rfl, rfl, rfl⟩
def zbb6 := rg o_52_1.eq_1 <| rg o_52_2.eq_1 <| rg o_52_3.eq_1 <| xg c_52_4.eq_1 <| rg o_52_5.eq_1 <| rg o_52_6.eq_1 <| rg o_52_7.eq_1 <| rg o_52_8.eq_1 <| xg c_52_9.eq_1 <| rg zsa.eq_1 <| rg zsb.eq_1 <| rg zsc.eq_1 <| xg zsd.eq_1 <| rg zse.eq_1 <| rg zsf.eq_1 <| rg zsg.eq_1 <| rg zsh.eq_1 <| rg zsi.eq_1 <| xg zsj.eq_1 <| xg zsk.eq_1 <| xg zsl.eq_1 <| xg zsm.eq_1 <| xg zsn.eq_1 <| rg zso.eq_1 <| xg zsp.eq_1 <| xg zsq.eq_1 <| xg zsr.eq_1 <| @ex_of T _ _ zss.eq_1
def zbb7 := @vd T F.zj2 zsu [0] z83 rfl rfl
theorem zbb8 : zsu.res = [.tmp 2] ∧ zsu.rets = [[]] ∧ zsu.body = (.seq (.reg o_52_1) zss) := ⟨rfl, rfl, rfl⟩
def zbb9 := rg o_53_1.eq_1 <| rg o_53_2.eq_1 <| rg o_53_3.eq_1 <| rg o_53_4.eq_1 <| rg o_53_5.eq_1 <| rg o_53_6.eq_1 <| xg c_53_7.eq_1 <| xg c_53_8.eq_1 <| rg o_53_9.eq_1 <| xg zsv.eq_1 <| xg zsw.eq_1 <| xg zsx.eq_1 <| xg zsy.eq_1 <| xg zsz.eq_1 <| rg zs0.eq_1 <| xg zs1.eq_1 <| @ex_of T _ _ zs2.eq_1
def zbca := @vd T F.zj5 zs4 [0] z84 rfl rfl
theorem zbcb : zs4.res = [.tmp 2] ∧ zs4.rets = [[]] ∧ zs4.body = (.seq (.reg o_53_1) zs2) := ⟨rfl, rfl, rfl⟩
def zbcc := rg o_56_1.eq_1 <| rg o_56_2.eq_1 <| rg o_56_3.eq_1 <| rg o_56_4.eq_1 <| rg o_56_5.eq_1 <| rg o_56_6.eq_1 <| rg o_56_7.eq_1 <| xg c_56_8.eq_1 <| xg c_56_9.eq_1 <| xg zs5.eq_1 <| rg zs6.eq_1 <| xg zs7.eq_1 <| xg zs8.eq_1 <| xg zs9.eq_1 <| xg zta.eq_1 <| xg ztb.eq_1 <| rg ztc.eq_1 <| rg ztd.eq_1 <| rg zte.eq_1 <| rg ztf.eq_1 <| rg ztg.eq_1 <| xg zth.eq_1 <| rg zti.eq_1 <| xg ztj.eq_1 <| xg ztk.eq_1 <| xg ztl.eq_1 <| xg ztm.eq_1 <| xg ztn.eq_1 <| rg zto.eq_1 <| xg ztp.eq_1 <| xg ztq.eq_1 <| xg ztr.eq_1 <| xg zts.eq_1 <| @ex_of T _ _ ztt.eq_1
def zbcd := @vd T F.zko ztv [0] z85 rfl rfl
theorem zbce : ztv.res = [.tmp 2] ∧ ztv.rets = [[2]] ∧ ztv.body = (.seq (.reg o_56_1) ztt) := ⟨rfl, rfl, rfl⟩
def zbcf := rg o_57_1.eq_1 <| rg o_57_2.eq_1 <| rg o_57_3.eq_1 <| xg c_57_4.eq_1 <| rg o_57_5.eq_1 <| rg o_57_6.eq_1 <| rg o_57_7.eq_1 <| rg o_57_8.eq_1 <| rg o_57_9.eq_1 <| xg ztw.eq_1 <| xg ztx.eq_1 <| rg zty.eq_1 <| xg ztz.eq_1 <| xg zt0.eq_1 <| xg zt1.eq_1 <| xg zt2.eq_1 <| xg zt3.eq_1 <| rg zt4.eq_1 <| xg zt5.eq_1 <| xg zt6.eq_1 <| @ex_of T _ _ zt7.eq_1
def zbcg := @vd T F.zk5 zt9 [0, 0] z86 rfl rfl
theorem zbch : zt9.res = [.tmp 4] ∧ zt9.rets = [[]] ∧ zt9.body = (.seq (.reg o_57_1) zt7) := ⟨rfl, rfl, rfl⟩
def zbci := rg o_58_1.eq_1 <| rg o_58_2.eq_1 <| rg o_58_3.eq_1 <| xg c_58_4.eq_1 <| rg o_58_5.eq_1 <| rg o_58_6.eq_1 <| rg o_58_7.eq_1 <| rg o_58_8.eq_1 <| rg o_58_9.eq_1 <| rg zua.eq_1 <| rg zub.eq_1 <| xg zuc.eq_1 <| xg zud.eq_1 <| xg zue.eq_1 <| rg zuf.eq_1 <| rg zug.eq_1 <| And.intro (@df_of T _ _ [(5, 8)] zug.eq_1) <| rg zuh.eq_1 <| xg zui.eq_1 <| rg zuj.eq_1 <| xg zuk.eq_1 <| xg zul.eq_1 <| xg zum.eq_1 <| xg zun.eq_1 <| xg zuo.eq_1 <| @ex_of T _ _ zup.eq_1
def zbcj := @vd T F.zlu zur [0] z87 rfl rfl
theorem zbck : zur.res = [.tmp 2, .tmp 3, .tmp 4] ∧ zur.rets = [[2], [], []] ∧ zur.body = (.seq (.reg o_58_1) zup) := ⟨rfl, rfl, rfl⟩
def zbcl := rg o_59_1.eq_1 <| rg o_59_2.eq_1 <| rg o_59_3.eq_1 <| rg o_59_4.eq_1 <| rg o_59_5.eq_1 <| rg o_59_6.eq_1 <| xg c_59_7.eq_1 <| rg o_59_8.eq_1 <| rg o_59_9.eq_1 <| rg zus.eq_1 <| And.intro (@df_of T _ _ [(1, 3), (1, 4)] zus.eq_1) <| rg zut.eq_1 <| xg zuu.eq_1 <| xg zuv.eq_1 <| xg zuw.eq_1 <| xg zux.eq_1 <| xg zuy.eq_1 <| rg zuz.eq_1 <| rg zu0.eq_1 <| rg zu1.eq_1 <| xg zu2.eq_1 <| rg zu3.eq_1 <| rg zu4.eq_1 <| rg zu5.eq_1 <| xg zu6.eq_1 <| rg zu7.eq_1 <| rg zu8.eq_1 <| rg zu9.eq_1 <| rg zva.eq_1 <| xg zvb.eq_1 <| xg zvc.eq_1 <| xg zvd.eq_1 <| rg zve.eq_1 <| xg zvf.eq_1 <| xg zvg.eq_1 <| xg zvh.eq_1 <| xg zvi.eq_1 <| rg zvj.eq_1 <| And.intro (@dr_of T _ _ [(10, 13)] zvj.eq_1 (by decide)) <| xg zvk.eq_1 <| xg zvl.eq_1 <| xg zvm.eq_1 <| xg zvn.eq_1 <| xg zvo.eq_1 <| xg zvp.eq_1 <| xg zvq.eq_1 <| xg zvr.eq_1 <| xg zvs.eq_1 <| @ex_of T _ _ zvt.eq_1
def zbcm := @vd T F.zmy zvv [0] z88 rfl rfl
theorem zbcn : zvv.res = [.cell 2 8 true, .tmp 3] ∧ zvv.rets = [[], []] ∧ zvv.body = (.seq (.reg o_59_1) zvt) := ⟨rfl, rfl, rfl⟩
def zbco := rg o_60_1.eq_1 <| rg o_60_2.eq_1 <| rg o_60_3.eq_1 <| xg c_60_4.eq_1 <| @ex_of T _ _ c_60_5.eq_1
def zbcp := @vd T F.zm8 zvx [0] z89 rfl rfl
theorem zbcq : zvx.res = [.tmp 2] ∧ zvx.rets = [[]] ∧ zvx.body = (.seq (.reg o_60_1) c_60_5) := ⟨rfl, rfl, rfl⟩
def zbcr := rg o_61_1.eq_1 <| rg o_61_2.eq_1 <| rg o_61_3.eq_1 <| rg o_61_4.eq_1 <| rg o_61_5.eq_1 <| xg c_61_6.eq_1 <| rg o_61_7.eq_1 <| xg c_61_8.eq_1 <| xg c_61_9.eq_1 <| xg zvy.eq_1 <| xg zvz.eq_1 <| xg zv0.eq_1 <| rg zv1.eq_1 <| xg zv2.eq_1 <| @ex_of T _ _ zv3.eq_1
def zbcs := @vd T F.znf zv5 [2, 0] z9a rfl rfl
theorem zbct : zv5.res = [.tmp 4] ∧ zv5.rets = [[2]] ∧ zv5.body = (.seq (.reg o_61_1) zv3) := ⟨rfl, rfl, rfl⟩
def zbcu := rg o_62_1.eq_1 <| rg o_62_2.eq_1 <| @ex_of T _ _ c_62_3.eq_1
def zbcv := @vd T F.znh zv7 [2, 0] z9b rfl rfl
theorem zbcw : zv7.res = [.tmp 4] ∧ zv7.rets = [[2]] ∧ zv7.body = (.seq (.reg o_62_1) c_62_3) := ⟨rfl, rfl, rfl⟩
def zbcx := rg o_63_1.eq_1 <| rg o_63_2.eq_1 <| rg o_63_3.eq_1 <| xg c_63_4.eq_1 <| rg o_63_5.eq_1 <| rg o_63_6.eq_1 <| xg c_63_7.eq_1 <| xg c_63_8.eq_1 <| @ex_of T _ _ c_63_9.eq_1
def zbcy := @vd T F.znn zv9 [0] z9c rfl rfl
theorem zbcz : zv9.res = [.tmp 2, .tmp 3] ∧ zv9.rets = [[2], []] ∧ zv9.body = (.seq (.reg o_63_1) c_63_9) := ⟨rfl, rfl, rfl⟩
def zbc0 := rg o_67_1.eq_1 <| rg o_67_2.eq_1 <| rg o_67_3.eq_1 <| rg o_67_4.eq_1 <| xg c_67_5.eq_1 <| rg o_67_6.eq_1 <| rg o_67_7.eq_1 <| xg c_67_8.eq_1 <| rg o_67_9.eq_1 <| rg zwa.eq_1 <| rg zwb.eq_1 <| rg zwc.eq_1 <| xg zwd.eq_1 <| xg zwe.eq_1 <| xg zwf.eq_1 <| rg zwg.eq_1 <| xg zwh.eq_1 <| xg zwi.eq_1 <| xg zwj.eq_1 <| xg zwk.eq_1 <| rg zwl.eq_1 <| rg zwm.eq_1 <| xg zwn.eq_1 <| xg zwo.eq_1 <| xg zwp.eq_1 <| xg zwq.eq_1 <| @ex_of T _ _ zwr.eq_1
def zbc1 := @vi T F.znv zwt z9d rfl
theorem zbc2 {n : Nat} {H : Hp} {vs : List V} : (orc T (n + 1)).inl F.znv vs H = finI H.length true [.tmp 4] (unw T (orc T n) n H.length [] (exec T (orc T n) n H.length (.seq (.reg o_67_1) zwr) (params 0 vs) H)) := by rw [zhz, z9d, y6, zhx]; rfl
def zbc3 := rg o_68_1.eq_1 <| rg o_68_2.eq_1 <| rg o_68_3.eq_1 <| xg c_68_4.eq_1 <| rg o_68_5.eq_1 <| xg c_68_6.eq_1 <| @ex_of T _ _ c_68_7.eq_1
def zbc4 := @vd T F.zkp zwv [0] z9e rfl rfl
theorem zbc5 : zwv.res = [.tmp 2] ∧ zwv.rets = [[4]] ∧ zwv.body = (.seq (.reg o_68_1) c_68_7) := ⟨rfl, rfl, rfl⟩
def zbc6 := rg o_69_1.eq_1 <| rg o_69_2.eq_1 <| @ex_of T _ _ c_69_3.eq_1
def zbc7 := @vi T F.znw zwx z9f rfl
theorem zbc8 {n : Nat} {H : Hp} {vs : List V} : (orc T (n + 1)).inl F.znw vs H = finI H.length false [.tmp 3] (unw T (orc T n) n H.length [] (exec T (orc T n) n H.length (.seq (.reg o_69_1) c_69_3) (params 0 vs) H)) := by rw [zhz, z9f, y6, zhx]; rfl
def zbc9 := rg o_70_1.eq_1 <| rg o_70_2.eq_1 <| rg o_70_3.eq_1 <| rg o_70_4.eq_1 <| rg o_70_5.eq_1 <| rg o_70_6.eq_1 <| xg c_70_7.eq_1 <| xg c_70_8.eq_1 <| rg o_70_9.eq_1 <| xg zwy.eq_1 <| xg zwz.eq_1 <| xg zw0.eq_1 <| xg zw1.eq_1 <| xg zw2.eq_1 <| rg zw3.eq_1 <| xg zw4.eq_1 <| @ex_of T _ _ zw5.eq_1
def zbda := @vi T F.znx zw7 z9g rfl
theorem zbdb {n : Nat} {H : Hp} {vs : List V} : (orc T (n + 1)).inl F.znx vs H = finI H.length false [.tmp 4] (unw T (orc T n) n H.length [] (exec T (orc T n) n H.length (.seq (.reg o_70_1) zw5) (params 0 vs) H)) := by rw [zhz, z9g, y6, zhx]; rfl
def zbdc := rg o_71_1.eq_1 <| rg o_71_2.eq_1 <| @ex_of T _ _ c_71_3.eq_1
def zbdd := @vi T F.zny zw9 z9h rfl
theorem zbde {n : Nat} {H : Hp} {vs : List V} : (orc T (n + 1)).inl F.zny vs H = finI H.length false [.tmp 3] (unw T (orc T n) n H.length [] (exec T (orc T n) n H.length (.seq (.reg o_71_1) c_71_3) (params 0 vs) H)) := by rw [zhz, z9h, y6, zhx]; rfl
def zbdf := @vd T F.zkq zxa [4, 0, 4] z9i rfl rfl
theorem zbdg : zxa.res = [.tmp 6] ∧ zxa.rets = [[4]] ∧ zxa.body = .fail := ⟨rfl, rfl, rfl⟩
def zbdh := rg o_79_1.eq_1 <| rg o_79_2.eq_1 <| rg o_79_3.eq_1 <| xg c_79_4.eq_1 <| rg o_79_5.eq_1 <| rg o_79_6.eq_1 <| rg o_79_7.eq_1 <| rg o_79_8.eq_1 <| rg o_79_9.eq_1 <| xg zxb.eq_1 <| xg zxc.eq_1 <| rg zxd.eq_1 <| xg zxe.eq_1 <| xg zxf.eq_1 <| xg zxg.eq_1 <| xg zxh.eq_1 <| xg zxi.eq_1 <| rg zxj.eq_1 <| xg zxk.eq_1 <| xg zxl.eq_1 <| @ex_of T _ _ zxm.eq_1
def zbdi := @vd T F.zk2 zxo [0, 0] z9j rfl rfl
theorem zbdj : zxo.res = [.tmp 4] ∧ zxo.rets = [[]] ∧ zxo.body = (.seq (.reg o_79_1) zxm) := ⟨rfl, rfl, rfl⟩
def zbdk := rg o_81_1.eq_1 <| rg o_81_2.eq_1 <| rg o_81_3.eq_1 <| xg c_81_4.eq_1 <| rg o_81_5.eq_1 <| xg c_81_6.eq_1 <| @ex_of T _ _ c_81_7.eq_1
def zbdl := @vd T F.znc zxq [2, 0] z9k rfl rfl
theorem zbdm : zxq.res = [.tmp 4] ∧ zxq.rets = [[2]] ∧ zxq.body = (.seq (.reg o_81_1) c_81_7) := ⟨rfl, rfl, rfl⟩
def zbdn := rg o_83_1.eq_1 <| rg o_83_2.eq_1 <| @ex_of T _ _ c_83_3.eq_1
def zbdo := @vd T F.zlp zxs [0] z9l rfl rfl
theorem zbdp : zxs.res = [.tmp 2] ∧ zxs.rets = [[2]] ∧ zxs.body = (.seq (.reg o_83_1) c_83_3) := ⟨rfl, rfl, rfl⟩
def zbdq := rg o_84_1.eq_1 <| rg o_84_2.eq_1 <| @ex_of T _ _ c_84_3.eq_1
def zbdr := @vd T F.zlm zxu [0] z9m rfl rfl
theorem zbds : zxu.res = [.tmp 2] ∧ zxu.rets = [[]] ∧ zxu.body = (.seq (.reg o_84_1) c_84_3) := ⟨rfl, rfl, rfl⟩
def zbdt := rg o_91_1.eq_1 <| rg o_91_2.eq_1 <| rg o_91_3.eq_1 <| rg o_91_4.eq_1 <| rg o_91_5.eq_1 <| rg o_91_6.eq_1 <| rg o_91_7.eq_1 <| xg c_91_8.eq_1 <| xg c_91_9.eq_1 <| xg zxv.eq_1 <| rg zxw.eq_1 <| xg zxx.eq_1 <| xg zxy.eq_1 <| xg zxz.eq_1 <| xg zx0.eq_1 <| xg zx1.eq_1 <| rg zx2.eq_1 <| rg zx3.eq_1 <| rg zx4.eq_1 <| rg zx5.eq_1 <| rg zx6.eq_1 <| xg zx7.eq_1 <| rg zx8.eq_1 <| xg zx9.eq_1 <| xg zya.eq_1 <| xg zyb.eq_1 <| xg zyc.eq_1 <| xg zyd.eq_1 <| rg zye.eq_1 <| xg zyf.eq_1 <| xg zyg.eq_1 <| xg zyh.eq_1 <| xg zyi.eq_1 <| @ex_of T _ _ zyj.eq_1
def zbdu := @vd T F.znm zyl [0] z9n rfl rfl
theorem zbdv : zyl.res = [.tmp 2] ∧ zyl.rets = [[2]] ∧ zyl.body = (.seq (.reg o_91_1) zyj) := ⟨rfl, rfl, rfl⟩
def zbdw := rg o_94_1.eq_1 <| rg o_94_2.eq_1 <| @ex_of T _ _ c_94_3.eq_1
def zbdx := @vi T F.znz zyn z9o rfl
theorem zbdy {n : Nat} {H : Hp} {vs : List V} : (orc T (n + 1)).inl F.znz vs H = finI H.length false [.tmp 3] (unw T (orc T n) n H.length [] (exec T (orc T n) n H.length (.seq (.reg o_94_1) c_94_3) (params 0 vs) H)) := by rw [zhz, z9o, y6, zhx]; rfl
def zbdz := rg o_95_1.eq_1 <| rg o_95_2.eq_1 <| @ex_of T _ _ c_95_3.eq_1
def zbd0 := @vi T F.zn0 zyp z9p rfl
theorem zbd1 {n : Nat} {H : Hp} {vs : List V} : (orc T (n + 1)).inl F.zn0 vs H = finI H.length false [.tmp 4] (unw T (orc T n) n H.length [] (exec T (orc T n) n H.length (.seq (.reg o_95_1) c_95_3) (params 0 vs) H)) := by rw [zhz, z9p, y6, zhx]; rfl
def zbd2 := rg o_96_1.eq_1 <| rg o_96_2.eq_1 <| @ex_of T _ _ c_96_3.eq_1
def zbd3 := @vd T F.zjx zyr [0] z9q rfl rfl
theorem zbd4 : zyr.res = [.tmp 2] ∧ zyr.rets = [[]] ∧ zyr.body = (.seq (.reg o_96_1) c_96_3) := ⟨rfl, rfl, rfl⟩
def zbd5 := rg o_97_1.eq_1 <| rg o_97_2.eq_1 <| @ex_of T _ _ c_97_3.eq_1
def zbd6 := @vd T F.zjw zyt [0] z9r rfl rfl
theorem zbd7 : zyt.res = [.tmp 2] ∧ zyt.rets = [[]] ∧ zyt.body = (.seq (.reg o_97_1) c_97_3) := ⟨rfl, rfl, rfl⟩
def zbd8 := rg o_98_1.eq_1 <| rg o_98_2.eq_1 <| rg o_98_3.eq_1 <| rg o_98_4.eq_1 <| xg c_98_5.eq_1 <| rg o_98_6.eq_1 <| rg o_98_7.eq_1 <| xg c_98_8.eq_1 <| rg o_98_9.eq_1 <| xg zyu.eq_1 <| rg zyv.eq_1 <| xg zyw.eq_1 <| xg zyx.eq_1 <| xg zyy.eq_1 <| xg zyz.eq_1 <| rg zy0.eq_1 <| xg zy1.eq_1 <| xg zy2.eq_1 <| @ex_of T _ _ zy3.eq_1
def zbd9 := @vd T F.zjz zy5 [0, 0] z9s rfl rfl
theorem zbea : zy5.res = [.tmp 4] ∧ zy5.rets = [[]] ∧ zy5.body = (.seq (.reg o_98_1) zy3) := ⟨rfl, rfl, rfl⟩
def zbeb := rg o_99_1.eq_1 <| rg o_99_2.eq_1 <| @ex_of T _ _ c_99_3.eq_1
def zbec := @vd T F.zj3 zy7 [0] z9t rfl rfl
theorem zbed : zy7.res = [.tmp 2] ∧ zy7.rets = [[]] ∧ zy7.body = (.seq (.reg o_99_1) c_99_3) := ⟨rfl, rfl, rfl⟩
def zbee := rg zy8.eq_1 <| rg zy9.eq_1 <| xg zza.eq_1 <| rg zzb.eq_1 <| rg zzc.eq_1 <| rg zzd.eq_1 <| xg zze.eq_1 <| xg zzf.eq_1 <| rg zzg.eq_1 <| xg zzh.eq_1 <| xg zzi.eq_1 <| @ex_of T _ _ zzj.eq_1
def zbef := @vi T F.zn1 zzl z9u rfl
theorem zbeg {n : Nat} {H : Hp} {vs : List V} : (orc T (n + 1)).inl F.zn1 vs H = finI H.length false [.tmp 4] (unw T (orc T n) n H.length [] (exec T (orc T n) n H.length (.seq (.reg zy8) zzj) (params 0 vs) H)) := by rw [zhz, z9u, y6, zhx]; rfl
def zbeh := rg zzm.eq_1 <| rg zzn.eq_1 <| @ex_of T _ _ zzo.eq_1
def zbei := @vd T F.zld zzq [0] z9v rfl rfl
theorem zbej : zzq.res = [.tmp 2] ∧ zzq.rets = [[]] ∧ zzq.body = (.seq (.reg zzm) zzo) := ⟨rfl, rfl, rfl⟩
def zbek := rg zzr.eq_1 <| rg zzs.eq_1 <| rg zzt.eq_1 <| rg zzu.eq_1 <| xg zzv.eq_1 <| rg zzw.eq_1 <| xg zzx.eq_1 <| xg zzy.eq_1 <| @ex_of T _ _ zzz.eq_1
def zbel := @vd T F.zlg zz1 [0] z9w rfl rfl
theorem zbem : zz1.res = [.tmp 2, .tmp 3] ∧ zz1.rets = [[], []] ∧ zz1.body = (.seq (.reg zzr) zzz) := ⟨rfl, rfl, rfl⟩
def zben := rg zz2.eq_1 <| rg zz3.eq_1 <| rg zz4.eq_1 <| xg zz5.eq_1 <| rg zz6.eq_1 <| rg zz7.eq_1 <| rg zz8.eq_1 <| rg zz9.eq_1 <| rg z0a.eq_1 <| xg z0b.eq_1 <| xg z0c.eq_1 <| rg z0d.eq_1 <| xg z0e.eq_1 <| xg z0f.eq_1 <| xg z0g.eq_1 <| xg z0h.eq_1 <| xg z0i.eq_1 <| rg z0j.eq_1 <| xg z0k.eq_1 <| xg z0l.eq_1 <| @ex_of T _ _ z0m.eq_1
def zbeo := @vd T F.zls z0o [0, 0] z9x rfl rfl
theorem zbep : z0o.res = [.tmp 4] ∧ z0o.rets = [[]] ∧ z0o.body = (.seq (.reg zz2) z0m) := ⟨rfl, rfl, rfl⟩
def zbeq := rg z0p.eq_1 <| rg z0q.eq_1 <| @ex_of T _ _ z0r.eq_1
def zber := @vd T F.zlq z0t [0, 0] z9y rfl rfl
theorem zbes : z0t.res = [.tmp 4] ∧ z0t.rets = [[2]] ∧ z0t.body = (.seq (.reg z0p) z0r) := ⟨rfl, rfl, rfl⟩
def zbet := rg z0u.eq_1 <| rg z0v.eq_1 <| rg z0w.eq_1 <| xg z0x.eq_1 <| rg z0y.eq_1 <| xg z0z.eq_1 <| @ex_of T _ _ z00.eq_1
def zbeu := @vd T F.zlt z02 [0] z9z rfl rfl
theorem zbev : z02.res = [.tmp 2] ∧ z02.rets = [[2]] ∧ z02.body = (.seq (.reg z0u) z00) := ⟨rfl, rfl, rfl⟩
def zbew := rg z03.eq_1 <| rg z04.eq_1 <| rg z05.eq_1 <| rg z06.eq_1 <| xg z07.eq_1 <| rg z08.eq_1 <| xg z09.eq_1 <| xg z1a.eq_1 <| xg z1b.eq_1 <| xg z1c.eq_1 <| @ex_of T _ _ z1d.eq_1
def zbex := @vi T F.zn2 z1f z90 rfl
theorem zbey {n : Nat} {H : Hp} {vs : List V} : (orc T (n + 1)).inl F.zn2 vs H = finI H.length false [] (unw T (orc T n) n H.length [] (exec T (orc T n) n H.length (.seq (.reg z03) z1d) (params 0 vs) H)) := by rw [zhz, z90, y6, zhx]; rfl
def zbez := rg z1g.eq_1 <| rg z1h.eq_1 <| @ex_of T _ _ z1i.eq_1
def zbe0 := @vi T F.zn3 z1k z91 rfl
theorem zbe1 {n : Nat} {H : Hp} {vs : List V} : (orc T (n + 1)).inl F.zn3 vs H = finI H.length false [.tmp 2] (unw T (orc T n) n H.length [] (exec T (orc T n) n H.length (.seq (.reg z1g) z1i) (params 0 vs) H)) := by rw [zhz, z91, y6, zhx]; rfl
def zbe2 := rg z1l.eq_1 <| rg z1m.eq_1 <| @ex_of T _ _ z1n.eq_1
def zbe3 := @vd T F.zm3 z1p [0] z92 rfl rfl
theorem zbe4 : z1p.res = [.tmp 2] ∧ z1p.rets = [[]] ∧ z1p.body = (.seq (.reg z1l) z1n) := ⟨rfl, rfl, rfl⟩
def zbe5 := rg z1q.eq_1 <| rg z1r.eq_1 <| @ex_of T _ _ z1s.eq_1
def zbe6 := @vd T F.zm2 z1u [0] z93 rfl rfl
theorem zbe7 : z1u.res = [.tmp 2] ∧ z1u.rets = [[]] ∧ z1u.body = (.seq (.reg z1q) z1s) := ⟨rfl, rfl, rfl⟩
def zbe8 := rg z1v.eq_1 <| rg z1w.eq_1 <| rg z1x.eq_1 <| rg z1y.eq_1 <| rg z1z.eq_1 <| rg z10.eq_1 <| xg z11.eq_1 <| xg z12.eq_1 <| rg z13.eq_1 <| xg z14.eq_1 <| xg z15.eq_1 <| xg z16.eq_1 <| xg z17.eq_1 <| xg z18.eq_1 <| rg z19.eq_1 <| xg z2a.eq_1 <| @ex_of T _ _ z2b.eq_1
def zbe9 := @vd T F.zm5 z2d [0] z94 rfl rfl
theorem zbfa : z2d.res = [.tmp 2] ∧ z2d.rets = [[]] ∧ z2d.body = (.seq (.reg z1v) z2b) := ⟨rfl, rfl, rfl⟩
def zbfb := rg z2e.eq_1 <| rg z2f.eq_1 <| xg z2g.eq_1 <| rg z2h.eq_1 <| rg z2i.eq_1 <| xg z2j.eq_1 <| xg z2k.eq_1 <| xg z2l.eq_1 <| rg z2m.eq_1 <| xg z2n.eq_1 <| @ex_of T _ _ z2o.eq_1
def zbfc := @vd T F.znb z2q [2, 0] z95 rfl rfl
theorem zbfd : z2q.res = [.tmp 4] ∧ z2q.rets = [[2]] ∧ z2q.body = (.seq (.reg z2e) z2o) := ⟨rfl, rfl, rfl⟩
def zbfe := rg z2r.eq_1 <| rg z2s.eq_1 <| @ex_of T _ _ z2t.eq_1
def zbff := @vd T F.zng z2v [0] z96 rfl rfl
theorem zbfg : z2v.res = [.tmp 2] ∧ z2v.rets = [[]] ∧ z2v.body = (.seq (.reg z2r) z2t) := ⟨rfl, rfl, rfl⟩
def zbfh := rg z2w.eq_1 <| rg z2x.eq_1 <| rg z2y.eq_1 <| rg z2z.eq_1 <| rg z20.eq_1 <| rg z21.eq_1 <| xg z22.eq_1 <| rg z23.eq_1 <| xg z24.eq_1 <| xg z25.eq_1 <| xg z26.eq_1 <| xg z27.eq_1 <| xg z28.eq_1 <| rg z29.eq_1 <| xg z3a.eq_1 <| xg z3b.eq_1 <| @ex_of T _ _ z3c.eq_1
def zbfi := @vd T F.zlo z3e [0, 0] z97 rfl rfl
theorem zbfj : z3e.res = [.tmp 4] ∧ z3e.rets = [[2]] ∧ z3e.body = (.seq (.reg z2w) z3c) := ⟨rfl, rfl, rfl⟩
def zbfk := rg z3f.eq_1 <| rg z3g.eq_1 <| rg z3h.eq_1 <| rg z3i.eq_1 <| rg z3j.eq_1 <| rg z3k.eq_1 <| rg z3l.eq_1 <| xg z3m.eq_1 <| rg z3n.eq_1 <| xg z3o.eq_1 <| xg z3p.eq_1 <| xg z3q.eq_1 <| xg z3r.eq_1 <| xg z3s.eq_1 <| rg z3t.eq_1 <| xg z3u.eq_1 <| xg z3v.eq_1 <| xg z3w.eq_1 <| @ex_of T _ _ z3x.eq_1
def zbfl := @vd T F.zll z3z [0, 0] z98 rfl rfl
theorem zbfm : z3z.res = [.tmp 4] ∧ z3z.rets = [[]] ∧ z3z.body = (.seq (.reg z3f) z3x) := ⟨rfl, rfl, rfl⟩
def zbfn := rg z30.eq_1 <| rg z31.eq_1 <| xg z32.eq_1 <| rg z33.eq_1 <| rg z34.eq_1 <| rg z35.eq_1 <| xg z36.eq_1 <| xg z37.eq_1 <| rg z38.eq_1 <| xg z39.eq_1 <| xg z4a.eq_1 <| @ex_of T _ _ z4b.eq_1
def zbfo := @vi T F.zn4 z4d z99 rfl
theorem zbfp {n : Nat} {H : Hp} {vs : List V} : (orc T (n + 1)).inl F.zn4 vs H = finI H.length false [.tmp 4] (unw T (orc T n) n H.length [] (exec T (orc T n) n H.length (.seq (.reg z30) z4b) (params 0 vs) H)) := by rw [zhz, z99, y6, zhx]; rfl
def zbfq := rg z4e.eq_1 <| rg z4f.eq_1 <| rg z4g.eq_1 <| rg z4h.eq_1 <| rg z4i.eq_1 <| rg z4j.eq_1 <| xg z4k.eq_1 <| xg z4l.eq_1 <| rg z4m.eq_1 <| xg z4n.eq_1 <| xg z4o.eq_1 <| xg z4p.eq_1 <| xg z4q.eq_1 <| xg z4r.eq_1 <| rg z4s.eq_1 <| xg z4t.eq_1 <| @ex_of T _ _ z4u.eq_1
def zbfr := @vi T F.zn5 z4w zbaa rfl
theorem zbfs {n : Nat} {H : Hp} {vs : List V} : (orc T (n + 1)).inl F.zn5 vs H = finI H.length false [.tmp 4] (unw T (orc T n) n H.length [] (exec T (orc T n) n H.length (.seq (.reg z4e) z4u) (params 0 vs) H)) := by rw [zhz, zbaa, y6, zhx]; rfl
def zbft := rg z4x.eq_1 <| rg z4y.eq_1 <| @ex_of T _ _ z4z.eq_1
def zbfu := @vi T F.zn6 z41 zbab rfl
theorem zbfv {n : Nat} {H : Hp} {vs : List V} : (orc T (n + 1)).inl F.zn6 vs H = finI H.length false [.tmp 4] (unw T (orc T n) n H.length [] (exec T (orc T n) n H.length (.seq (.reg z4x) z4z) (params 0 vs) H)) := by rw [zhz, zbab, y6, zhx]; rfl
def zbfw := rg z42.eq_1 <| rg z43.eq_1 <| @ex_of T _ _ z44.eq_1
def zbfx := @vd T F.zla z46 [0] zbac rfl rfl
theorem zbfy : z46.res = [.tmp 2] ∧ z46.rets = [[]] ∧ z46.body = (.seq (.reg z42) z44) := ⟨rfl, rfl, rfl⟩
def zbfz := rg z47.eq_1 <| rg z48.eq_1 <| rg z49.eq_1 <| rg z5a.eq_1 <| rg z5b.eq_1 <| rg z5c.eq_1 <| rg z5d.eq_1 <| rg z5e.eq_1 <| xg z5f.eq_1 <| rg z5g.eq_1 <| xg z5h.eq_1 <| rg z5i.eq_1 <| xg z5j.eq_1 <| xg z5k.eq_1 <| xg z5l.eq_1 <| rg z5m.eq_1 <| xg z5n.eq_1 <| rg z5o.eq_1 <| xg z5p.eq_1 <| xg z5q.eq_1 <| xg z5r.eq_1 <| xg z5s.eq_1 <| rg z5t.eq_1 <| xg z5u.eq_1 <| xg z5v.eq_1 <| xg z5w.eq_1 <| xg z5x.eq_1 <| xg z5y.eq_1 <| rg z5z.eq_1 <| xg z50.eq_1 <| xg z51.eq_1 <| @ex_of T _ _ z52.eq_1
def zbf0 := @vd T F.zlf z54 [0] zbad rfl rfl
theorem zbf1 : z54.res = [.tmp 2, .tmp 3] ∧ z54.rets = [[], []] ∧ z54.body = (.seq (.reg z47) z52) := ⟨rfl, rfl, rfl⟩
def zbf2 := rg z55.eq_1 <| rg z56.eq_1 <| @ex_of T _ _ z57.eq_1
def zbf3 := @vi T F.zn7 z59 zbae rfl
theorem zbf4 {n : Nat} {H : Hp} {vs : List V} : (orc T (n + 1)).inl F.zn7 vs H = finI H.length false [.tmp 2] (unw T (orc T n) n H.length [] (exec T (orc T n) n H.length (.seq (.reg z55) z57) (params 0 vs) H)) := by rw [zhz, zbae, y6, zhx]; rfl
def zbf5 := rg z6a.eq_1 <| rg z6b.eq_1 <| rg z6c.eq_1 <| rg z6d.eq_1 <| xg z6e.eq_1 <| xg z6f.eq_1 <| @ex_of T _ _ z6g.eq_1
def zbf6 := @vi T F.zn8 z6i zbaf rfl
theorem zbf7 {n : Nat} {H : Hp} {vs : List V} : (orc T (n + 1)).inl F.zn8 vs H = finI H.length false [.tmp 6] (unw T (orc T n) n H.length [] (exec T (orc T n) n H.length (.seq (.reg z6a) z6g) (params 0 vs) H)) := by rw [zhz, zbaf, y6, zhx]; rfl
def zbf8 := rg z6j.eq_1 <| rg z6k.eq_1 <| rg z6l.eq_1 <| rg z6m.eq_1 <| xg z6n.eq_1 <| rg z6o.eq_1 <| xg z6p.eq_1 <| xg z6q.eq_1 <| @ex_of T _ _ z6r.eq_1
def zbf9 := @vd T F.zlw z6t [0] zbag rfl rfl
theorem zbga : z6t.res = [.tmp 2, .tmp 3] ∧ z6t.rets = [[], []] ∧ z6t.body = (.seq (.reg z6j) z6r) := ⟨rfl, rfl, rfl⟩
def zbgb := rg z6u.eq_1 <| rg z6v.eq_1 <| @ex_of T _ _ z6w.eq_1
def zbgc := @vd T F.zmz z6y [0] zbah rfl rfl
theorem zbgd : z6y.res = [.tmp 2] ∧ z6y.rets = [[]] ∧ z6y.body = (.seq (.reg z6u) z6w) := ⟨rfl, rfl, rfl⟩
def zbge := rg z6z.eq_1 <| rg z60.eq_1 <| rg z61.eq_1 <| rg z62.eq_1 <| rg z63.eq_1 <| rg z64.eq_1 <| rg z65.eq_1 <| rg z66.eq_1 <| rg z67.eq_1 <| rg z68.eq_1 <| xg z69.eq_1 <| rg z7a.eq_1 <| xg z7b.eq_1 <| xg z7c.eq_1 <| xg z7d.eq_1 <| xg z7e.eq_1 <| xg z7f.eq_1 <| rg z7g.eq_1 <| xg z7h.eq_1 <| xg z7i.eq_1 <| xg z7j.eq_1 <| rg z7k.eq_1 <| xg z7l.eq_1 <| xg z7m.eq_1 <| xg z7n.eq_1 <| xg z7o.eq_1 <| xg z7p.eq_1 <| rg z7q.eq_1 <| xg z7r.eq_1 <| xg z7s.eq_1 <| @ex_of T _ _ z7t.eq_1
def zbgf := @vd T F.zlj z7v [] zbai rfl rfl
theorem zbgg : z7v.res = [.cell 0 256 true] ∧ z7v.rets = [[]] ∧ z7v.body = (.seq (.reg z6z) z7t) := ⟨rfl, rfl, rfl⟩
def zbgh := rg z7w.eq_1 <| rg z7x.eq_1 <| rg z7y.eq_1 <| rg z7z.eq_1 <| rg z70.eq_1 <| rg z71.eq_1 <| xg z72.eq_1 <| xg z73.eq_1 <| rg z74.eq_1 <| xg z75.eq_1 <| xg z76.eq_1 <| xg z77.eq_1 <| xg z78.eq_1 <| xg z79.eq_1 <| rg z8a.eq_1 <| xg z8b.eq_1 <| @ex_of T _ _ z8c.eq_1
def zbgi := @vi T F.zn9 z8e zbaj rfl
theorem zbgj {n : Nat} {H : Hp} {vs : List V} : (orc T (n + 1)).inl F.zn9 vs H = finI H.length false [.tmp 4] (unw T (orc T n) n H.length [] (exec T (orc T n) n H.length (.seq (.reg z7w) z8c) (params 0 vs) H)) := by rw [zhz, zbaj, y6, zhx]; rfl
def zbgk := rg z8f.eq_1 <| rg z8g.eq_1 <| @ex_of T _ _ z8h.eq_1
def zbgl := @vd T F.zlv z8j [0] zbak rfl rfl
theorem zbgm : z8j.res = [.tmp 2] ∧ z8j.rets = [[]] ∧ z8j.body = (.seq (.reg z8f) z8h) := ⟨rfl, rfl, rfl⟩
end Go.Dvm.C
