/- What each piece of the code comes to: part 1. -/
import Derived.Test.YtngajodhbioheaaQc0
set_option linter.all false
set_option maxRecDepth 100000
set_option maxHeartbeats 4000000
namespace Go.Dvm.C
open Go Go.Dvm
def ke := And.intro @Ow.enc.eq_1 <| And.intro @Sl.enc.eq_1 <| And.intro @I.zjl.enc.eq_1 <| And.intro @I.zjm.enc.eq_1 <| And.intro @I.zjn.enc.eq_1 <| And.intro @I.zjo.enc.eq_1 <| And.intro @I.zjq.enc.eq_1 <| And.intro @I.zjp.enc.eq_1 <| And.intro @arrEnc.eq_1 <| @I.zjr.enc.eq_1
def kf := And.intro @ke @kn
def tab : List (Nat × MFun) := [(11, zmx), (22, zmz), (23, zng), (25, zni), (28, znk), (31, zno), (37, zn4), (40, zoe), (42, zog), (50, zoi), (52, zo3), (53, zpd), (54, zpf), (55, zp7), (57, zql), (62, zqn), (63, zqp), (67, zq9), (68, zrb), (69, zrd), (70, zrn), (71, zrp), (72, zrq), (79, zr4), (80, zsg), (81, zsi), (82, zsk), (83, zsm), (84, zso), (91, ztf), (95, zth), (96, ztj), (97, ztl), (98, ztx), (99, ztz), (100, zt4), (101, zup), (102, zvn), (103, zwn), (104, zxi), (109, zxn), (116, zx0), (117, zx5), (134, zys), (135, zzb), (136, zzw), (142, z0a), (145, z0t), (146, z1a), (147, z1l), (148, z1y), (149, z2g), (150, z28), (166, z3h), (167, z4e), (169, z4f)]
abbrev T : Nat → Option MFun := look tab
theorem z4g : T F.zly = some zmx := rfl
theorem z4h : T F.zj2 = some zmz := rfl
theorem z4i : T F.zk1 = some zng := rfl
theorem z4j : T F.zki = some zni := rfl
theorem z4k : T F.zlw = some znk := rfl
theorem z4l : T F.zkc = some zno := rfl
theorem z4m : T F.zlv = some zn4 := rfl
theorem z4n : T F.zkk = some zoe := rfl
theorem z4o : T F.zkf = some zog := rfl
theorem z4p : T F.zj3 = some zoi := rfl
theorem z4q : T F.zjy = some zo3 := rfl
theorem z4r : T F.zj1 = some zpd := rfl
theorem z4s : T F.zkm = some zpf := rfl
theorem z4t : T F.zky = some zp7 := rfl
theorem z4u : T F.zkh = some zql := rfl
theorem z4v : T F.zlg = some zqn := rfl
theorem z4w : T F.zlm = some zqp := rfl
theorem z4x : T F.zlz = some zq9 := rfl
theorem z4y : T F.zj4 = some zrb := rfl
theorem z4z : T F.zl0 = some zrd := rfl
theorem z40 : T F.zl1 = some zrn := rfl
theorem z41 : T F.zl2 = some zrp := rfl
theorem z42 : T F.zj5 = some zrq := rfl
theorem z43 : T F.zke = some zr4 := rfl
theorem z44 : T F.zlr = some zsg := rfl
theorem z45 : T F.zle = some zsi := rfl
theorem z46 : T F.zls = some zsk := rfl
theorem z47 : T F.zla = some zsm := rfl
theorem z48 : T F.zk7 = some zso := rfl
theorem z49 : T F.zll = some ztf := rfl
theorem z5a : T F.zl3 = some zth := rfl
theorem z5b : T F.zjt = some ztj := rfl
theorem z5c : T F.zjs = some ztl := rfl
theorem z5d : T F.zjv = some ztx := rfl
theorem z5e : T F.zjz = some ztz := rfl
theorem z5f : T F.zkl = some zt4 := rfl
theorem z5g : T F.zkn = some zup := rfl
theorem z5h : T F.zkp = some zvn := rfl
theorem z5i : T F.zkv = some zwn := rfl
theorem z5j : T F.zkx = some zxi := rfl
theorem z5k : T F.zlb = some zxn := rfl
theorem z5l : T F.zld = some zx0 := rfl
theorem z5m : T F.zlf = some zx5 := rfl
theorem z5n : T F.zlp = some zys := rfl
theorem z5o : T F.zk9 = some zzb := rfl
theorem z5p : T F.zk6 = some zzw := rfl
theorem z5q : T F.zl4 = some z0a := rfl
theorem z5r : T F.zl5 = some z0t := rfl
theorem z5s : T F.zko = some z1a := rfl
theorem z5t : T F.zks = some z1l := rfl
theorem z5u : T F.zkr = some z1y := rfl
theorem z5v : T F.zku = some z2g := rfl
theorem z5w : T F.zkw = some z28 := rfl
theorem z5x : T F.zln = some z3h := rfl
theorem z5y : T F.zk4 = some z4e := rfl
theorem z5z : T F.zkt = some z4f := rfl
def rg {P : Prop} {c c' : List MO} (h : c = c') (p : P) := ra (T := T) h p
def xg {P : Prop} {c c' : MC} (h : c = c') (p : P) := xa (T := T) h p
def z50 := rg o_11_1.eq_1 <| rg o_11_2.eq_1 <| rg o_11_3.eq_1 <| rg o_11_4.eq_1 <| rg o_11_5.eq_1 <| xg c_11_6.eq_1 <| rg o_11_7.eq_1 <| And.intro (@df_of T _ _ [(3, 2)] o_11_7.eq_1) <| rg o_11_8.eq_1 <| And.intro (@df_of T _ _ [(3, 2)] o_11_8.eq_1) <| rg o_11_9.eq_1 <| rg zl6.eq_1 <| rg zl7.eq_1 <| rg zl8.eq_1 <| xg zl9.eq_1 <| rg zma.eq_1 <| rg zmb.eq_1 <| rg zmc.eq_1 <| xg zmd.eq_1 <| xg zme.eq_1 <| rg zmf.eq_1 <| xg zmg.eq_1 <| xg zmh.eq_1 <| xg zmi.eq_1 <| xg zmj.eq_1 <| rg zmk.eq_1 <| rg zml.eq_1 <| xg zmm.eq_1 <| xg zmn.eq_1 <| xg zmo.eq_1 <| xg zmp.eq_1 <| xg zmq.eq_1 <| xg zmr.eq_1 <| xg zms.eq_1 <| xg zmt.eq_1 <| xg zmu.eq_1 <| @ex_of T _ _ zmv.eq_1
def z51 := @vd T F.zly zmx [0, 0, 0] z4g rfl rfl
theorem z52 : zmx.res = [.tmp 6] ∧ zmx.rets = [[]] ∧ zmx.body = (.seq (.reg o_11_1) zmv) := ⟨rfl, rfl, rfl⟩
def z53 := rg o_22_1.eq_1 <| rg o_22_2.eq_1 <| @ex_of T _ _ c_22_3.eq_1
def z54 := @vd T F.zj2 zmz [0] z4h rfl rfl
theorem z55 : zmz.res = [.tmp 2] ∧ zmz.rets = [[]] ∧ zmz.body = (.seq (.reg o_22_1) c_22_3) := ⟨rfl, rfl, rfl⟩
def z56 := rg o_23_1.eq_1 <| rg o_23_2.eq_1 <| rg o_23_3.eq_1 <| rg o_23_4.eq_1 <| rg o_23_5.eq_1 <| rg o_23_6.eq_1 <| rg o_23_7.eq_1 <| rg o_23_8.eq_1 <| xg c_23_9.eq_1 <| xg zm0.eq_1 <| rg zm1.eq_1 <| rg zm2.eq_1 <| And.intro (@df_of T _ _ [(1, 6)] zm2.eq_1) <| xg zm3.eq_1 <| xg zm4.eq_1 <| xg zm5.eq_1 <| rg zm6.eq_1 <| xg zm7.eq_1 <| xg zm8.eq_1 <| xg zm9.eq_1 <| xg zna.eq_1 <| xg znb.eq_1 <| rg znc.eq_1 <| xg znd.eq_1 <| @ex_of T _ _ zne.eq_1
def z57 := @vd T F.zk1 zng [0, 0] z4i rfl rfl
theorem z58 : zng.res = [.cell 4 6 true, .tmp 5] ∧ zng.rets = [[], []] ∧ zng.body = (.seq (.reg o_23_1) zne) := ⟨rfl, rfl, rfl⟩
def z59 := rg o_25_1.eq_1 <| rg o_25_2.eq_1 <| @ex_of T _ _ c_25_3.eq_1
def z6a := @vd T F.zki zni [0, 0] z4j rfl rfl
theorem z6b : zni.res = [.tmp 4] ∧ zni.rets = [[]] ∧ zni.body = (.seq (.reg o_25_1) c_25_3) := ⟨rfl, rfl, rfl⟩
def z6c := rg o_28_1.eq_1 <| rg o_28_2.eq_1 <| rg o_28_3.eq_1 <| rg o_28_4.eq_1 <| xg c_28_5.eq_1 <| xg c_28_6.eq_1 <| @ex_of T _ _ c_28_7.eq_1
def z6d := @vd T F.zlw znk [] z4k rfl rfl
theorem z6e : znk.res = [.tmp 0] ∧ znk.rets = [[]] ∧ znk.body = (.seq (.reg o_28_1) c_28_7) := ⟨rfl, rfl, rfl⟩
def z6f := rg o_31_1.eq_1 <| rg o_31_2.eq_1 <| rg o_31_3.eq_1 <| rg o_31_4.eq_1 <| rg o_31_5.eq_1 <| xg c_31_6.eq_1 <| rg o_31_7.eq_1 <| xg c_31_8.eq_1 <| xg c_31_9.eq_1 <| xg znl.eq_1 <| @ex_of T _ _ znm.eq_1
def z6g := @vd T F.zkc zno [0, 0] z4l rfl rfl
theorem z6h : zno.res = [.tmp 4] ∧ zno.rets = [[4]] ∧ zno.body = (.seq (.reg o_31_1) znm) := ⟨rfl, rfl, rfl⟩
def z6i := rg o_37_1.eq_1 <| rg o_37_2.eq_1 <| rg o_37_3.eq_1 <| xg c_37_4.eq_1 <| rg o_37_5.eq_1 <| rg o_37_6.eq_1 <| And.intro (@df_of T _ _ [(3, 0), (3, 1), (6, 0), (6, 1), (6, 4)] o_37_6.eq_1) <| rg o_37_7.eq_1 <| rg o_37_8.eq_1 <| xg c_37_9.eq_1 <| rg znp.eq_1 <| rg znq.eq_1 <| rg znr.eq_1 <| xg zns.eq_1 <| xg znt.eq_1 <| xg znu.eq_1 <| xg znv.eq_1 <| rg znw.eq_1 <| xg znx.eq_1 <| xg zny.eq_1 <| xg znz.eq_1 <| xg zn0.eq_1 <| xg zn1.eq_1 <| @ex_of T _ _ zn2.eq_1
def z6j := @vd T F.zlv zn4 [0] z4m rfl rfl
theorem z6k : zn4.res = [.tmp 2, .tmp 3] ∧ zn4.rets = [[2], []] ∧ zn4.body = (.seq (.reg o_37_1) zn2) := ⟨rfl, rfl, rfl⟩
def z6l := rg o_40_1.eq_1 <| rg o_40_2.eq_1 <| rg o_40_3.eq_1 <| xg c_40_4.eq_1 <| rg o_40_5.eq_1 <| rg o_40_6.eq_1 <| rg o_40_7.eq_1 <| xg c_40_8.eq_1 <| xg c_40_9.eq_1 <| rg zn5.eq_1 <| xg zn6.eq_1 <| xg zn7.eq_1 <| xg zn8.eq_1 <| xg zn9.eq_1 <| rg zoa.eq_1 <| xg zob.eq_1 <| @ex_of T _ _ zoc.eq_1
def z6m := @vd T F.zkk zoe [0] z4n rfl rfl
theorem z6n : zoe.res = [.tmp 2] ∧ zoe.rets = [[]] ∧ zoe.body = (.seq (.reg o_40_1) zoc) := ⟨rfl, rfl, rfl⟩
def z6o := rg o_42_1.eq_1 <| rg o_42_2.eq_1 <| @ex_of T _ _ c_42_3.eq_1
def z6p := @vd T F.zkf zog [0, 0] z4o rfl rfl
theorem z6q : zog.res = [.tmp 4] ∧ zog.rets = [[]] ∧ zog.body = (.seq (.reg o_42_1) c_42_3) := ⟨rfl, rfl, rfl⟩
def z6r := rg o_50_1.eq_1 <| rg o_50_2.eq_1 <| rg o_50_3.eq_1 <| xg c_50_4.eq_1 <| rg o_50_5.eq_1 <| xg c_50_6.eq_1 <| @ex_of T _ _ c_50_7.eq_1
def z6s := @vd T F.zj3 zoi [0] z4p rfl rfl
theorem z6t : zoi.res = [.tmp 2] ∧ zoi.rets = [[2]] ∧ zoi.body = (.seq (.reg o_50_1) c_50_7) := ⟨rfl, rfl, rfl⟩
def z6u := rg o_52_1.eq_1 <| rg o_52_2.eq_1 <| rg o_52_3.eq_1 <| xg c_52_4.eq_1 <| rg o_52_5.eq_1 <| rg o_52_6.eq_1 <| rg o_52_7.eq_1 <| rg o_52_8.eq_1 <| xg c_52_9.eq_1 <| rg zoj.eq_1 <| rg zok.eq_1 <| rg zol.eq_1 <| xg zom.eq_1 <| rg zon.eq_1 <| rg zoo.eq_1 <| rg zop.eq_1 <| rg zoq.eq_1 <| rg zor.eq_1 <| xg zos.eq_1 <| xg zot.eq_1 <| xg zou.eq_1 <| xg zov.eq_1 <| xg zow.eq_1 <| rg zox.eq_1 <| xg zoy.eq_1 <| xg zoz.eq_1 <| xg zo0.eq_1 <| @ex_of T _ _ zo1.eq_1
def z6v := @vd T F.zjy zo3 [0] z4q rfl rfl
theorem z6w : zo3.res = [.tmp 2] ∧ zo3.rets = [[]] ∧ zo3.body = (.seq (.reg o_52_1) zo1) := ⟨rfl, rfl, rfl⟩
def z6x := rg o_53_1.eq_1 <| rg o_53_2.eq_1 <| rg o_53_3.eq_1 <| rg o_53_4.eq_1 <| rg o_53_5.eq_1 <| rg o_53_6.eq_1 <| xg c_53_7.eq_1 <| xg c_53_8.eq_1 <| rg o_53_9.eq_1 <| xg zo4.eq_1 <| xg zo5.eq_1 <| xg zo6.eq_1 <| xg zo7.eq_1 <| xg zo8.eq_1 <| rg zo9.eq_1 <| xg zpa.eq_1 <| @ex_of T _ _ zpb.eq_1
def z6y := @vd T F.zj1 zpd [0] z4r rfl rfl
theorem z6z : zpd.res = [.tmp 2] ∧ zpd.rets = [[]] ∧ zpd.body = (.seq (.reg o_53_1) zpb) := ⟨rfl, rfl, rfl⟩
def z60 := rg o_54_1.eq_1 <| rg o_54_2.eq_1 <| @ex_of T _ _ c_54_3.eq_1
def z61 := @vd T F.zkm zpf [0] z4s rfl rfl
theorem z62 : zpf.res = [.tmp 2] ∧ zpf.rets = [[]] ∧ zpf.body = (.seq (.reg o_54_1) c_54_3) := ⟨rfl, rfl, rfl⟩
def z63 := rg o_55_1.eq_1 <| rg o_55_2.eq_1 <| rg o_55_3.eq_1 <| rg o_55_4.eq_1 <| rg o_55_5.eq_1 <| rg o_55_6.eq_1 <| rg o_55_7.eq_1 <| rg o_55_8.eq_1 <| rg o_55_9.eq_1 <| xg zpg.eq_1 <| rg zph.eq_1 <| xg zpi.eq_1 <| xg zpj.eq_1 <| xg zpk.eq_1 <| xg zpl.eq_1 <| xg zpm.eq_1 <| rg zpn.eq_1 <| rg zpo.eq_1 <| rg zpp.eq_1 <| xg zpq.eq_1 <| rg zpr.eq_1 <| rg zps.eq_1 <| rg zpt.eq_1 <| xg zpu.eq_1 <| rg zpv.eq_1 <| rg zpw.eq_1 <| rg zpx.eq_1 <| xg zpy.eq_1 <| xg zpz.eq_1 <| xg zp0.eq_1 <| xg zp1.eq_1 <| rg zp2.eq_1 <| xg zp3.eq_1 <| xg zp4.eq_1 <| @ex_of T _ _ zp5.eq_1
def z64 := @vd T F.zky zp7 [0, 0] z4t rfl rfl
theorem z65 : zp7.res = [.cell 4 4 true, .tmp 5] ∧ zp7.rets = [[], []] ∧ zp7.body = (.seq (.reg o_55_1) zp5) := ⟨rfl, rfl, rfl⟩
def z66 := rg o_57_1.eq_1 <| rg o_57_2.eq_1 <| rg o_57_3.eq_1 <| xg c_57_4.eq_1 <| rg o_57_5.eq_1 <| rg o_57_6.eq_1 <| rg o_57_7.eq_1 <| rg o_57_8.eq_1 <| rg o_57_9.eq_1 <| xg zp8.eq_1 <| xg zp9.eq_1 <| rg zqa.eq_1 <| xg zqb.eq_1 <| xg zqc.eq_1 <| xg zqd.eq_1 <| xg zqe.eq_1 <| xg zqf.eq_1 <| rg zqg.eq_1 <| xg zqh.eq_1 <| xg zqi.eq_1 <| @ex_of T _ _ zqj.eq_1
def z67 := @vd T F.zkh zql [0, 0] z4u rfl rfl
theorem z68 : zql.res = [.tmp 4] ∧ zql.rets = [[]] ∧ zql.body = (.seq (.reg o_57_1) zqj) := ⟨rfl, rfl, rfl⟩
def z69 := rg o_62_1.eq_1 <| rg o_62_2.eq_1 <| @ex_of T _ _ c_62_3.eq_1
def z7a := @vd T F.zlg zqn [2, 0] z4v rfl rfl
theorem z7b : zqn.res = [.tmp 4] ∧ zqn.rets = [[2]] ∧ zqn.body = (.seq (.reg o_62_1) c_62_3) := ⟨rfl, rfl, rfl⟩
def z7c := rg o_63_1.eq_1 <| rg o_63_2.eq_1 <| rg o_63_3.eq_1 <| xg c_63_4.eq_1 <| rg o_63_5.eq_1 <| rg o_63_6.eq_1 <| xg c_63_7.eq_1 <| xg c_63_8.eq_1 <| @ex_of T _ _ c_63_9.eq_1
def z7d := @vd T F.zlm zqp [0] z4w rfl rfl
theorem z7e : zqp.res = [.tmp 2, .tmp 3] ∧ zqp.rets = [[2], []] ∧ zqp.body = (.seq (.reg o_63_1) c_63_9) := ⟨rfl, rfl, rfl⟩
def z7f := rg o_67_1.eq_1 <| rg o_67_2.eq_1 <| rg o_67_3.eq_1 <| rg o_67_4.eq_1 <| xg c_67_5.eq_1 <| rg o_67_6.eq_1 <| rg o_67_7.eq_1 <| xg c_67_8.eq_1 <| rg o_67_9.eq_1 <| rg zqq.eq_1 <| rg zqr.eq_1 <| rg zqs.eq_1 <| xg zqt.eq_1 <| xg zqu.eq_1 <| xg zqv.eq_1 <| rg zqw.eq_1 <| xg zqx.eq_1 <| xg zqy.eq_1 <| xg zqz.eq_1 <| xg zq0.eq_1 <| rg zq1.eq_1 <| rg zq2.eq_1 <| xg zq3.eq_1 <| xg zq4.eq_1 <| xg zq5.eq_1 <| xg zq6.eq_1 <| @ex_of T _ _ zq7.eq_1
def z7g := @vi T F.zlz zq9 z4x rfl
theorem z7h {n : Nat} {H : Hp} {vs : List V} : (orc T (n + 1)).inl F.zlz vs H = finI H.length true [.tmp 4] (unw T (orc T n) n H.length [] (exec T (orc T n) n H.length (.seq (.reg o_67_1) zq7) (params 0 vs) H)) := by rw [zhv, z4x, y4, zht]; rfl
def z7i := rg o_68_1.eq_1 <| rg o_68_2.eq_1 <| rg o_68_3.eq_1 <| xg c_68_4.eq_1 <| rg o_68_5.eq_1 <| xg c_68_6.eq_1 <| @ex_of T _ _ c_68_7.eq_1
def z7j := @vd T F.zj4 zrb [0] z4y rfl rfl
theorem z7k : zrb.res = [.tmp 2] ∧ zrb.rets = [[4]] ∧ zrb.body = (.seq (.reg o_68_1) c_68_7) := ⟨rfl, rfl, rfl⟩
def z7l := rg o_69_1.eq_1 <| rg o_69_2.eq_1 <| @ex_of T _ _ c_69_3.eq_1
def z7m := @vi T F.zl0 zrd z4z rfl
theorem z7n {n : Nat} {H : Hp} {vs : List V} : (orc T (n + 1)).inl F.zl0 vs H = finI H.length false [.tmp 3] (unw T (orc T n) n H.length [] (exec T (orc T n) n H.length (.seq (.reg o_69_1) c_69_3) (params 0 vs) H)) := by rw [zhv, z4z, y4, zht]; rfl
def z7o := rg o_70_1.eq_1 <| rg o_70_2.eq_1 <| rg o_70_3.eq_1 <| rg o_70_4.eq_1 <| rg o_70_5.eq_1 <| rg o_70_6.eq_1 <| xg c_70_7.eq_1 <| xg c_70_8.eq_1 <| rg o_70_9.eq_1 <| xg zre.eq_1 <| xg zrf.eq_1 <| xg zrg.eq_1 <| xg zrh.eq_1 <| xg zri.eq_1 <| rg zrj.eq_1 <| xg zrk.eq_1 <| @ex_of T _ _ zrl.eq_1
def z7p := @vi T F.zl1 zrn z40 rfl
theorem z7q {n : Nat} {H : Hp} {vs : List V} : (orc T (n + 1)).inl F.zl1 vs H = finI H.length false [.tmp 4] (unw T (orc T n) n H.length [] (exec T (orc T n) n H.length (.seq (.reg o_70_1) zrl) (params 0 vs) H)) := by rw [zhv, z40, y4, zht]; rfl
def z7r := rg o_71_1.eq_1 <| rg o_71_2.eq_1 <| @ex_of T _ _ c_71_3.eq_1
def z7s := @vi T F.zl2 zrp z41 rfl
theorem z7t {n : Nat} {H : Hp} {vs : List V} : (orc T (n + 1)).inl F.zl2 vs H = finI H.length false [.tmp 3] (unw T (orc T n) n H.length [] (exec T (orc T n) n H.length (.seq (.reg o_71_1) c_71_3) (params 0 vs) H)) := by rw [zhv, z41, y4, zht]; rfl
def z7u := @vd T F.zj5 zrq [4, 0, 4] z42 rfl rfl
theorem z7v : zrq.res = [.tmp 6] ∧ zrq.rets = [[4]] ∧ zrq.body = .fail := ⟨rfl, rfl, rfl⟩
def z7w := rg o_79_1.eq_1 <| rg o_79_2.eq_1 <| rg o_79_3.eq_1 <| xg c_79_4.eq_1 <| rg o_79_5.eq_1 <| rg o_79_6.eq_1 <| rg o_79_7.eq_1 <| rg o_79_8.eq_1 <| rg o_79_9.eq_1 <| xg zrr.eq_1 <| xg zrs.eq_1 <| rg zrt.eq_1 <| xg zru.eq_1 <| xg zrv.eq_1 <| xg zrw.eq_1 <| xg zrx.eq_1 <| xg zry.eq_1 <| rg zrz.eq_1 <| xg zr0.eq_1 <| xg zr1.eq_1 <| @ex_of T _ _ zr2.eq_1
def z7x := @vd T F.zke zr4 [0, 0] z43 rfl rfl
theorem z7y : zr4.res = [.tmp 4] ∧ zr4.rets = [[]] ∧ zr4.body = (.seq (.reg o_79_1) zr2) := ⟨rfl, rfl, rfl⟩
def z7z := rg o_80_1.eq_1 <| rg o_80_2.eq_1 <| rg o_80_3.eq_1 <| And.intro (@df_of T _ _ [(6, 2), (6, 4), (7, 2), (7, 4)] o_80_3.eq_1) <| rg o_80_4.eq_1 <| rg o_80_5.eq_1 <| rg o_80_6.eq_1 <| rg o_80_7.eq_1 <| And.intro (@df_of T _ _ [(5, 3), (8, 3), (8, 6)] o_80_7.eq_1) <| xg c_80_8.eq_1 <| rg o_80_9.eq_1 <| xg zr5.eq_1 <| xg zr6.eq_1 <| xg zr7.eq_1 <| xg zr8.eq_1 <| xg zr9.eq_1 <| rg zsa.eq_1 <| xg zsb.eq_1 <| xg zsc.eq_1 <| xg zsd.eq_1 <| @ex_of T _ _ zse.eq_1
def z70 := @vd T F.zlr zsg [0] z44 rfl rfl
theorem z71 : zsg.res = [.tmp 2] ∧ zsg.rets = [[2]] ∧ zsg.body = (.seq (.reg o_80_1) zse) := ⟨rfl, rfl, rfl⟩
def z72 := rg o_81_1.eq_1 <| rg o_81_2.eq_1 <| rg o_81_3.eq_1 <| xg c_81_4.eq_1 <| rg o_81_5.eq_1 <| xg c_81_6.eq_1 <| @ex_of T _ _ c_81_7.eq_1
def z73 := @vd T F.zle zsi [2, 0] z45 rfl rfl
theorem z74 : zsi.res = [.tmp 4] ∧ zsi.rets = [[2]] ∧ zsi.body = (.seq (.reg o_81_1) c_81_7) := ⟨rfl, rfl, rfl⟩
def z75 := rg o_82_1.eq_1 <| rg o_82_2.eq_1 <| rg o_82_3.eq_1 <| xg c_82_4.eq_1 <| @ex_of T _ _ c_82_5.eq_1
def z76 := @vd T F.zls zsk [0] z46 rfl rfl
theorem z77 : zsk.res = [.tmp 2] ∧ zsk.rets = [[2]] ∧ zsk.body = (.seq (.reg o_82_1) c_82_5) := ⟨rfl, rfl, rfl⟩
def z78 := rg o_83_1.eq_1 <| rg o_83_2.eq_1 <| @ex_of T _ _ c_83_3.eq_1
def z79 := @vd T F.zla zsm [0] z47 rfl rfl
theorem z8a : zsm.res = [.tmp 2] ∧ zsm.rets = [[2]] ∧ zsm.body = (.seq (.reg o_83_1) c_83_3) := ⟨rfl, rfl, rfl⟩
def z8b := rg o_84_1.eq_1 <| rg o_84_2.eq_1 <| @ex_of T _ _ c_84_3.eq_1
def z8c := @vd T F.zk7 zso [0] z48 rfl rfl
theorem z8d : zso.res = [.tmp 2] ∧ zso.rets = [[]] ∧ zso.body = (.seq (.reg o_84_1) c_84_3) := ⟨rfl, rfl, rfl⟩
def z8e := rg o_91_1.eq_1 <| rg o_91_2.eq_1 <| rg o_91_3.eq_1 <| rg o_91_4.eq_1 <| rg o_91_5.eq_1 <| rg o_91_6.eq_1 <| rg o_91_7.eq_1 <| xg c_91_8.eq_1 <| xg c_91_9.eq_1 <| xg zsp.eq_1 <| rg zsq.eq_1 <| xg zsr.eq_1 <| xg zss.eq_1 <| xg zst.eq_1 <| xg zsu.eq_1 <| xg zsv.eq_1 <| rg zsw.eq_1 <| rg zsx.eq_1 <| rg zsy.eq_1 <| rg zsz.eq_1 <| rg zs0.eq_1 <| xg zs1.eq_1 <| rg zs2.eq_1 <| xg zs3.eq_1 <| xg zs4.eq_1 <| xg zs5.eq_1 <| xg zs6.eq_1 <| xg zs7.eq_1 <| rg zs8.eq_1 <| xg zs9.eq_1 <| xg zta.eq_1 <| xg ztb.eq_1 <| xg ztc.eq_1 <| @ex_of T _ _ ztd.eq_1
def z8f := @vd T F.zll ztf [0] z49 rfl rfl
theorem z8g : ztf.res = [.tmp 2] ∧ ztf.rets = [[2]] ∧ ztf.body = (.seq (.reg o_91_1) ztd) := ⟨rfl, rfl, rfl⟩
def z8h := rg o_95_1.eq_1 <| rg o_95_2.eq_1 <| @ex_of T _ _ c_95_3.eq_1
def z8i := @vi T F.zl3 zth z5a rfl
theorem z8j {n : Nat} {H : Hp} {vs : List V} : (orc T (n + 1)).inl F.zl3 vs H = finI H.length false [.tmp 4] (unw T (orc T n) n H.length [] (exec T (orc T n) n H.length (.seq (.reg o_95_1) c_95_3) (params 0 vs) H)) := by rw [zhv, z5a, y4, zht]; rfl
def z8k := rg o_96_1.eq_1 <| rg o_96_2.eq_1 <| @ex_of T _ _ c_96_3.eq_1
def z8l := @vd T F.zjt ztj [0] z5b rfl rfl
theorem z8m : ztj.res = [.tmp 2] ∧ ztj.rets = [[]] ∧ ztj.body = (.seq (.reg o_96_1) c_96_3) := ⟨rfl, rfl, rfl⟩
def z8n := rg o_97_1.eq_1 <| rg o_97_2.eq_1 <| @ex_of T _ _ c_97_3.eq_1
def z8o := @vd T F.zjs ztl [0] z5c rfl rfl
theorem z8p : ztl.res = [.tmp 2] ∧ ztl.rets = [[]] ∧ ztl.body = (.seq (.reg o_97_1) c_97_3) := ⟨rfl, rfl, rfl⟩
def z8q := rg o_98_1.eq_1 <| rg o_98_2.eq_1 <| rg o_98_3.eq_1 <| rg o_98_4.eq_1 <| xg c_98_5.eq_1 <| rg o_98_6.eq_1 <| rg o_98_7.eq_1 <| xg c_98_8.eq_1 <| rg o_98_9.eq_1 <| xg ztm.eq_1 <| rg ztn.eq_1 <| xg zto.eq_1 <| xg ztp.eq_1 <| xg ztq.eq_1 <| xg ztr.eq_1 <| rg zts.eq_1 <| xg ztt.eq_1 <| xg ztu.eq_1 <| @ex_of T _ _ ztv.eq_1
def z8r := @vd T F.zjv ztx [0, 0] z5d rfl rfl
theorem z8s : ztx.res = [.tmp 4] ∧ ztx.rets = [[]] ∧ ztx.body = (.seq (.reg o_98_1) ztv) := ⟨rfl, rfl, rfl⟩
def z8t := rg o_99_1.eq_1 <| rg o_99_2.eq_1 <| @ex_of T _ _ c_99_3.eq_1
def z8u := @vd T F.zjz ztz [0] z5e rfl rfl
theorem z8v : ztz.res = [.tmp 2] ∧ ztz.rets = [[]] ∧ ztz.body = (.seq (.reg o_99_1) c_99_3) := ⟨rfl, rfl, rfl⟩
def z8w := rg zt0.eq_1 <| rg zt1.eq_1 <| And.intro (@dr_of T _ _ [(10, 13), (18, 21)] zt1.eq_1 (by decide)) <| @ex_of T _ _ zt2.eq_1
def z8x := @vd T F.zkl zt4 [0] z5f rfl rfl
theorem z8y : zt4.res = [.tmp 2] ∧ zt4.rets = [[]] ∧ zt4.body = (.seq (.reg zt0) zt2) := ⟨rfl, rfl, rfl⟩
def z8z := rg zt5.eq_1 <| rg zt6.eq_1 <| rg zt7.eq_1 <| rg zt8.eq_1 <| rg zt9.eq_1 <| rg zua.eq_1 <| rg zub.eq_1 <| xg zuc.eq_1 <| rg zud.eq_1 <| rg zue.eq_1 <| rg zuf.eq_1 <| xg zug.eq_1 <| xg zuh.eq_1 <| xg zui.eq_1 <| xg zuj.eq_1 <| rg zuk.eq_1 <| xg zul.eq_1 <| xg zum.eq_1 <| @ex_of T _ _ zun.eq_1
def z80 := @vd T F.zkn zup [0, 0] z5g rfl rfl
theorem z81 : zup.res = [.cell 4 4 true, .tmp 5] ∧ zup.rets = [[], []] ∧ zup.body = (.seq (.reg zt5) zun) := ⟨rfl, rfl, rfl⟩
def z82 := rg zuq.eq_1 <| rg zur.eq_1 <| rg zus.eq_1 <| rg zut.eq_1 <| rg zuu.eq_1 <| rg zuv.eq_1 <| And.intro (@df_of T _ _ [(4, 2)] zuv.eq_1) <| rg zuw.eq_1 <| xg zux.eq_1 <| rg zuy.eq_1 <| rg zuz.eq_1 <| xg zu0.eq_1 <| rg zu1.eq_1 <| rg zu2.eq_1 <| rg zu3.eq_1 <| xg zu4.eq_1 <| xg zu5.eq_1 <| xg zu6.eq_1 <| xg zu7.eq_1 <| rg zu8.eq_1 <| rg zu9.eq_1 <| rg zva.eq_1 <| xg zvb.eq_1 <| rg zvc.eq_1 <| rg zvd.eq_1 <| rg zve.eq_1 <| xg zvf.eq_1 <| xg zvg.eq_1 <| xg zvh.eq_1 <| xg zvi.eq_1 <| xg zvj.eq_1 <| xg zvk.eq_1 <| @ex_of T _ _ zvl.eq_1
def z83 := @vd T F.zkp zvn [0, 0] z5h rfl rfl
theorem z84 : zvn.res = [.cell 4 4 true, .tmp 5] ∧ zvn.rets = [[], []] ∧ zvn.body = (.seq (.reg zuq) zvl) := ⟨rfl, rfl, rfl⟩
def z85 := rg zvo.eq_1 <| rg zvp.eq_1 <| rg zvq.eq_1 <| rg zvr.eq_1 <| rg zvs.eq_1 <| xg zvt.eq_1 <| xg zvu.eq_1 <| rg zvv.eq_1 <| xg zvw.eq_1 <| xg zvx.eq_1 <| rg zvy.eq_1 <| rg zvz.eq_1 <| xg zv0.eq_1 <| rg zv1.eq_1 <| rg zv2.eq_1 <| rg zv3.eq_1 <| rg zv4.eq_1 <| rg zv5.eq_1 <| rg zv6.eq_1 <| And.intro (@dr_of T _ _ [(1, 6), (3, 6)] zv6.eq_1 (by decide)) <| rg zv7.eq_1 <| rg zv8.eq_1 <| xg zv9.eq_1 <| rg zwa.eq_1 <| xg zwb.eq_1 <| xg zwc.eq_1 <| xg zwd.eq_1 <| xg zwe.eq_1 <| xg zwf.eq_1 <| rg zwg.eq_1 <| xg zwh.eq_1 <| xg zwi.eq_1 <| xg zwj.eq_1 <| xg zwk.eq_1 <| @ex_of T _ _ zwl.eq_1
def z86 := @vd T F.zkv zwn [0, 0] z5i rfl rfl
theorem z87 : zwn.res = [.cell 4 4 true, .tmp 5] ∧ zwn.rets = [[], []] ∧ zwn.body = (.seq (.reg zvo) zwl) := ⟨rfl, rfl, rfl⟩
def z88 := rg zwo.eq_1 <| rg zwp.eq_1 <| rg zwq.eq_1 <| rg zwr.eq_1 <| rg zws.eq_1 <| rg zwt.eq_1 <| rg zwu.eq_1 <| rg zwv.eq_1 <| rg zww.eq_1 <| And.intro (@df_of T _ _ [(0, 5)] zww.eq_1) <| rg zwx.eq_1 <| rg zwy.eq_1 <| xg zwz.eq_1 <| xg zw0.eq_1 <| xg zw1.eq_1 <| xg zw2.eq_1 <| xg zw3.eq_1 <| rg zw4.eq_1 <| And.intro (@dr_of T _ _ [(7, 4)] zw4.eq_1 (by decide)) <| rg zw5.eq_1 <| rg zw6.eq_1 <| rg zw7.eq_1 <| xg zw8.eq_1 <| rg zw9.eq_1 <| rg zxa.eq_1 <| xg zxb.eq_1 <| xg zxc.eq_1 <| xg zxd.eq_1 <| xg zxe.eq_1 <| xg zxf.eq_1 <| @ex_of T _ _ zxg.eq_1
def z89 := @vd T F.zkx zxi [0, 0] z5j rfl rfl
theorem z9a : zxi.res = [.cell 4 4 true, .tmp 5] ∧ zxi.rets = [[], []] ∧ zxi.body = (.seq (.reg zwo) zxg) := ⟨rfl, rfl, rfl⟩
def z9b := rg zxj.eq_1 <| rg zxk.eq_1 <| @ex_of T _ _ zxl.eq_1
def z9c := @vd T F.zlb zxn [0, 0] z5k rfl rfl
theorem z9d : zxn.res = [.tmp 4] ∧ zxn.rets = [[2]] ∧ zxn.body = (.seq (.reg zxj) zxl) := ⟨rfl, rfl, rfl⟩
def z9e := rg zxo.eq_1 <| rg zxp.eq_1 <| xg zxq.eq_1 <| rg zxr.eq_1 <| rg zxs.eq_1 <| xg zxt.eq_1 <| xg zxu.eq_1 <| xg zxv.eq_1 <| rg zxw.eq_1 <| xg zxx.eq_1 <| @ex_of T _ _ zxy.eq_1
def z9f := @vd T F.zld zx0 [2, 0] z5l rfl rfl
theorem z9g : zx0.res = [.tmp 4] ∧ zx0.rets = [[2]] ∧ zx0.body = (.seq (.reg zxo) zxy) := ⟨rfl, rfl, rfl⟩
def z9h := rg zx1.eq_1 <| rg zx2.eq_1 <| @ex_of T _ _ zx3.eq_1
def z9i := @vd T F.zlf zx5 [0] z5m rfl rfl
theorem z9j : zx5.res = [.tmp 2] ∧ zx5.rets = [[]] ∧ zx5.body = (.seq (.reg zx1) zx3) := ⟨rfl, rfl, rfl⟩
def z9k := rg zx6.eq_1 <| rg zx7.eq_1 <| rg zx8.eq_1 <| xg zx9.eq_1 <| rg zya.eq_1 <| And.intro (@df_of T _ _ [(3, 2), (7, 2), (7, 4), (7, 5), (8, 2), (8, 4), (8, 5)] zya.eq_1) <| rg zyb.eq_1 <| rg zyc.eq_1 <| rg zyd.eq_1 <| rg zye.eq_1 <| xg zyf.eq_1 <| rg zyg.eq_1 <| xg zyh.eq_1 <| xg zyi.eq_1 <| xg zyj.eq_1 <| xg zyk.eq_1 <| xg zyl.eq_1 <| rg zym.eq_1 <| xg zyn.eq_1 <| xg zyo.eq_1 <| xg zyp.eq_1 <| @ex_of T _ _ zyq.eq_1
def z9l := @vd T F.zlp zys [0] z5n rfl rfl
theorem z9m : zys.res = [.tmp 2, .tmp 3] ∧ zys.rets = [[2], []] ∧ zys.body = (.seq (.reg zx6) zyq) := ⟨rfl, rfl, rfl⟩
def z9n := rg zyt.eq_1 <| rg zyu.eq_1 <| rg zyv.eq_1 <| rg zyw.eq_1 <| rg zyx.eq_1 <| rg zyy.eq_1 <| xg zyz.eq_1 <| rg zy0.eq_1 <| xg zy1.eq_1 <| xg zy2.eq_1 <| xg zy3.eq_1 <| xg zy4.eq_1 <| xg zy5.eq_1 <| rg zy6.eq_1 <| xg zy7.eq_1 <| xg zy8.eq_1 <| @ex_of T _ _ zy9.eq_1
def z9o := @vd T F.zk9 zzb [0, 0] z5o rfl rfl
theorem z9p : zzb.res = [.tmp 4] ∧ zzb.rets = [[2]] ∧ zzb.body = (.seq (.reg zyt) zy9) := ⟨rfl, rfl, rfl⟩
def z9q := rg zzc.eq_1 <| rg zzd.eq_1 <| rg zze.eq_1 <| rg zzf.eq_1 <| rg zzg.eq_1 <| rg zzh.eq_1 <| rg zzi.eq_1 <| xg zzj.eq_1 <| rg zzk.eq_1 <| xg zzl.eq_1 <| xg zzm.eq_1 <| xg zzn.eq_1 <| xg zzo.eq_1 <| xg zzp.eq_1 <| rg zzq.eq_1 <| xg zzr.eq_1 <| xg zzs.eq_1 <| xg zzt.eq_1 <| @ex_of T _ _ zzu.eq_1
def z9r := @vd T F.zk6 zzw [0, 0] z5p rfl rfl
theorem z9s : zzw.res = [.tmp 4] ∧ zzw.rets = [[]] ∧ zzw.body = (.seq (.reg zzc) zzu) := ⟨rfl, rfl, rfl⟩
def z9t := rg zzx.eq_1 <| rg zzy.eq_1 <| xg zzz.eq_1 <| rg zz0.eq_1 <| rg zz1.eq_1 <| rg zz2.eq_1 <| xg zz3.eq_1 <| xg zz4.eq_1 <| rg zz5.eq_1 <| xg zz6.eq_1 <| xg zz7.eq_1 <| @ex_of T _ _ zz8.eq_1
def z9u := @vi T F.zl4 z0a z5q rfl
theorem z9v {n : Nat} {H : Hp} {vs : List V} : (orc T (n + 1)).inl F.zl4 vs H = finI H.length false [.tmp 4] (unw T (orc T n) n H.length [] (exec T (orc T n) n H.length (.seq (.reg zzx) zz8) (params 0 vs) H)) := by rw [zhv, z5q, y4, zht]; rfl
def z9w := rg z0b.eq_1 <| rg z0c.eq_1 <| rg z0d.eq_1 <| rg z0e.eq_1 <| rg z0f.eq_1 <| rg z0g.eq_1 <| xg z0h.eq_1 <| xg z0i.eq_1 <| rg z0j.eq_1 <| xg z0k.eq_1 <| xg z0l.eq_1 <| xg z0m.eq_1 <| xg z0n.eq_1 <| xg z0o.eq_1 <| rg z0p.eq_1 <| xg z0q.eq_1 <| @ex_of T _ _ z0r.eq_1
def z9x := @vi T F.zl5 z0t z5r rfl
theorem z9y {n : Nat} {H : Hp} {vs : List V} : (orc T (n + 1)).inl F.zl5 vs H = finI H.length false [.tmp 4] (unw T (orc T n) n H.length [] (exec T (orc T n) n H.length (.seq (.reg z0b) z0r) (params 0 vs) H)) := by rw [zhv, z5r, y4, zht]; rfl
def z9z := rg z0u.eq_1 <| rg z0v.eq_1 <| rg z0w.eq_1 <| rg z0x.eq_1 <| xg z0y.eq_1 <| rg z0z.eq_1 <| rg z00.eq_1 <| rg z01.eq_1 <| rg z02.eq_1 <| xg z03.eq_1 <| xg z04.eq_1 <| xg z05.eq_1 <| xg z06.eq_1 <| xg z07.eq_1 <| @ex_of T _ _ z08.eq_1
def z90 := @vd T F.zko z1a [2, 0, 0] z5s rfl rfl
theorem z91 : z1a.res = [.tmp 6] ∧ z1a.rets = [[2]] ∧ z1a.body = (.seq (.reg z0u) z08) := ⟨rfl, rfl, rfl⟩
def z92 := rg z1b.eq_1 <| rg z1c.eq_1 <| rg z1d.eq_1 <| rg z1e.eq_1 <| xg z1f.eq_1 <| xg z1g.eq_1 <| rg z1h.eq_1 <| xg z1i.eq_1 <| @ex_of T _ _ z1j.eq_1
def z93 := @vd T F.zks z1l [0, 0] z5t rfl rfl
theorem z94 : z1l.res = [.tmp 4] ∧ z1l.rets = [[]] ∧ z1l.body = (.seq (.reg z1b) z1j) := ⟨rfl, rfl, rfl⟩
def z95 := rg z1m.eq_1 <| rg z1n.eq_1 <| rg z1o.eq_1 <| xg z1p.eq_1 <| rg z1q.eq_1 <| xg z1r.eq_1 <| xg z1s.eq_1 <| rg z1t.eq_1 <| xg z1u.eq_1 <| xg z1v.eq_1 <| @ex_of T _ _ z1w.eq_1
def z96 := @vd T F.zkr z1y [0, 0] z5u rfl rfl
theorem z97 : z1y.res = [.tmp 4, .tmp 5] ∧ z1y.rets = [[], []] ∧ z1y.body = (.seq (.reg z1m) z1w) := ⟨rfl, rfl, rfl⟩
def z98 := rg z1z.eq_1 <| rg z10.eq_1 <| rg z11.eq_1 <| rg z12.eq_1 <| rg z13.eq_1 <| rg z14.eq_1 <| xg z15.eq_1 <| xg z16.eq_1 <| rg z17.eq_1 <| rg z18.eq_1 <| xg z19.eq_1 <| xg z2a.eq_1 <| rg z2b.eq_1 <| xg z2c.eq_1 <| xg z2d.eq_1 <| @ex_of T _ _ z2e.eq_1
def z99 := @vd T F.zku z2g [0, 0, 0] z5v rfl rfl
theorem zbaa : z2g.res = [.tmp 6, .tmp 7] ∧ z2g.rets = [[], []] ∧ z2g.body = (.seq (.reg z1z) z2e) := ⟨rfl, rfl, rfl⟩
def zbab := rg z2h.eq_1 <| rg z2i.eq_1 <| rg z2j.eq_1 <| xg z2k.eq_1 <| rg z2l.eq_1 <| rg z2m.eq_1 <| And.intro (@dr_of T _ _ [(5, 3)] z2m.eq_1 (by decide)) <| rg z2n.eq_1 <| rg z2o.eq_1 <| rg z2p.eq_1 <| rg z2q.eq_1 <| xg z2r.eq_1 <| xg z2s.eq_1 <| rg z2t.eq_1 <| rg z2u.eq_1 <| rg z2v.eq_1 <| xg z2w.eq_1 <| rg z2x.eq_1 <| rg z2y.eq_1 <| xg z2z.eq_1 <| xg z20.eq_1 <| xg z21.eq_1 <| xg z22.eq_1 <| xg z23.eq_1 <| xg z24.eq_1 <| xg z25.eq_1 <| @ex_of T _ _ z26.eq_1
def zbac := @vd T F.zkw z28 [0, 0] z5w rfl rfl
theorem zbad : z28.res = [.cell 4 4 true, .tmp 5] ∧ z28.rets = [[], []] ∧ z28.body = (.seq (.reg z2h) z26) := ⟨rfl, rfl, rfl⟩
def zbae := rg z29.eq_1 <| rg z3a.eq_1 <| rg z3b.eq_1 <| xg z3c.eq_1 <| rg z3d.eq_1 <| xg z3e.eq_1 <| @ex_of T _ _ z3f.eq_1
def zbaf := @vd T F.zln z3h [0] z5x rfl rfl
theorem zbag : z3h.res = [.tmp 2] ∧ z3h.rets = [[]] ∧ z3h.body = (.seq (.reg z29) z3f) := ⟨rfl, rfl, rfl⟩
def zbah := rg z3i.eq_1 <| rg z3j.eq_1 <| rg z3k.eq_1 <| rg z3l.eq_1 <| rg z3m.eq_1 <| rg z3n.eq_1 <| rg z3o.eq_1 <| rg z3p.eq_1 <| rg z3q.eq_1 <| rg z3r.eq_1 <| xg z3s.eq_1 <| rg z3t.eq_1 <| xg z3u.eq_1 <| xg z3v.eq_1 <| xg z3w.eq_1 <| xg z3x.eq_1 <| xg z3y.eq_1 <| rg z3z.eq_1 <| xg z30.eq_1 <| xg z31.eq_1 <| xg z32.eq_1 <| rg z33.eq_1 <| xg z34.eq_1 <| xg z35.eq_1 <| xg z36.eq_1 <| xg z37.eq_1 <| xg z38.eq_1 <| rg z39.eq_1 <| xg z4a.eq_1 <| xg z4b.eq_1 <| @ex_of T _ _ z4c.eq_1
def zbai := @vd T F.zk4 z4e [] z5y rfl rfl
theorem zbaj : z4e.res = [.cell 0 256 true] ∧ z4e.rets = [[]] ∧ z4e.body = (.seq (.reg z3i) z4c) := ⟨rfl, rfl, rfl⟩
def zbak := @vd T F.zkt z4f [2, 0, 2] z5z rfl rfl
theorem zbal : z4f.res = [.tmp 6] ∧ z4f.rets = [[2]] ∧ z4f.body = .fail := ⟨rfl, rfl, rfl⟩
end Go.Dvm.C
