/- What each piece of the code comes to: part 1. -/
import Derived.Test.YtngajodhbioheaaQc0
set_option linter.all false
set_option maxRecDepth 100000
set_option maxHeartbeats 4000000
namespace Go.Dvm.C
open Go Go.Dvm
def ke := And.intro @Ow.enc.eq_1 <| And.intro @Sl.enc.eq_1 <| And.intro @I.zjq.enc.eq_1 <| And.intro @I.zjr.enc.eq_1 <| And.intro @I.zjs.enc.eq_1 <| And.intro @I.zjt.enc.eq_1 <| And.intro @I.zjv.enc.eq_1 <| And.intro @I.zju.enc.eq_1 <| And.intro @arrEnc.eq_1 <| @I.zjw.enc.eq_1
def kf := And.intro @ke @kn
def tab : List (Nat × MFun) := [(13, zm4), (18, zm6), (22, zm8), (23, znp), (25, znr), (28, znt), (31, znx), (37, zod), (41, zop), (42, zor), (44, zot), (50, zov), (52, zpg), (53, zpq), (54, zps), (55, zqk), (57, zqy), (62, zq0), (63, zq2), (67, zrm), (68, zro), (69, zrq), (70, zr0), (71, zr2), (72, zr3), (79, zsh), (80, zst), (81, zsv), (82, zsx), (83, zsz), (84, zs1), (91, zts), (95, ztu), (96, ztw), (97, zty), (98, zua), (99, zuc), (100, zuh), (101, zu2), (102, zv0), (103, zw0), (104, zxv), (109, zx0), (116, zyd), (117, zyi), (134, zy5), (135, zzo), (136, zz9), (142, z0n), (145, z06), (146, z1n), (147, z1y), (148, z2b), (149, z2t), (150, z3l), (166, z3u), (167, z4r), (169, z4s)]
abbrev T : Nat → Option MFun := look tab
theorem z4t : T F.zl5 = some zm4 := rfl
theorem z4u : T F.zkp = some zm6 := rfl
theorem z4v : T F.zj7 = some zm8 := rfl
theorem z4w : T F.zk6 = some znp := rfl
theorem z4x : T F.zkn = some znr := rfl
theorem z4y : T F.zl1 = some znt := rfl
theorem z4z : T F.zkh = some znx := rfl
theorem z40 : T F.zl0 = some zod := rfl
theorem z41 : T F.zl3 = some zop := rfl
theorem z42 : T F.zkk = some zor := rfl
theorem z43 : T F.zko = some zot := rfl
theorem z44 : T F.zj8 = some zov := rfl
theorem z45 : T F.zj3 = some zpg := rfl
theorem z46 : T F.zj6 = some zpq := rfl
theorem z47 : T F.zkr = some zps := rfl
theorem z48 : T F.zk3 = some zqk := rfl
theorem z49 : T F.zkm = some zqy := rfl
theorem z5a : T F.zll = some zq0 := rfl
theorem z5b : T F.zlr = some zq2 := rfl
theorem z5c : T F.zl6 = some zrm := rfl
theorem z5d : T F.zj9 = some zro := rfl
theorem z5e : T F.zl7 = some zrq := rfl
theorem z5f : T F.zl8 = some zr0 := rfl
theorem z5g : T F.zl9 = some zr2 := rfl
theorem z5h : T F.zka = some zr3 := rfl
theorem z5i : T F.zkj = some zsh := rfl
theorem z5j : T F.zlw = some zst := rfl
theorem z5k : T F.zlj = some zsv := rfl
theorem z5l : T F.zlx = some zsx := rfl
theorem z5m : T F.zlf = some zsz := rfl
theorem z5n : T F.zlc = some zs1 := rfl
theorem z5o : T F.zlq = some zts := rfl
theorem z5p : T F.zma = some ztu := rfl
theorem z5q : T F.zjy = some ztw := rfl
theorem z5r : T F.zjx = some zty := rfl
theorem z5s : T F.zj0 = some zua := rfl
theorem z5t : T F.zj4 = some zuc := rfl
theorem z5u : T F.zkq = some zuh := rfl
theorem z5v : T F.zks = some zu2 := rfl
theorem z5w : T F.zku = some zv0 := rfl
theorem z5x : T F.zk0 = some zw0 := rfl
theorem z5y : T F.zk2 = some zxv := rfl
theorem z5z : T F.zlg = some zx0 := rfl
theorem z50 : T F.zli = some zyd := rfl
theorem z51 : T F.zlk = some zyi := rfl
theorem z52 : T F.zlu = some zy5 := rfl
theorem z53 : T F.zle = some zzo := rfl
theorem z54 : T F.zlb = some zz9 := rfl
theorem z55 : T F.zmb = some z0n := rfl
theorem z56 : T F.zmc = some z06 := rfl
theorem z57 : T F.zkt = some z1n := rfl
theorem z58 : T F.zkx = some z1y := rfl
theorem z59 : T F.zkw = some z2b := rfl
theorem z6a : T F.zkz = some z2t := rfl
theorem z6b : T F.zk1 = some z3l := rfl
theorem z6c : T F.zls = some z3u := rfl
theorem z6d : T F.zk9 = some z4r := rfl
theorem z6e : T F.zky = some z4s := rfl
def rg {P : Prop} {c c' : List MO} (h : c = c') (p : P) := ra (T := T) h p
def xg {P : Prop} {c c' : MC} (h : c = c') (p : P) := xa (T := T) h p
def z6f := rg o_13_1.eq_1 <| rg o_13_2.eq_1 <| rg o_13_3.eq_1 <| rg o_13_4.eq_1 <| rg o_13_5.eq_1 <| xg c_13_6.eq_1 <| rg o_13_7.eq_1 <| rg o_13_8.eq_1 <| And.intro (@df_of T _ _ [(0, 8), (3, 8)] o_13_8.eq_1) <| rg o_13_9.eq_1 <| rg zmd.eq_1 <| xg zme.eq_1 <| rg zmf.eq_1 <| And.intro (@df_of T _ _ [(0, 8), (3, 8)] zmf.eq_1) <| rg zmg.eq_1 <| rg zmh.eq_1 <| rg zmi.eq_1 <| xg zmj.eq_1 <| rg zmk.eq_1 <| rg zml.eq_1 <| xg zmm.eq_1 <| xg zmn.eq_1 <| xg zmo.eq_1 <| xg zmp.eq_1 <| rg zmq.eq_1 <| rg zmr.eq_1 <| xg zms.eq_1 <| xg zmt.eq_1 <| xg zmu.eq_1 <| xg zmv.eq_1 <| xg zmw.eq_1 <| xg zmx.eq_1 <| xg zmy.eq_1 <| xg zmz.eq_1 <| xg zm0.eq_1 <| xg zm1.eq_1 <| @ex_of T _ _ zm2.eq_1
def z6g := @vd T F.zl5 zm4 [0, 0, 0] z4t rfl rfl
theorem z6h : zm4.res = [.tmp 6] ∧ zm4.rets = [[]] ∧ zm4.body = (.seq (.reg o_13_1) zm2) := ⟨rfl, rfl, rfl⟩
def z6i := rg o_18_1.eq_1 <| rg o_18_2.eq_1 <| @ex_of T _ _ c_18_3.eq_1
def z6j := @vd T F.zkp zm6 [0] z4u rfl rfl
theorem z6k : zm6.res = [.tmp 2] ∧ zm6.rets = [[]] ∧ zm6.body = (.seq (.reg o_18_1) c_18_3) := ⟨rfl, rfl, rfl⟩
def z6l := rg o_22_1.eq_1 <| rg o_22_2.eq_1 <| @ex_of T _ _ c_22_3.eq_1
def z6m := @vd T F.zj7 zm8 [0] z4v rfl rfl
theorem z6n : zm8.res = [.tmp 2] ∧ zm8.rets = [[]] ∧ zm8.body = (.seq (.reg o_22_1) c_22_3) := ⟨rfl, rfl, rfl⟩
def z6o := rg o_23_1.eq_1 <| rg o_23_2.eq_1 <| rg o_23_3.eq_1 <| rg o_23_4.eq_1 <| rg o_23_5.eq_1 <| rg o_23_6.eq_1 <| rg o_23_7.eq_1 <| rg o_23_8.eq_1 <| xg c_23_9.eq_1 <| xg zm9.eq_1 <| rg zna.eq_1 <| rg znb.eq_1 <| And.intro (@df_of T _ _ [(1, 6)] znb.eq_1) <| xg znc.eq_1 <| xg znd.eq_1 <| xg zne.eq_1 <| rg znf.eq_1 <| xg zng.eq_1 <| xg znh.eq_1 <| xg zni.eq_1 <| xg znj.eq_1 <| xg znk.eq_1 <| rg znl.eq_1 <| xg znm.eq_1 <| @ex_of T _ _ znn.eq_1
def z6p := @vd T F.zk6 znp [0, 0] z4w rfl rfl
theorem z6q : znp.res = [.cell 4 6 true, .tmp 5] ∧ znp.rets = [[], []] ∧ znp.body = (.seq (.reg o_23_1) znn) := ⟨rfl, rfl, rfl⟩
def z6r := rg o_25_1.eq_1 <| rg o_25_2.eq_1 <| @ex_of T _ _ c_25_3.eq_1
def z6s := @vd T F.zkn znr [0, 0] z4x rfl rfl
theorem z6t : znr.res = [.tmp 4] ∧ znr.rets = [[]] ∧ znr.body = (.seq (.reg o_25_1) c_25_3) := ⟨rfl, rfl, rfl⟩
def z6u := rg o_28_1.eq_1 <| rg o_28_2.eq_1 <| rg o_28_3.eq_1 <| rg o_28_4.eq_1 <| xg c_28_5.eq_1 <| xg c_28_6.eq_1 <| @ex_of T _ _ c_28_7.eq_1
def z6v := @vd T F.zl1 znt [] z4y rfl rfl
theorem z6w : znt.res = [.tmp 0] ∧ znt.rets = [[]] ∧ znt.body = (.seq (.reg o_28_1) c_28_7) := ⟨rfl, rfl, rfl⟩
def z6x := rg o_31_1.eq_1 <| rg o_31_2.eq_1 <| rg o_31_3.eq_1 <| rg o_31_4.eq_1 <| rg o_31_5.eq_1 <| xg c_31_6.eq_1 <| rg o_31_7.eq_1 <| xg c_31_8.eq_1 <| xg c_31_9.eq_1 <| xg znu.eq_1 <| @ex_of T _ _ znv.eq_1
def z6y := @vd T F.zkh znx [0, 0] z4z rfl rfl
theorem z6z : znx.res = [.tmp 4] ∧ znx.rets = [[4]] ∧ znx.body = (.seq (.reg o_31_1) znv) := ⟨rfl, rfl, rfl⟩
def z60 := rg o_37_1.eq_1 <| rg o_37_2.eq_1 <| rg o_37_3.eq_1 <| xg c_37_4.eq_1 <| rg o_37_5.eq_1 <| rg o_37_6.eq_1 <| And.intro (@df_of T _ _ [(3, 0), (3, 1), (6, 0), (6, 1), (6, 4)] o_37_6.eq_1) <| rg o_37_7.eq_1 <| rg o_37_8.eq_1 <| xg c_37_9.eq_1 <| rg zny.eq_1 <| rg znz.eq_1 <| rg zn0.eq_1 <| xg zn1.eq_1 <| xg zn2.eq_1 <| xg zn3.eq_1 <| xg zn4.eq_1 <| rg zn5.eq_1 <| xg zn6.eq_1 <| xg zn7.eq_1 <| xg zn8.eq_1 <| xg zn9.eq_1 <| xg zoa.eq_1 <| @ex_of T _ _ zob.eq_1
def z61 := @vd T F.zl0 zod [0] z40 rfl rfl
theorem z62 : zod.res = [.tmp 2, .tmp 3] ∧ zod.rets = [[2], []] ∧ zod.body = (.seq (.reg o_37_1) zob) := ⟨rfl, rfl, rfl⟩
def z63 := rg o_41_1.eq_1 <| rg o_41_2.eq_1 <| rg o_41_3.eq_1 <| rg o_41_4.eq_1 <| rg o_41_5.eq_1 <| rg o_41_6.eq_1 <| rg o_41_7.eq_1 <| And.intro (@df_of T _ _ [(0, 3), (0, 4)] o_41_7.eq_1) <| xg c_41_8.eq_1 <| xg c_41_9.eq_1 <| rg zoe.eq_1 <| xg zof.eq_1 <| xg zog.eq_1 <| xg zoh.eq_1 <| xg zoi.eq_1 <| xg zoj.eq_1 <| rg zok.eq_1 <| xg zol.eq_1 <| xg zom.eq_1 <| @ex_of T _ _ zon.eq_1
def z64 := @vd T F.zl3 zop [0, 0] z41 rfl rfl
theorem z65 : zop.res = [.cell 4 4 true, .tmp 5] ∧ zop.rets = [[], [2]] ∧ zop.body = (.seq (.reg o_41_1) zon) := ⟨rfl, rfl, rfl⟩
def z66 := rg o_42_1.eq_1 <| rg o_42_2.eq_1 <| @ex_of T _ _ c_42_3.eq_1
def z67 := @vd T F.zkk zor [0, 0] z42 rfl rfl
theorem z68 : zor.res = [.tmp 4] ∧ zor.rets = [[]] ∧ zor.body = (.seq (.reg o_42_1) c_42_3) := ⟨rfl, rfl, rfl⟩
def z69 := rg o_44_1.eq_1 <| rg o_44_2.eq_1 <| @ex_of T _ _ c_44_3.eq_1
def z7a := @vd T F.zko zot [0] z43 rfl rfl
theorem z7b : zot.res = [.tmp 2] ∧ zot.rets = [[]] ∧ zot.body = (.seq (.reg o_44_1) c_44_3) := ⟨rfl, rfl, rfl⟩
def z7c := rg o_50_1.eq_1 <| rg o_50_2.eq_1 <| rg o_50_3.eq_1 <| xg c_50_4.eq_1 <| rg o_50_5.eq_1 <| xg c_50_6.eq_1 <| @ex_of T _ _ c_50_7.eq_1
def z7d := @vd T F.zj8 zov [0] z44 rfl rfl
theorem z7e : zov.res = [.tmp 2] ∧ zov.rets = [[2]] ∧ zov.body = (.seq (.reg o_50_1) c_50_7) := ⟨rfl, rfl, rfl⟩
def z7f := rg o_52_1.eq_1 <| rg o_52_2.eq_1 <| rg o_52_3.eq_1 <| xg c_52_4.eq_1 <| rg o_52_5.eq_1 <| rg o_52_6.eq_1 <| rg o_52_7.eq_1 <| rg o_52_8.eq_1 <| xg c_52_9.eq_1 <| rg zow.eq_1 <| rg zox.eq_1 <| rg zoy.eq_1 <| xg zoz.eq_1 <| rg zo0.eq_1 <| rg zo1.eq_1 <| rg zo2.eq_1 <| rg zo3.eq_1 <| rg zo4.eq_1 <| xg zo5.eq_1 <| xg zo6.eq_1 <| xg zo7.eq_1 <| xg zo8.eq_1 <| xg zo9.eq_1 <| rg zpa.eq_1 <| xg zpb.eq_1 <| xg zpc.eq_1 <| xg zpd.eq_1 <| @ex_of T _ _ zpe.eq_1
def z7g := @vd T F.zj3 zpg [0] z45 rfl rfl
theorem z7h : zpg.res = [.tmp 2] ∧ zpg.rets = [[]] ∧ zpg.body = (.seq (.reg o_52_1) zpe) := ⟨rfl, rfl, rfl⟩
def z7i := rg o_53_1.eq_1 <| rg o_53_2.eq_1 <| rg o_53_3.eq_1 <| rg o_53_4.eq_1 <| rg o_53_5.eq_1 <| rg o_53_6.eq_1 <| xg c_53_7.eq_1 <| xg c_53_8.eq_1 <| rg o_53_9.eq_1 <| xg zph.eq_1 <| xg zpi.eq_1 <| xg zpj.eq_1 <| xg zpk.eq_1 <| xg zpl.eq_1 <| rg zpm.eq_1 <| xg zpn.eq_1 <| @ex_of T _ _ zpo.eq_1
def z7j := @vd T F.zj6 zpq [0] z46 rfl rfl
theorem z7k : zpq.res = [.tmp 2] ∧ zpq.rets = [[]] ∧ zpq.body = (.seq (.reg o_53_1) zpo) := ⟨rfl, rfl, rfl⟩
def z7l := rg o_54_1.eq_1 <| rg o_54_2.eq_1 <| @ex_of T _ _ c_54_3.eq_1
def z7m := @vd T F.zkr zps [0] z47 rfl rfl
theorem z7n : zps.res = [.tmp 2] ∧ zps.rets = [[]] ∧ zps.body = (.seq (.reg o_54_1) c_54_3) := ⟨rfl, rfl, rfl⟩
def z7o := rg o_55_1.eq_1 <| rg o_55_2.eq_1 <| rg o_55_3.eq_1 <| rg o_55_4.eq_1 <| rg o_55_5.eq_1 <| rg o_55_6.eq_1 <| rg o_55_7.eq_1 <| rg o_55_8.eq_1 <| rg o_55_9.eq_1 <| xg zpt.eq_1 <| rg zpu.eq_1 <| xg zpv.eq_1 <| xg zpw.eq_1 <| xg zpx.eq_1 <| xg zpy.eq_1 <| xg zpz.eq_1 <| rg zp0.eq_1 <| rg zp1.eq_1 <| rg zp2.eq_1 <| xg zp3.eq_1 <| rg zp4.eq_1 <| rg zp5.eq_1 <| rg zp6.eq_1 <| xg zp7.eq_1 <| rg zp8.eq_1 <| rg zp9.eq_1 <| rg zqa.eq_1 <| xg zqb.eq_1 <| xg zqc.eq_1 <| xg zqd.eq_1 <| xg zqe.eq_1 <| rg zqf.eq_1 <| xg zqg.eq_1 <| xg zqh.eq_1 <| @ex_of T _ _ zqi.eq_1
def z7p := @vd T F.zk3 zqk [0, 0] z48 rfl rfl
theorem z7q : zqk.res = [.cell 4 4 true, .tmp 5] ∧ zqk.rets = [[], []] ∧ zqk.body = (.seq (.reg o_55_1) zqi) := ⟨rfl, rfl, rfl⟩
def z7r := rg o_57_1.eq_1 <| rg o_57_2.eq_1 <| rg o_57_3.eq_1 <| xg c_57_4.eq_1 <| rg o_57_5.eq_1 <| rg o_57_6.eq_1 <| rg o_57_7.eq_1 <| rg o_57_8.eq_1 <| rg o_57_9.eq_1 <| xg zql.eq_1 <| xg zqm.eq_1 <| rg zqn.eq_1 <| xg zqo.eq_1 <| xg zqp.eq_1 <| xg zqq.eq_1 <| xg zqr.eq_1 <| xg zqs.eq_1 <| rg zqt.eq_1 <| xg zqu.eq_1 <| xg zqv.eq_1 <| @ex_of T _ _ zqw.eq_1
def z7s := @vd T F.zkm zqy [0, 0] z49 rfl rfl
theorem z7t : zqy.res = [.tmp 4] ∧ zqy.rets = [[]] ∧ zqy.body = (.seq (.reg o_57_1) zqw) := ⟨rfl, rfl, rfl⟩
def z7u := rg o_62_1.eq_1 <| rg o_62_2.eq_1 <| @ex_of T _ _ c_62_3.eq_1
def z7v := @vd T F.zll zq0 [2, 0] z5a rfl rfl
theorem z7w : zq0.res = [.tmp 4] ∧ zq0.rets = [[2]] ∧ zq0.body = (.seq (.reg o_62_1) c_62_3) := ⟨rfl, rfl, rfl⟩
def z7x := rg o_63_1.eq_1 <| rg o_63_2.eq_1 <| rg o_63_3.eq_1 <| xg c_63_4.eq_1 <| rg o_63_5.eq_1 <| rg o_63_6.eq_1 <| xg c_63_7.eq_1 <| xg c_63_8.eq_1 <| @ex_of T _ _ c_63_9.eq_1
def z7y := @vd T F.zlr zq2 [0] z5b rfl rfl
theorem z7z : zq2.res = [.tmp 2, .tmp 3] ∧ zq2.rets = [[2], []] ∧ zq2.body = (.seq (.reg o_63_1) c_63_9) := ⟨rfl, rfl, rfl⟩
def z70 := rg o_67_1.eq_1 <| rg o_67_2.eq_1 <| rg o_67_3.eq_1 <| rg o_67_4.eq_1 <| xg c_67_5.eq_1 <| rg o_67_6.eq_1 <| rg o_67_7.eq_1 <| xg c_67_8.eq_1 <| rg o_67_9.eq_1 <| rg zq3.eq_1 <| rg zq4.eq_1 <| rg zq5.eq_1 <| xg zq6.eq_1 <| xg zq7.eq_1 <| xg zq8.eq_1 <| rg zq9.eq_1 <| xg zra.eq_1 <| xg zrb.eq_1 <| xg zrc.eq_1 <| xg zrd.eq_1 <| rg zre.eq_1 <| rg zrf.eq_1 <| xg zrg.eq_1 <| xg zrh.eq_1 <| xg zri.eq_1 <| xg zrj.eq_1 <| @ex_of T _ _ zrk.eq_1
def z71 := @vi T F.zl6 zrm z5c rfl
theorem z72 {n : Nat} {H : Hp} {vs : List V} : (orc T (n + 1)).inl F.zl6 vs H = finI H.length true [.tmp 4] (unw T (orc T n) n H.length [] (exec T (orc T n) n H.length (.seq (.reg o_67_1) zrk) (params 0 vs) H)) := by rw [zhy, z5c, y4, zhw]; rfl
def z73 := rg o_68_1.eq_1 <| rg o_68_2.eq_1 <| rg o_68_3.eq_1 <| xg c_68_4.eq_1 <| rg o_68_5.eq_1 <| xg c_68_6.eq_1 <| @ex_of T _ _ c_68_7.eq_1
def z74 := @vd T F.zj9 zro [0] z5d rfl rfl
theorem z75 : zro.res = [.tmp 2] ∧ zro.rets = [[4]] ∧ zro.body = (.seq (.reg o_68_1) c_68_7) := ⟨rfl, rfl, rfl⟩
def z76 := rg o_69_1.eq_1 <| rg o_69_2.eq_1 <| @ex_of T _ _ c_69_3.eq_1
def z77 := @vi T F.zl7 zrq z5e rfl
theorem z78 {n : Nat} {H : Hp} {vs : List V} : (orc T (n + 1)).inl F.zl7 vs H = finI H.length false [.tmp 3] (unw T (orc T n) n H.length [] (exec T (orc T n) n H.length (.seq (.reg o_69_1) c_69_3) (params 0 vs) H)) := by rw [zhy, z5e, y4, zhw]; rfl
def z79 := rg o_70_1.eq_1 <| rg o_70_2.eq_1 <| rg o_70_3.eq_1 <| rg o_70_4.eq_1 <| rg o_70_5.eq_1 <| rg o_70_6.eq_1 <| xg c_70_7.eq_1 <| xg c_70_8.eq_1 <| rg o_70_9.eq_1 <| xg zrr.eq_1 <| xg zrs.eq_1 <| xg zrt.eq_1 <| xg zru.eq_1 <| xg zrv.eq_1 <| rg zrw.eq_1 <| xg zrx.eq_1 <| @ex_of T _ _ zry.eq_1
def z8a := @vi T F.zl8 zr0 z5f rfl
theorem z8b {n : Nat} {H : Hp} {vs : List V} : (orc T (n + 1)).inl F.zl8 vs H = finI H.length false [.tmp 4] (unw T (orc T n) n H.length [] (exec T (orc T n) n H.length (.seq (.reg o_70_1) zry) (params 0 vs) H)) := by rw [zhy, z5f, y4, zhw]; rfl
def z8c := rg o_71_1.eq_1 <| rg o_71_2.eq_1 <| @ex_of T _ _ c_71_3.eq_1
def z8d := @vi T F.zl9 zr2 z5g rfl
theorem z8e {n : Nat} {H : Hp} {vs : List V} : (orc T (n + 1)).inl F.zl9 vs H = finI H.length false [.tmp 3] (unw T (orc T n) n H.length [] (exec T (orc T n) n H.length (.seq (.reg o_71_1) c_71_3) (params 0 vs) H)) := by rw [zhy, z5g, y4, zhw]; rfl
def z8f := @vd T F.zka zr3 [4, 0, 4] z5h rfl rfl
theorem z8g : zr3.res = [.tmp 6] ∧ zr3.rets = [[4]] ∧ zr3.body = .fail := ⟨rfl, rfl, rfl⟩
def z8h := rg o_79_1.eq_1 <| rg o_79_2.eq_1 <| rg o_79_3.eq_1 <| xg c_79_4.eq_1 <| rg o_79_5.eq_1 <| rg o_79_6.eq_1 <| rg o_79_7.eq_1 <| rg o_79_8.eq_1 <| rg o_79_9.eq_1 <| xg zr4.eq_1 <| xg zr5.eq_1 <| rg zr6.eq_1 <| xg zr7.eq_1 <| xg zr8.eq_1 <| xg zr9.eq_1 <| xg zsa.eq_1 <| xg zsb.eq_1 <| rg zsc.eq_1 <| xg zsd.eq_1 <| xg zse.eq_1 <| @ex_of T _ _ zsf.eq_1
def z8i := @vd T F.zkj zsh [0, 0] z5i rfl rfl
theorem z8j : zsh.res = [.tmp 4] ∧ zsh.rets = [[]] ∧ zsh.body = (.seq (.reg o_79_1) zsf) := ⟨rfl, rfl, rfl⟩
def z8k := rg o_80_1.eq_1 <| rg o_80_2.eq_1 <| rg o_80_3.eq_1 <| And.intro (@df_of T _ _ [(6, 2), (6, 4), (7, 2), (7, 4)] o_80_3.eq_1) <| rg o_80_4.eq_1 <| rg o_80_5.eq_1 <| rg o_80_6.eq_1 <| rg o_80_7.eq_1 <| And.intro (@df_of T _ _ [(5, 3), (8, 3), (8, 6)] o_80_7.eq_1) <| xg c_80_8.eq_1 <| rg o_80_9.eq_1 <| xg zsi.eq_1 <| xg zsj.eq_1 <| xg zsk.eq_1 <| xg zsl.eq_1 <| xg zsm.eq_1 <| rg zsn.eq_1 <| xg zso.eq_1 <| xg zsp.eq_1 <| xg zsq.eq_1 <| @ex_of T _ _ zsr.eq_1
def z8l := @vd T F.zlw zst [0] z5j rfl rfl
theorem z8m : zst.res = [.tmp 2] ∧ zst.rets = [[2]] ∧ zst.body = (.seq (.reg o_80_1) zsr) := ⟨rfl, rfl, rfl⟩
def z8n := rg o_81_1.eq_1 <| rg o_81_2.eq_1 <| rg o_81_3.eq_1 <| xg c_81_4.eq_1 <| rg o_81_5.eq_1 <| xg c_81_6.eq_1 <| @ex_of T _ _ c_81_7.eq_1
def z8o := @vd T F.zlj zsv [2, 0] z5k rfl rfl
theorem z8p : zsv.res = [.tmp 4] ∧ zsv.rets = [[2]] ∧ zsv.body = (.seq (.reg o_81_1) c_81_7) := ⟨rfl, rfl, rfl⟩
def z8q := rg o_82_1.eq_1 <| rg o_82_2.eq_1 <| rg o_82_3.eq_1 <| xg c_82_4.eq_1 <| @ex_of T _ _ c_82_5.eq_1
def z8r := @vd T F.zlx zsx [0] z5l rfl rfl
theorem z8s : zsx.res = [.tmp 2] ∧ zsx.rets = [[2]] ∧ zsx.body = (.seq (.reg o_82_1) c_82_5) := ⟨rfl, rfl, rfl⟩
def z8t := rg o_83_1.eq_1 <| rg o_83_2.eq_1 <| @ex_of T _ _ c_83_3.eq_1
def z8u := @vd T F.zlf zsz [0] z5m rfl rfl
theorem z8v : zsz.res = [.tmp 2] ∧ zsz.rets = [[2]] ∧ zsz.body = (.seq (.reg o_83_1) c_83_3) := ⟨rfl, rfl, rfl⟩
def z8w := rg o_84_1.eq_1 <| rg o_84_2.eq_1 <| @ex_of T _ _ c_84_3.eq_1
def z8x := @vd T F.zlc zs1 [0] z5n rfl rfl
theorem z8y : zs1.res = [.tmp 2] ∧ zs1.rets = [[]] ∧ zs1.body = (.seq (.reg o_84_1) c_84_3) := ⟨rfl, rfl, rfl⟩
def z8z := rg o_91_1.eq_1 <| rg o_91_2.eq_1 <| rg o_91_3.eq_1 <| rg o_91_4.eq_1 <| rg o_91_5.eq_1 <| rg o_91_6.eq_1 <| rg o_91_7.eq_1 <| xg c_91_8.eq_1 <| xg c_91_9.eq_1 <| xg zs2.eq_1 <| rg zs3.eq_1 <| xg zs4.eq_1 <| xg zs5.eq_1 <| xg zs6.eq_1 <| xg zs7.eq_1 <| xg zs8.eq_1 <| rg zs9.eq_1 <| rg zta.eq_1 <| rg ztb.eq_1 <| rg ztc.eq_1 <| rg ztd.eq_1 <| xg zte.eq_1 <| rg ztf.eq_1 <| xg ztg.eq_1 <| xg zth.eq_1 <| xg zti.eq_1 <| xg ztj.eq_1 <| xg ztk.eq_1 <| rg ztl.eq_1 <| xg ztm.eq_1 <| xg ztn.eq_1 <| xg zto.eq_1 <| xg ztp.eq_1 <| @ex_of T _ _ ztq.eq_1
def z80 := @vd T F.zlq zts [0] z5o rfl rfl
theorem z81 : zts.res = [.tmp 2] ∧ zts.rets = [[2]] ∧ zts.body = (.seq (.reg o_91_1) ztq) := ⟨rfl, rfl, rfl⟩
def z82 := rg o_95_1.eq_1 <| rg o_95_2.eq_1 <| @ex_of T _ _ c_95_3.eq_1
def z83 := @vi T F.zma ztu z5p rfl
theorem z84 {n : Nat} {H : Hp} {vs : List V} : (orc T (n + 1)).inl F.zma vs H = finI H.length false [.tmp 4] (unw T (orc T n) n H.length [] (exec T (orc T n) n H.length (.seq (.reg o_95_1) c_95_3) (params 0 vs) H)) := by rw [zhy, z5p, y4, zhw]; rfl
def z85 := rg o_96_1.eq_1 <| rg o_96_2.eq_1 <| @ex_of T _ _ c_96_3.eq_1
def z86 := @vd T F.zjy ztw [0] z5q rfl rfl
theorem z87 : ztw.res = [.tmp 2] ∧ ztw.rets = [[]] ∧ ztw.body = (.seq (.reg o_96_1) c_96_3) := ⟨rfl, rfl, rfl⟩
def z88 := rg o_97_1.eq_1 <| rg o_97_2.eq_1 <| @ex_of T _ _ c_97_3.eq_1
def z89 := @vd T F.zjx zty [0] z5r rfl rfl
theorem z9a : zty.res = [.tmp 2] ∧ zty.rets = [[]] ∧ zty.body = (.seq (.reg o_97_1) c_97_3) := ⟨rfl, rfl, rfl⟩
def z9b := rg o_98_1.eq_1 <| rg o_98_2.eq_1 <| rg o_98_3.eq_1 <| rg o_98_4.eq_1 <| xg c_98_5.eq_1 <| rg o_98_6.eq_1 <| rg o_98_7.eq_1 <| xg c_98_8.eq_1 <| rg o_98_9.eq_1 <| xg ztz.eq_1 <| rg zt0.eq_1 <| xg zt1.eq_1 <| xg zt2.eq_1 <| xg zt3.eq_1 <| xg zt4.eq_1 <| rg zt5.eq_1 <| xg zt6.eq_1 <| xg zt7.eq_1 <| @ex_of T _ _ zt8.eq_1
def z9c := @vd T F.zj0 zua [0, 0] z5s rfl rfl
theorem z9d : zua.res = [.tmp 4] ∧ zua.rets = [[]] ∧ zua.body = (.seq (.reg o_98_1) zt8) := ⟨rfl, rfl, rfl⟩
def z9e := rg o_99_1.eq_1 <| rg o_99_2.eq_1 <| @ex_of T _ _ c_99_3.eq_1
def z9f := @vd T F.zj4 zuc [0] z5t rfl rfl
theorem z9g : zuc.res = [.tmp 2] ∧ zuc.rets = [[]] ∧ zuc.body = (.seq (.reg o_99_1) c_99_3) := ⟨rfl, rfl, rfl⟩
def z9h := rg zud.eq_1 <| rg zue.eq_1 <| And.intro (@dr_of T _ _ [(10, 13), (18, 21)] zue.eq_1 (by decide)) <| @ex_of T _ _ zuf.eq_1
def z9i := @vd T F.zkq zuh [0] z5u rfl rfl
theorem z9j : zuh.res = [.tmp 2] ∧ zuh.rets = [[]] ∧ zuh.body = (.seq (.reg zud) zuf) := ⟨rfl, rfl, rfl⟩
def z9k := rg zui.eq_1 <| rg zuj.eq_1 <| rg zuk.eq_1 <| rg zul.eq_1 <| rg zum.eq_1 <| rg zun.eq_1 <| rg zuo.eq_1 <| xg zup.eq_1 <| rg zuq.eq_1 <| rg zur.eq_1 <| rg zus.eq_1 <| xg zut.eq_1 <| xg zuu.eq_1 <| xg zuv.eq_1 <| xg zuw.eq_1 <| rg zux.eq_1 <| xg zuy.eq_1 <| xg zuz.eq_1 <| @ex_of T _ _ zu0.eq_1
def z9l := @vd T F.zks zu2 [0, 0] z5v rfl rfl
theorem z9m : zu2.res = [.cell 4 4 true, .tmp 5] ∧ zu2.rets = [[], []] ∧ zu2.body = (.seq (.reg zui) zu0) := ⟨rfl, rfl, rfl⟩
def z9n := rg zu3.eq_1 <| rg zu4.eq_1 <| rg zu5.eq_1 <| rg zu6.eq_1 <| rg zu7.eq_1 <| rg zu8.eq_1 <| And.intro (@df_of T _ _ [(4, 2)] zu8.eq_1) <| rg zu9.eq_1 <| xg zva.eq_1 <| rg zvb.eq_1 <| rg zvc.eq_1 <| xg zvd.eq_1 <| rg zve.eq_1 <| rg zvf.eq_1 <| rg zvg.eq_1 <| xg zvh.eq_1 <| xg zvi.eq_1 <| xg zvj.eq_1 <| xg zvk.eq_1 <| rg zvl.eq_1 <| rg zvm.eq_1 <| rg zvn.eq_1 <| xg zvo.eq_1 <| rg zvp.eq_1 <| rg zvq.eq_1 <| rg zvr.eq_1 <| xg zvs.eq_1 <| xg zvt.eq_1 <| xg zvu.eq_1 <| xg zvv.eq_1 <| xg zvw.eq_1 <| xg zvx.eq_1 <| @ex_of T _ _ zvy.eq_1
def z9o := @vd T F.zku zv0 [0, 0] z5w rfl rfl
theorem z9p : zv0.res = [.cell 4 4 true, .tmp 5] ∧ zv0.rets = [[], []] ∧ zv0.body = (.seq (.reg zu3) zvy) := ⟨rfl, rfl, rfl⟩
def z9q := rg zv1.eq_1 <| rg zv2.eq_1 <| rg zv3.eq_1 <| rg zv4.eq_1 <| rg zv5.eq_1 <| xg zv6.eq_1 <| xg zv7.eq_1 <| rg zv8.eq_1 <| xg zv9.eq_1 <| xg zwa.eq_1 <| rg zwb.eq_1 <| rg zwc.eq_1 <| xg zwd.eq_1 <| rg zwe.eq_1 <| rg zwf.eq_1 <| rg zwg.eq_1 <| rg zwh.eq_1 <| rg zwi.eq_1 <| rg zwj.eq_1 <| And.intro (@dr_of T _ _ [(1, 6), (3, 6)] zwj.eq_1 (by decide)) <| rg zwk.eq_1 <| rg zwl.eq_1 <| xg zwm.eq_1 <| rg zwn.eq_1 <| xg zwo.eq_1 <| xg zwp.eq_1 <| xg zwq.eq_1 <| xg zwr.eq_1 <| xg zws.eq_1 <| rg zwt.eq_1 <| xg zwu.eq_1 <| xg zwv.eq_1 <| xg zww.eq_1 <| xg zwx.eq_1 <| @ex_of T _ _ zwy.eq_1
def z9r := @vd T F.zk0 zw0 [0, 0] z5x rfl rfl
theorem z9s : zw0.res = [.cell 4 4 true, .tmp 5] ∧ zw0.rets = [[], []] ∧ zw0.body = (.seq (.reg zv1) zwy) := ⟨rfl, rfl, rfl⟩
def z9t := rg zw1.eq_1 <| rg zw2.eq_1 <| rg zw3.eq_1 <| rg zw4.eq_1 <| rg zw5.eq_1 <| rg zw6.eq_1 <| rg zw7.eq_1 <| rg zw8.eq_1 <| rg zw9.eq_1 <| And.intro (@df_of T _ _ [(0, 5)] zw9.eq_1) <| rg zxa.eq_1 <| rg zxb.eq_1 <| xg zxc.eq_1 <| xg zxd.eq_1 <| xg zxe.eq_1 <| xg zxf.eq_1 <| xg zxg.eq_1 <| rg zxh.eq_1 <| And.intro (@dr_of T _ _ [(7, 4)] zxh.eq_1 (by decide)) <| rg zxi.eq_1 <| rg zxj.eq_1 <| rg zxk.eq_1 <| xg zxl.eq_1 <| rg zxm.eq_1 <| rg zxn.eq_1 <| xg zxo.eq_1 <| xg zxp.eq_1 <| xg zxq.eq_1 <| xg zxr.eq_1 <| xg zxs.eq_1 <| @ex_of T _ _ zxt.eq_1
def z9u := @vd T F.zk2 zxv [0, 0] z5y rfl rfl
theorem z9v : zxv.res = [.cell 4 4 true, .tmp 5] ∧ zxv.rets = [[], []] ∧ zxv.body = (.seq (.reg zw1) zxt) := ⟨rfl, rfl, rfl⟩
def z9w := rg zxw.eq_1 <| rg zxx.eq_1 <| @ex_of T _ _ zxy.eq_1
def z9x := @vd T F.zlg zx0 [0, 0] z5z rfl rfl
theorem z9y : zx0.res = [.tmp 4] ∧ zx0.rets = [[2]] ∧ zx0.body = (.seq (.reg zxw) zxy) := ⟨rfl, rfl, rfl⟩
def z9z := rg zx1.eq_1 <| rg zx2.eq_1 <| xg zx3.eq_1 <| rg zx4.eq_1 <| rg zx5.eq_1 <| xg zx6.eq_1 <| xg zx7.eq_1 <| xg zx8.eq_1 <| rg zx9.eq_1 <| xg zya.eq_1 <| @ex_of T _ _ zyb.eq_1
def z90 := @vd T F.zli zyd [2, 0] z50 rfl rfl
theorem z91 : zyd.res = [.tmp 4] ∧ zyd.rets = [[2]] ∧ zyd.body = (.seq (.reg zx1) zyb) := ⟨rfl, rfl, rfl⟩
def z92 := rg zye.eq_1 <| rg zyf.eq_1 <| @ex_of T _ _ zyg.eq_1
def z93 := @vd T F.zlk zyi [0] z51 rfl rfl
theorem z94 : zyi.res = [.tmp 2] ∧ zyi.rets = [[]] ∧ zyi.body = (.seq (.reg zye) zyg) := ⟨rfl, rfl, rfl⟩
def z95 := rg zyj.eq_1 <| rg zyk.eq_1 <| rg zyl.eq_1 <| xg zym.eq_1 <| rg zyn.eq_1 <| And.intro (@df_of T _ _ [(3, 2), (7, 2), (7, 4), (7, 5), (8, 2), (8, 4), (8, 5)] zyn.eq_1) <| rg zyo.eq_1 <| rg zyp.eq_1 <| rg zyq.eq_1 <| rg zyr.eq_1 <| xg zys.eq_1 <| rg zyt.eq_1 <| xg zyu.eq_1 <| xg zyv.eq_1 <| xg zyw.eq_1 <| xg zyx.eq_1 <| xg zyy.eq_1 <| rg zyz.eq_1 <| xg zy0.eq_1 <| xg zy1.eq_1 <| xg zy2.eq_1 <| @ex_of T _ _ zy3.eq_1
def z96 := @vd T F.zlu zy5 [0] z52 rfl rfl
theorem z97 : zy5.res = [.tmp 2, .tmp 3] ∧ zy5.rets = [[2], []] ∧ zy5.body = (.seq (.reg zyj) zy3) := ⟨rfl, rfl, rfl⟩
def z98 := rg zy6.eq_1 <| rg zy7.eq_1 <| rg zy8.eq_1 <| rg zy9.eq_1 <| rg zza.eq_1 <| rg zzb.eq_1 <| xg zzc.eq_1 <| rg zzd.eq_1 <| xg zze.eq_1 <| xg zzf.eq_1 <| xg zzg.eq_1 <| xg zzh.eq_1 <| xg zzi.eq_1 <| rg zzj.eq_1 <| xg zzk.eq_1 <| xg zzl.eq_1 <| @ex_of T _ _ zzm.eq_1
def z99 := @vd T F.zle zzo [0, 0] z53 rfl rfl
theorem zbaa : zzo.res = [.tmp 4] ∧ zzo.rets = [[2]] ∧ zzo.body = (.seq (.reg zy6) zzm) := ⟨rfl, rfl, rfl⟩
def zbab := rg zzp.eq_1 <| rg zzq.eq_1 <| rg zzr.eq_1 <| rg zzs.eq_1 <| rg zzt.eq_1 <| rg zzu.eq_1 <| rg zzv.eq_1 <| xg zzw.eq_1 <| rg zzx.eq_1 <| xg zzy.eq_1 <| xg zzz.eq_1 <| xg zz0.eq_1 <| xg zz1.eq_1 <| xg zz2.eq_1 <| rg zz3.eq_1 <| xg zz4.eq_1 <| xg zz5.eq_1 <| xg zz6.eq_1 <| @ex_of T _ _ zz7.eq_1
def zbac := @vd T F.zlb zz9 [0, 0] z54 rfl rfl
theorem zbad : zz9.res = [.tmp 4] ∧ zz9.rets = [[]] ∧ zz9.body = (.seq (.reg zzp) zz7) := ⟨rfl, rfl, rfl⟩
def zbae := rg z0a.eq_1 <| rg z0b.eq_1 <| xg z0c.eq_1 <| rg z0d.eq_1 <| rg z0e.eq_1 <| rg z0f.eq_1 <| xg z0g.eq_1 <| xg z0h.eq_1 <| rg z0i.eq_1 <| xg z0j.eq_1 <| xg z0k.eq_1 <| @ex_of T _ _ z0l.eq_1
def zbaf := @vi T F.zmb z0n z55 rfl
theorem zbag {n : Nat} {H : Hp} {vs : List V} : (orc T (n + 1)).inl F.zmb vs H = finI H.length false [.tmp 4] (unw T (orc T n) n H.length [] (exec T (orc T n) n H.length (.seq (.reg z0a) z0l) (params 0 vs) H)) := by rw [zhy, z55, y4, zhw]; rfl
def zbah := rg z0o.eq_1 <| rg z0p.eq_1 <| rg z0q.eq_1 <| rg z0r.eq_1 <| rg z0s.eq_1 <| rg z0t.eq_1 <| xg z0u.eq_1 <| xg z0v.eq_1 <| rg z0w.eq_1 <| xg z0x.eq_1 <| xg z0y.eq_1 <| xg z0z.eq_1 <| xg z00.eq_1 <| xg z01.eq_1 <| rg z02.eq_1 <| xg z03.eq_1 <| @ex_of T _ _ z04.eq_1
def zbai := @vi T F.zmc z06 z56 rfl
theorem zbaj {n : Nat} {H : Hp} {vs : List V} : (orc T (n + 1)).inl F.zmc vs H = finI H.length false [.tmp 4] (unw T (orc T n) n H.length [] (exec T (orc T n) n H.length (.seq (.reg z0o) z04) (params 0 vs) H)) := by rw [zhy, z56, y4, zhw]; rfl
def zbak := rg z07.eq_1 <| rg z08.eq_1 <| rg z09.eq_1 <| rg z1a.eq_1 <| xg z1b.eq_1 <| rg z1c.eq_1 <| rg z1d.eq_1 <| rg z1e.eq_1 <| rg z1f.eq_1 <| xg z1g.eq_1 <| xg z1h.eq_1 <| xg z1i.eq_1 <| xg z1j.eq_1 <| xg z1k.eq_1 <| @ex_of T _ _ z1l.eq_1
def zbal := @vd T F.zkt z1n [2, 0, 0] z57 rfl rfl
theorem zbam : z1n.res = [.tmp 6] ∧ z1n.rets = [[2]] ∧ z1n.body = (.seq (.reg z07) z1l) := ⟨rfl, rfl, rfl⟩
def zban := rg z1o.eq_1 <| rg z1p.eq_1 <| rg z1q.eq_1 <| rg z1r.eq_1 <| xg z1s.eq_1 <| xg z1t.eq_1 <| rg z1u.eq_1 <| xg z1v.eq_1 <| @ex_of T _ _ z1w.eq_1
def zbao := @vd T F.zkx z1y [0, 0] z58 rfl rfl
theorem zbap : z1y.res = [.tmp 4] ∧ z1y.rets = [[]] ∧ z1y.body = (.seq (.reg z1o) z1w) := ⟨rfl, rfl, rfl⟩
def zbaq := rg z1z.eq_1 <| rg z10.eq_1 <| rg z11.eq_1 <| xg z12.eq_1 <| rg z13.eq_1 <| xg z14.eq_1 <| xg z15.eq_1 <| rg z16.eq_1 <| xg z17.eq_1 <| xg z18.eq_1 <| @ex_of T _ _ z19.eq_1
def zbar := @vd T F.zkw z2b [0, 0] z59 rfl rfl
theorem zbas : z2b.res = [.tmp 4, .tmp 5] ∧ z2b.rets = [[], []] ∧ z2b.body = (.seq (.reg z1z) z19) := ⟨rfl, rfl, rfl⟩
def zbat := rg z2c.eq_1 <| rg z2d.eq_1 <| rg z2e.eq_1 <| rg z2f.eq_1 <| rg z2g.eq_1 <| rg z2h.eq_1 <| xg z2i.eq_1 <| xg z2j.eq_1 <| rg z2k.eq_1 <| rg z2l.eq_1 <| xg z2m.eq_1 <| xg z2n.eq_1 <| rg z2o.eq_1 <| xg z2p.eq_1 <| xg z2q.eq_1 <| @ex_of T _ _ z2r.eq_1
def zbau := @vd T F.zkz z2t [0, 0, 0] z6a rfl rfl
theorem zbav : z2t.res = [.tmp 6, .tmp 7] ∧ z2t.rets = [[], []] ∧ z2t.body = (.seq (.reg z2c) z2r) := ⟨rfl, rfl, rfl⟩
def zbaw := rg z2u.eq_1 <| rg z2v.eq_1 <| rg z2w.eq_1 <| xg z2x.eq_1 <| rg z2y.eq_1 <| rg z2z.eq_1 <| And.intro (@dr_of T _ _ [(5, 3)] z2z.eq_1 (by decide)) <| rg z20.eq_1 <| rg z21.eq_1 <| rg z22.eq_1 <| rg z23.eq_1 <| xg z24.eq_1 <| xg z25.eq_1 <| rg z26.eq_1 <| rg z27.eq_1 <| rg z28.eq_1 <| xg z29.eq_1 <| rg z3a.eq_1 <| rg z3b.eq_1 <| xg z3c.eq_1 <| xg z3d.eq_1 <| xg z3e.eq_1 <| xg z3f.eq_1 <| xg z3g.eq_1 <| xg z3h.eq_1 <| xg z3i.eq_1 <| @ex_of T _ _ z3j.eq_1
def zbax := @vd T F.zk1 z3l [0, 0] z6b rfl rfl
theorem zbay : z3l.res = [.cell 4 4 true, .tmp 5] ∧ z3l.rets = [[], []] ∧ z3l.body = (.seq (.reg z2u) z3j) := ⟨rfl, rfl, rfl⟩
def zbaz := rg z3m.eq_1 <| rg z3n.eq_1 <| rg z3o.eq_1 <| xg z3p.eq_1 <| rg z3q.eq_1 <| xg z3r.eq_1 <| @ex_of T _ _ z3s.eq_1
def zba0 := @vd T F.zls z3u [0] z6c rfl rfl
theorem zba1 : z3u.res = [.tmp 2] ∧ z3u.rets = [[]] ∧ z3u.body = (.seq (.reg z3m) z3s) := ⟨rfl, rfl, rfl⟩
def zba2 := rg z3v.eq_1 <| rg z3w.eq_1 <| rg z3x.eq_1 <| rg z3y.eq_1 <| rg z3z.eq_1 <| rg z30.eq_1 <| rg z31.eq_1 <| rg z32.eq_1 <| rg z33.eq_1 <| rg z34.eq_1 <| xg z35.eq_1 <| rg z36.eq_1 <| xg z37.eq_1 <| xg z38.eq_1 <| xg z39.eq_1 <| xg z4a.eq_1 <| xg z4b.eq_1 <| rg z4c.eq_1 <| xg z4d.eq_1 <| xg z4e.eq_1 <| xg z4f.eq_1 <| rg z4g.eq_1 <| xg z4h.eq_1 <| xg z4i.eq_1 <| xg z4j.eq_1 <| xg z4k.eq_1 <| xg z4l.eq_1 <| rg z4m.eq_1 <| xg z4n.eq_1 <| xg z4o.eq_1 <| @ex_of T _ _ z4p.eq_1
def zba3 := @vd T F.zk9 z4r [] z6d rfl rfl
theorem zba4 : z4r.res = [.cell 0 256 true] ∧ z4r.rets = [[]] ∧ z4r.body = (.seq (.reg z3v) z4p) := ⟨rfl, rfl, rfl⟩
def zba5 := @vd T F.zky z4s [2, 0, 2] z6e rfl rfl
theorem zba6 : z4s.res = [.tmp 6] ∧ z4s.rets = [[2]] ∧ z4s.body = .fail := ⟨rfl, rfl, rfl⟩
end Go.Dvm.C
