/- What each piece of the code comes to: part 1. -/
import Derived.Test.YtngajodhbioheaaQc0
set_option linter.all false
set_option maxRecDepth 100000
set_option maxHeartbeats 4000000
namespace Go.Dvm.C
open Go Go.Dvm
def ke := And.intro @Ow.enc.eq_1 <| And.intro @Sl.enc.eq_1 <| And.intro @I.zjq.enc.eq_1 <| And.intro @I.zjr.enc.eq_1 <| And.intro @I.zjs.enc.eq_1 <| And.intro @I.zjt.enc.eq_1 <| And.intro @I.zjv.enc.eq_1 <| And.intro @I.zju.enc.eq_1 <| And.intro @arrEnc.eq_1 <| @I.zjw.enc.eq_1
def kf := And.intro @ke @kn
def tab : List (Nat × MFun) := [(5, zl4), (17, zl8), (18, zma), (19, zm7), (22, zm9), (23, znq), (24, zof), (25, zoh), (31, zol), (42, zon), (44, zop), (45, zor), (46, zot), (47, zov), (48, zoz), (49, zo3), (50, zo5), (52, zpq), (53, zp0), (54, zp2), (55, zqu), (56, zrl), (57, zrz), (67, zsj), (68, zsl), (69, zsn), (70, zsx), (71, zsz), (72, zs0), (79, zte), (94, ztg), (95, zti), (96, ztk), (97, ztm), (98, zty), (99, zt0), (100, zt5), (101, zuq), (102, zvo), (103, zwo), (104, zxj), (105, zxx), (145, zyg), (146, zyx), (147, zy8), (148, zzl), (149, zz3), (150, z0v), (169, z0w)]
abbrev T : Nat → Option MFun := look tab
theorem z0x : T F.zls = some zl4 := rfl
theorem z0y : T F.zk8 = some zl8 := rfl
theorem z0z : T F.zla = some zma := rfl
theorem z00 : T F.zkk = some zm7 := rfl
theorem z01 : T F.zj7 = some zm9 := rfl
theorem z02 : T F.zlr = some znq := rfl
theorem z03 : T F.zk1 = some zof := rfl
theorem z04 : T F.zk7 = some zoh := rfl
theorem z05 : T F.zky = some zol := rfl
theorem z06 : T F.zk4 = some zon := rfl
theorem z07 : T F.zk9 = some zop := rfl
theorem z08 : T F.zlt = some zor := rfl
theorem z09 : T F.zka = some zot := rfl
theorem z1a : T F.zlu = some zov := rfl
theorem z1b : T F.zkc = some zoz := rfl
theorem z1c : T F.zke = some zo3 := rfl
theorem z1d : T F.zkf = some zo5 := rfl
theorem z1e : T F.zj3 = some zpq := rfl
theorem z1f : T F.zj6 = some zp0 := rfl
theorem z1g : T F.zlc = some zp2 := rfl
theorem z1h : T F.zlo = some zqu := rfl
theorem z1i : T F.zkp = some zrl := rfl
theorem z1j : T F.zk6 = some zrz := rfl
theorem z1k : T F.zlv = some zsj := rfl
theorem z1l : T F.zkq = some zsl := rfl
theorem z1m : T F.zlw = some zsn := rfl
theorem z1n : T F.zlx = some zsx := rfl
theorem z1o : T F.zly = some zsz := rfl
theorem z1p : T F.zkr = some zs0 := rfl
theorem z1q : T F.zk3 = some zte := rfl
theorem z1r : T F.zlz = some ztg := rfl
theorem z1s : T F.zl0 = some zti := rfl
theorem z1t : T F.zjy = some ztk := rfl
theorem z1u : T F.zjx = some ztm := rfl
theorem z1v : T F.zj0 = some zty := rfl
theorem z1w : T F.zj4 = some zt0 := rfl
theorem z1x : T F.zlb = some zt5 := rfl
theorem z1y : T F.zld = some zuq := rfl
theorem z1z : T F.zlf = some zvo := rfl
theorem z10 : T F.zll = some zwo := rfl
theorem z11 : T F.zln = some zxj := rfl
theorem z12 : T F.zl1 = some zxx := rfl
theorem z13 : T F.zl2 = some zyg := rfl
theorem z14 : T F.zle = some zyx := rfl
theorem z15 : T F.zli = some zy8 := rfl
theorem z16 : T F.zlh = some zzl := rfl
theorem z17 : T F.zlk = some zz3 := rfl
theorem z18 : T F.zlm = some z0v := rfl
theorem z19 : T F.zlj = some z0w := rfl
def rg {P : Prop} {c c' : List MO} (h : c = c') (p : P) := ra (T := T) h p
def xg {P : Prop} {c c' : MC} (h : c = c') (p : P) := xa (T := T) h p
def z2a := rg o_5_1.eq_1 <| rg o_5_2.eq_1 <| rg o_5_3.eq_1 <| rg o_5_4.eq_1 <| rg o_5_5.eq_1 <| xg c_5_6.eq_1 <| rg o_5_7.eq_1 <| rg o_5_8.eq_1 <| xg c_5_9.eq_1 <| rg o_5_10.eq_1 <| rg o_5_11.eq_1 <| rg o_5_12.eq_1 <| xg c_5_13.eq_1 <| rg o_5_14.eq_1 <| rg o_5_15.eq_1 <| rg o_5_16.eq_1 <| rg o_5_17.eq_1 <| rg o_5_18.eq_1 <| xg c_5_19.eq_1 <| xg c_5_20.eq_1 <| xg c_5_21.eq_1 <| xg c_5_22.eq_1 <| xg c_5_23.eq_1 <| xg c_5_24.eq_1 <| xg c_5_25.eq_1 <| xg c_5_26.eq_1 <| xg c_5_27.eq_1 <| xg c_5_28.eq_1 <| @ex_of T _ _ c_5_29.eq_1
def z2b := @vd T F.zls zl4 [0, 0] z0x rfl rfl
theorem z2c : zl4.res = [.tmp 4] ∧ zl4.rets = [[]] ∧ zl4.body = (.seq (.reg o_5_1) c_5_29) := ⟨rfl, rfl, rfl⟩
def z2d := rg o_17_1.eq_1 <| rg o_17_2.eq_1 <| rg o_17_3.eq_1 <| rg o_17_4.eq_1 <| rg o_17_5.eq_1 <| rg o_17_6.eq_1 <| xg c_17_7.eq_1 <| xg c_17_8.eq_1 <| xg c_17_9.eq_1 <| xg zl5.eq_1 <| @ex_of T _ _ zl6.eq_1
def z2e := @vd T F.zk8 zl8 [] z0y rfl rfl
theorem z2f : zl8.res = [.tmp 0] ∧ zl8.rets = [[]] ∧ zl8.body = (.seq (.reg o_17_1) zl6) := ⟨rfl, rfl, rfl⟩
def z2g := rg o_18_1.eq_1 <| rg o_18_2.eq_1 <| @ex_of T _ _ c_18_3.eq_1
def z2h := @vd T F.zla zma [0] z0z rfl rfl
theorem z2i : zma.res = [.tmp 2] ∧ zma.rets = [[]] ∧ zma.body = (.seq (.reg o_18_1) c_18_3) := ⟨rfl, rfl, rfl⟩
def z2j := rg o_19_1.eq_1 <| rg o_19_2.eq_1 <| rg o_19_3.eq_1 <| rg o_19_4.eq_1 <| rg o_19_5.eq_1 <| rg o_19_6.eq_1 <| xg c_19_7.eq_1 <| xg c_19_8.eq_1 <| rg o_19_9.eq_1 <| rg zmb.eq_1 <| rg zmc.eq_1 <| rg zmd.eq_1 <| rg zme.eq_1 <| rg zmf.eq_1 <| rg zmg.eq_1 <| rg zmh.eq_1 <| rg zmi.eq_1 <| rg zmj.eq_1 <| rg zmk.eq_1 <| rg zml.eq_1 <| xg zmm.eq_1 <| xg zmn.eq_1 <| xg zmo.eq_1 <| rg zmp.eq_1 <| xg zmq.eq_1 <| xg zmr.eq_1 <| xg zms.eq_1 <| xg zmt.eq_1 <| xg zmu.eq_1 <| rg zmv.eq_1 <| xg zmw.eq_1 <| xg zmx.eq_1 <| xg zmy.eq_1 <| xg zmz.eq_1 <| xg zm0.eq_1 <| xg zm1.eq_1 <| xg zm2.eq_1 <| xg zm3.eq_1 <| xg zm4.eq_1 <| @ex_of T _ _ zm5.eq_1
def z2k := @vd T F.zkk zm7 [0, 0] z00 rfl rfl
theorem z2l : zm7.res = [.cell 4 8 true, .tmp 5] ∧ zm7.rets = [[], []] ∧ zm7.body = (.seq (.reg o_19_1) zm5) := ⟨rfl, rfl, rfl⟩
def z2m := rg o_22_1.eq_1 <| rg o_22_2.eq_1 <| @ex_of T _ _ c_22_3.eq_1
def z2n := @vd T F.zj7 zm9 [0] z01 rfl rfl
theorem z2o : zm9.res = [.tmp 2] ∧ zm9.rets = [[]] ∧ zm9.body = (.seq (.reg o_22_1) c_22_3) := ⟨rfl, rfl, rfl⟩
def z2p := rg o_23_1.eq_1 <| rg o_23_2.eq_1 <| rg o_23_3.eq_1 <| rg o_23_4.eq_1 <| rg o_23_5.eq_1 <| rg o_23_6.eq_1 <| rg o_23_7.eq_1 <| rg o_23_8.eq_1 <| xg c_23_9.eq_1 <| xg zna.eq_1 <| rg znb.eq_1 <| rg znc.eq_1 <| And.intro (@df_of T _ _ [(1, 6)] znc.eq_1) <| xg znd.eq_1 <| xg zne.eq_1 <| xg znf.eq_1 <| rg zng.eq_1 <| xg znh.eq_1 <| xg zni.eq_1 <| xg znj.eq_1 <| xg znk.eq_1 <| xg znl.eq_1 <| rg znm.eq_1 <| xg znn.eq_1 <| @ex_of T _ _ zno.eq_1
def z2q := @vd T F.zlr znq [0, 0] z02 rfl rfl
theorem z2r : znq.res = [.cell 4 6 true, .tmp 5] ∧ znq.rets = [[], []] ∧ znq.body = (.seq (.reg o_23_1) zno) := ⟨rfl, rfl, rfl⟩
def z2s := rg o_24_1.eq_1 <| rg o_24_2.eq_1 <| rg o_24_3.eq_1 <| rg o_24_4.eq_1 <| rg o_24_5.eq_1 <| rg o_24_6.eq_1 <| xg c_24_7.eq_1 <| xg c_24_8.eq_1 <| rg o_24_9.eq_1 <| rg znr.eq_1 <| And.intro (@df_of T _ _ [(2, 16), (2, 17), (19, 16), (19, 17), (21, 16), (21, 17)] znr.eq_1) <| rg zns.eq_1 <| rg znt.eq_1 <| rg znu.eq_1 <| rg znv.eq_1 <| xg znw.eq_1 <| rg znx.eq_1 <| xg zny.eq_1 <| xg znz.eq_1 <| xg zn0.eq_1 <| xg zn1.eq_1 <| xg zn2.eq_1 <| rg zn3.eq_1 <| rg zn4.eq_1 <| xg zn5.eq_1 <| rg zn6.eq_1 <| xg zn7.eq_1 <| xg zn8.eq_1 <| xg zn9.eq_1 <| xg zoa.eq_1 <| xg zob.eq_1 <| xg zoc.eq_1 <| @ex_of T _ _ zod.eq_1
def z2t := @vd T F.zk1 zof [0, 0] z03 rfl rfl
theorem z2u : zof.res = [.cell 4 6 true, .tmp 5] ∧ zof.rets = [[], []] ∧ zof.body = (.seq (.reg o_24_1) zod) := ⟨rfl, rfl, rfl⟩
def z2v := rg o_25_1.eq_1 <| rg o_25_2.eq_1 <| @ex_of T _ _ c_25_3.eq_1
def z2w := @vd T F.zk7 zoh [0, 0] z04 rfl rfl
theorem z2x : zoh.res = [.tmp 4] ∧ zoh.rets = [[]] ∧ zoh.body = (.seq (.reg o_25_1) c_25_3) := ⟨rfl, rfl, rfl⟩
def z2y := rg o_31_1.eq_1 <| rg o_31_2.eq_1 <| rg o_31_3.eq_1 <| rg o_31_4.eq_1 <| rg o_31_5.eq_1 <| xg c_31_6.eq_1 <| rg o_31_7.eq_1 <| xg c_31_8.eq_1 <| xg c_31_9.eq_1 <| xg zoi.eq_1 <| @ex_of T _ _ zoj.eq_1
def z2z := @vd T F.zky zol [0, 0] z05 rfl rfl
theorem z20 : zol.res = [.tmp 4] ∧ zol.rets = [[4]] ∧ zol.body = (.seq (.reg o_31_1) zoj) := ⟨rfl, rfl, rfl⟩
def z21 := rg o_42_1.eq_1 <| rg o_42_2.eq_1 <| @ex_of T _ _ c_42_3.eq_1
def z22 := @vd T F.zk4 zon [0, 0] z06 rfl rfl
theorem z23 : zon.res = [.tmp 4] ∧ zon.rets = [[]] ∧ zon.body = (.seq (.reg o_42_1) c_42_3) := ⟨rfl, rfl, rfl⟩
def z24 := rg o_44_1.eq_1 <| rg o_44_2.eq_1 <| @ex_of T _ _ c_44_3.eq_1
def z25 := @vd T F.zk9 zop [0] z07 rfl rfl
theorem z26 : zop.res = [.tmp 2] ∧ zop.rets = [[]] ∧ zop.body = (.seq (.reg o_44_1) c_44_3) := ⟨rfl, rfl, rfl⟩
def z27 := rg o_45_1.eq_1 <| rg o_45_2.eq_1 <| @ex_of T _ _ c_45_3.eq_1
def z28 := @vi T F.zlt zor z08 rfl
theorem z29 {n : Nat} {H : Hp} {vs : List V} : (orc T (n + 1)).inl F.zlt vs H = finI H.length false [.tmp 3] (unw T (orc T n) n H.length [] (exec T (orc T n) n H.length (.seq (.reg o_45_1) c_45_3) (params 0 vs) H)) := by rw [zhz, z08, y6, zhx]; rfl
def z3a := rg o_46_1.eq_1 <| rg o_46_2.eq_1 <| @ex_of T _ _ c_46_3.eq_1
def z3b := @vd T F.zka zot [0, 0] z09 rfl rfl
theorem z3c : zot.res = [.tmp 4] ∧ zot.rets = [[]] ∧ zot.body = (.seq (.reg o_46_1) c_46_3) := ⟨rfl, rfl, rfl⟩
def z3d := rg o_47_1.eq_1 <| rg o_47_2.eq_1 <| @ex_of T _ _ c_47_3.eq_1
def z3e := @vi T F.zlu zov z1a rfl
theorem z3f {n : Nat} {H : Hp} {vs : List V} : (orc T (n + 1)).inl F.zlu vs H = finI H.length false [.tmp 4] (unw T (orc T n) n H.length [] (exec T (orc T n) n H.length (.seq (.reg o_47_1) c_47_3) (params 0 vs) H)) := by rw [zhz, z1a, y6, zhx]; rfl
def z3g := rg o_48_1.eq_1 <| rg o_48_2.eq_1 <| rg o_48_3.eq_1 <| xg c_48_4.eq_1 <| rg o_48_5.eq_1 <| xg c_48_6.eq_1 <| xg c_48_7.eq_1 <| rg o_48_8.eq_1 <| xg c_48_9.eq_1 <| xg zow.eq_1 <| @ex_of T _ _ zox.eq_1
def z3h := @vd T F.zkc zoz [0, 0] z1b rfl rfl
theorem z3i : zoz.res = [.tmp 4] ∧ zoz.rets = [[]] ∧ zoz.body = (.seq (.reg o_48_1) zox) := ⟨rfl, rfl, rfl⟩
def z3j := rg o_49_1.eq_1 <| rg o_49_2.eq_1 <| rg o_49_3.eq_1 <| xg c_49_4.eq_1 <| rg o_49_5.eq_1 <| xg c_49_6.eq_1 <| xg c_49_7.eq_1 <| rg o_49_8.eq_1 <| xg c_49_9.eq_1 <| xg zo0.eq_1 <| @ex_of T _ _ zo1.eq_1
def z3k := @vd T F.zke zo3 [0, 0] z1c rfl rfl
theorem z3l : zo3.res = [.tmp 4] ∧ zo3.rets = [[]] ∧ zo3.body = (.seq (.reg o_49_1) zo1) := ⟨rfl, rfl, rfl⟩
def z3m := rg o_50_1.eq_1 <| rg o_50_2.eq_1 <| rg o_50_3.eq_1 <| xg c_50_4.eq_1 <| rg o_50_5.eq_1 <| xg c_50_6.eq_1 <| @ex_of T _ _ c_50_7.eq_1
def z3n := @vd T F.zkf zo5 [0] z1d rfl rfl
theorem z3o : zo5.res = [.tmp 2] ∧ zo5.rets = [[2]] ∧ zo5.body = (.seq (.reg o_50_1) c_50_7) := ⟨rfl, rfl, rfl⟩
def z3p := rg o_52_1.eq_1 <| rg o_52_2.eq_1 <| rg o_52_3.eq_1 <| xg c_52_4.eq_1 <| rg o_52_5.eq_1 <| rg o_52_6.eq_1 <| rg o_52_7.eq_1 <| rg o_52_8.eq_1 <| xg c_52_9.eq_1 <| rg zo6.eq_1 <| rg zo7.eq_1 <| rg zo8.eq_1 <| xg zo9.eq_1 <| rg zpa.eq_1 <| rg zpb.eq_1 <| rg zpc.eq_1 <| rg zpd.eq_1 <| rg zpe.eq_1 <| xg zpf.eq_1 <| xg zpg.eq_1 <| xg zph.eq_1 <| xg zpi.eq_1 <| xg zpj.eq_1 <| rg zpk.eq_1 <| xg zpl.eq_1 <| xg zpm.eq_1 <| xg zpn.eq_1 <| @ex_of T _ _ zpo.eq_1
def z3q := @vd T F.zj3 zpq [0] z1e rfl rfl
theorem z3r : zpq.res = [.tmp 2] ∧ zpq.rets = [[]] ∧ zpq.body = (.seq (.reg o_52_1) zpo) := ⟨rfl, rfl, rfl⟩
def z3s := rg o_53_1.eq_1 <| rg o_53_2.eq_1 <| rg o_53_3.eq_1 <| rg o_53_4.eq_1 <| rg o_53_5.eq_1 <| rg o_53_6.eq_1 <| xg c_53_7.eq_1 <| xg c_53_8.eq_1 <| rg o_53_9.eq_1 <| xg zpr.eq_1 <| xg zps.eq_1 <| xg zpt.eq_1 <| xg zpu.eq_1 <| xg zpv.eq_1 <| rg zpw.eq_1 <| xg zpx.eq_1 <| @ex_of T _ _ zpy.eq_1
def z3t := @vd T F.zj6 zp0 [0] z1f rfl rfl
theorem z3u : zp0.res = [.tmp 2] ∧ zp0.rets = [[]] ∧ zp0.body = (.seq (.reg o_53_1) zpy) := ⟨rfl, rfl, rfl⟩
def z3v := rg o_54_1.eq_1 <| rg o_54_2.eq_1 <| @ex_of T _ _ c_54_3.eq_1
def z3w := @vd T F.zlc zp2 [0] z1g rfl rfl
theorem z3x : zp2.res = [.tmp 2] ∧ zp2.rets = [[]] ∧ zp2.body = (.seq (.reg o_54_1) c_54_3) := ⟨rfl, rfl, rfl⟩
def z3y := rg o_55_1.eq_1 <| rg o_55_2.eq_1 <| rg o_55_3.eq_1 <| rg o_55_4.eq_1 <| rg o_55_5.eq_1 <| rg o_55_6.eq_1 <| rg o_55_7.eq_1 <| rg o_55_8.eq_1 <| rg o_55_9.eq_1 <| xg zp3.eq_1 <| rg zp4.eq_1 <| xg zp5.eq_1 <| xg zp6.eq_1 <| xg zp7.eq_1 <| xg zp8.eq_1 <| xg zp9.eq_1 <| rg zqa.eq_1 <| rg zqb.eq_1 <| rg zqc.eq_1 <| xg zqd.eq_1 <| rg zqe.eq_1 <| rg zqf.eq_1 <| rg zqg.eq_1 <| xg zqh.eq_1 <| rg zqi.eq_1 <| rg zqj.eq_1 <| rg zqk.eq_1 <| xg zql.eq_1 <| xg zqm.eq_1 <| xg zqn.eq_1 <| xg zqo.eq_1 <| rg zqp.eq_1 <| xg zqq.eq_1 <| xg zqr.eq_1 <| @ex_of T _ _ zqs.eq_1
def z3z := @vd T F.zlo zqu [0, 0] z1h rfl rfl
theorem z30 : zqu.res = [.cell 4 4 true, .tmp 5] ∧ zqu.rets = [[], []] ∧ zqu.body = (.seq (.reg o_55_1) zqs) := ⟨rfl, rfl, rfl⟩
def z31 := rg o_56_1.eq_1 <| rg o_56_2.eq_1 <| rg o_56_3.eq_1 <| rg o_56_4.eq_1 <| rg o_56_5.eq_1 <| rg o_56_6.eq_1 <| rg o_56_7.eq_1 <| xg c_56_8.eq_1 <| xg c_56_9.eq_1 <| xg zqv.eq_1 <| rg zqw.eq_1 <| xg zqx.eq_1 <| xg zqy.eq_1 <| xg zqz.eq_1 <| xg zq0.eq_1 <| xg zq1.eq_1 <| rg zq2.eq_1 <| rg zq3.eq_1 <| rg zq4.eq_1 <| rg zq5.eq_1 <| rg zq6.eq_1 <| xg zq7.eq_1 <| rg zq8.eq_1 <| xg zq9.eq_1 <| xg zra.eq_1 <| xg zrb.eq_1 <| xg zrc.eq_1 <| xg zrd.eq_1 <| rg zre.eq_1 <| xg zrf.eq_1 <| xg zrg.eq_1 <| xg zrh.eq_1 <| xg zri.eq_1 <| @ex_of T _ _ zrj.eq_1
def z32 := @vd T F.zkp zrl [0] z1i rfl rfl
theorem z33 : zrl.res = [.tmp 2] ∧ zrl.rets = [[2]] ∧ zrl.body = (.seq (.reg o_56_1) zrj) := ⟨rfl, rfl, rfl⟩
def z34 := rg o_57_1.eq_1 <| rg o_57_2.eq_1 <| rg o_57_3.eq_1 <| xg c_57_4.eq_1 <| rg o_57_5.eq_1 <| rg o_57_6.eq_1 <| rg o_57_7.eq_1 <| rg o_57_8.eq_1 <| rg o_57_9.eq_1 <| xg zrm.eq_1 <| xg zrn.eq_1 <| rg zro.eq_1 <| xg zrp.eq_1 <| xg zrq.eq_1 <| xg zrr.eq_1 <| xg zrs.eq_1 <| xg zrt.eq_1 <| rg zru.eq_1 <| xg zrv.eq_1 <| xg zrw.eq_1 <| @ex_of T _ _ zrx.eq_1
def z35 := @vd T F.zk6 zrz [0, 0] z1j rfl rfl
theorem z36 : zrz.res = [.tmp 4] ∧ zrz.rets = [[]] ∧ zrz.body = (.seq (.reg o_57_1) zrx) := ⟨rfl, rfl, rfl⟩
def z37 := rg o_67_1.eq_1 <| rg o_67_2.eq_1 <| rg o_67_3.eq_1 <| rg o_67_4.eq_1 <| xg c_67_5.eq_1 <| rg o_67_6.eq_1 <| rg o_67_7.eq_1 <| xg c_67_8.eq_1 <| rg o_67_9.eq_1 <| rg zr0.eq_1 <| rg zr1.eq_1 <| rg zr2.eq_1 <| xg zr3.eq_1 <| xg zr4.eq_1 <| xg zr5.eq_1 <| rg zr6.eq_1 <| xg zr7.eq_1 <| xg zr8.eq_1 <| xg zr9.eq_1 <| xg zsa.eq_1 <| rg zsb.eq_1 <| rg zsc.eq_1 <| xg zsd.eq_1 <| xg zse.eq_1 <| xg zsf.eq_1 <| xg zsg.eq_1 <| @ex_of T _ _ zsh.eq_1
def z38 := @vi T F.zlv zsj z1k rfl
theorem z39 {n : Nat} {H : Hp} {vs : List V} : (orc T (n + 1)).inl F.zlv vs H = finI H.length true [.tmp 4] (unw T (orc T n) n H.length [] (exec T (orc T n) n H.length (.seq (.reg o_67_1) zsh) (params 0 vs) H)) := by rw [zhz, z1k, y6, zhx]; rfl
def z4a := rg o_68_1.eq_1 <| rg o_68_2.eq_1 <| rg o_68_3.eq_1 <| xg c_68_4.eq_1 <| rg o_68_5.eq_1 <| xg c_68_6.eq_1 <| @ex_of T _ _ c_68_7.eq_1
def z4b := @vd T F.zkq zsl [0] z1l rfl rfl
theorem z4c : zsl.res = [.tmp 2] ∧ zsl.rets = [[4]] ∧ zsl.body = (.seq (.reg o_68_1) c_68_7) := ⟨rfl, rfl, rfl⟩
def z4d := rg o_69_1.eq_1 <| rg o_69_2.eq_1 <| @ex_of T _ _ c_69_3.eq_1
def z4e := @vi T F.zlw zsn z1m rfl
theorem z4f {n : Nat} {H : Hp} {vs : List V} : (orc T (n + 1)).inl F.zlw vs H = finI H.length false [.tmp 3] (unw T (orc T n) n H.length [] (exec T (orc T n) n H.length (.seq (.reg o_69_1) c_69_3) (params 0 vs) H)) := by rw [zhz, z1m, y6, zhx]; rfl
def z4g := rg o_70_1.eq_1 <| rg o_70_2.eq_1 <| rg o_70_3.eq_1 <| rg o_70_4.eq_1 <| rg o_70_5.eq_1 <| rg o_70_6.eq_1 <| xg c_70_7.eq_1 <| xg c_70_8.eq_1 <| rg o_70_9.eq_1 <| xg zso.eq_1 <| xg zsp.eq_1 <| xg zsq.eq_1 <| xg zsr.eq_1 <| xg zss.eq_1 <| rg zst.eq_1 <| xg zsu.eq_1 <| @ex_of T _ _ zsv.eq_1
def z4h := @vi T F.zlx zsx z1n rfl
theorem z4i {n : Nat} {H : Hp} {vs : List V} : (orc T (n + 1)).inl F.zlx vs H = finI H.length false [.tmp 4] (unw T (orc T n) n H.length [] (exec T (orc T n) n H.length (.seq (.reg o_70_1) zsv) (params 0 vs) H)) := by rw [zhz, z1n, y6, zhx]; rfl
def z4j := rg o_71_1.eq_1 <| rg o_71_2.eq_1 <| @ex_of T _ _ c_71_3.eq_1
def z4k := @vi T F.zly zsz z1o rfl
theorem z4l {n : Nat} {H : Hp} {vs : List V} : (orc T (n + 1)).inl F.zly vs H = finI H.length false [.tmp 3] (unw T (orc T n) n H.length [] (exec T (orc T n) n H.length (.seq (.reg o_71_1) c_71_3) (params 0 vs) H)) := by rw [zhz, z1o, y6, zhx]; rfl
def z4m := @vd T F.zkr zs0 [4, 0, 4] z1p rfl rfl
theorem z4n : zs0.res = [.tmp 6] ∧ zs0.rets = [[4]] ∧ zs0.body = .fail := ⟨rfl, rfl, rfl⟩
def z4o := rg o_79_1.eq_1 <| rg o_79_2.eq_1 <| rg o_79_3.eq_1 <| xg c_79_4.eq_1 <| rg o_79_5.eq_1 <| rg o_79_6.eq_1 <| rg o_79_7.eq_1 <| rg o_79_8.eq_1 <| rg o_79_9.eq_1 <| xg zs1.eq_1 <| xg zs2.eq_1 <| rg zs3.eq_1 <| xg zs4.eq_1 <| xg zs5.eq_1 <| xg zs6.eq_1 <| xg zs7.eq_1 <| xg zs8.eq_1 <| rg zs9.eq_1 <| xg zta.eq_1 <| xg ztb.eq_1 <| @ex_of T _ _ ztc.eq_1
def z4p := @vd T F.zk3 zte [0, 0] z1q rfl rfl
theorem z4q : zte.res = [.tmp 4] ∧ zte.rets = [[]] ∧ zte.body = (.seq (.reg o_79_1) ztc) := ⟨rfl, rfl, rfl⟩
def z4r := rg o_94_1.eq_1 <| rg o_94_2.eq_1 <| @ex_of T _ _ c_94_3.eq_1
def z4s := @vi T F.zlz ztg z1r rfl
theorem z4t {n : Nat} {H : Hp} {vs : List V} : (orc T (n + 1)).inl F.zlz vs H = finI H.length false [.tmp 3] (unw T (orc T n) n H.length [] (exec T (orc T n) n H.length (.seq (.reg o_94_1) c_94_3) (params 0 vs) H)) := by rw [zhz, z1r, y6, zhx]; rfl
def z4u := rg o_95_1.eq_1 <| rg o_95_2.eq_1 <| @ex_of T _ _ c_95_3.eq_1
def z4v := @vi T F.zl0 zti z1s rfl
theorem z4w {n : Nat} {H : Hp} {vs : List V} : (orc T (n + 1)).inl F.zl0 vs H = finI H.length false [.tmp 4] (unw T (orc T n) n H.length [] (exec T (orc T n) n H.length (.seq (.reg o_95_1) c_95_3) (params 0 vs) H)) := by rw [zhz, z1s, y6, zhx]; rfl
def z4x := rg o_96_1.eq_1 <| rg o_96_2.eq_1 <| @ex_of T _ _ c_96_3.eq_1
def z4y := @vd T F.zjy ztk [0] z1t rfl rfl
theorem z4z : ztk.res = [.tmp 2] ∧ ztk.rets = [[]] ∧ ztk.body = (.seq (.reg o_96_1) c_96_3) := ⟨rfl, rfl, rfl⟩
def z40 := rg o_97_1.eq_1 <| rg o_97_2.eq_1 <| @ex_of T _ _ c_97_3.eq_1
def z41 := @vd T F.zjx ztm [0] z1u rfl rfl
theorem z42 : ztm.res = [.tmp 2] ∧ ztm.rets = [[]] ∧ ztm.body = (.seq (.reg o_97_1) c_97_3) := ⟨rfl, rfl, rfl⟩
def z43 := rg o_98_1.eq_1 <| rg o_98_2.eq_1 <| rg o_98_3.eq_1 <| rg o_98_4.eq_1 <| xg c_98_5.eq_1 <| rg o_98_6.eq_1 <| rg o_98_7.eq_1 <| xg c_98_8.eq_1 <| rg o_98_9.eq_1 <| xg ztn.eq_1 <| rg zto.eq_1 <| xg ztp.eq_1 <| xg ztq.eq_1 <| xg ztr.eq_1 <| xg zts.eq_1 <| rg ztt.eq_1 <| xg ztu.eq_1 <| xg ztv.eq_1 <| @ex_of T _ _ ztw.eq_1
def z44 := @vd T F.zj0 zty [0, 0] z1v rfl rfl
theorem z45 : zty.res = [.tmp 4] ∧ zty.rets = [[]] ∧ zty.body = (.seq (.reg o_98_1) ztw) := ⟨rfl, rfl, rfl⟩
def z46 := rg o_99_1.eq_1 <| rg o_99_2.eq_1 <| @ex_of T _ _ c_99_3.eq_1
def z47 := @vd T F.zj4 zt0 [0] z1w rfl rfl
theorem z48 : zt0.res = [.tmp 2] ∧ zt0.rets = [[]] ∧ zt0.body = (.seq (.reg o_99_1) c_99_3) := ⟨rfl, rfl, rfl⟩
def z49 := rg zt1.eq_1 <| rg zt2.eq_1 <| And.intro (@dr_of T _ _ [(10, 13), (18, 21)] zt2.eq_1 (by decide)) <| @ex_of T _ _ zt3.eq_1
def z5a := @vd T F.zlb zt5 [0] z1x rfl rfl
theorem z5b : zt5.res = [.tmp 2] ∧ zt5.rets = [[]] ∧ zt5.body = (.seq (.reg zt1) zt3) := ⟨rfl, rfl, rfl⟩
def z5c := rg zt6.eq_1 <| rg zt7.eq_1 <| rg zt8.eq_1 <| rg zt9.eq_1 <| rg zua.eq_1 <| rg zub.eq_1 <| rg zuc.eq_1 <| xg zud.eq_1 <| rg zue.eq_1 <| rg zuf.eq_1 <| rg zug.eq_1 <| xg zuh.eq_1 <| xg zui.eq_1 <| xg zuj.eq_1 <| xg zuk.eq_1 <| rg zul.eq_1 <| xg zum.eq_1 <| xg zun.eq_1 <| @ex_of T _ _ zuo.eq_1
def z5d := @vd T F.zld zuq [0, 0] z1y rfl rfl
theorem z5e : zuq.res = [.cell 4 4 true, .tmp 5] ∧ zuq.rets = [[], []] ∧ zuq.body = (.seq (.reg zt6) zuo) := ⟨rfl, rfl, rfl⟩
def z5f := rg zur.eq_1 <| rg zus.eq_1 <| rg zut.eq_1 <| rg zuu.eq_1 <| rg zuv.eq_1 <| rg zuw.eq_1 <| And.intro (@df_of T _ _ [(4, 2)] zuw.eq_1) <| rg zux.eq_1 <| xg zuy.eq_1 <| rg zuz.eq_1 <| rg zu0.eq_1 <| xg zu1.eq_1 <| rg zu2.eq_1 <| rg zu3.eq_1 <| rg zu4.eq_1 <| xg zu5.eq_1 <| xg zu6.eq_1 <| xg zu7.eq_1 <| xg zu8.eq_1 <| rg zu9.eq_1 <| rg zva.eq_1 <| rg zvb.eq_1 <| xg zvc.eq_1 <| rg zvd.eq_1 <| rg zve.eq_1 <| rg zvf.eq_1 <| xg zvg.eq_1 <| xg zvh.eq_1 <| xg zvi.eq_1 <| xg zvj.eq_1 <| xg zvk.eq_1 <| xg zvl.eq_1 <| @ex_of T _ _ zvm.eq_1
def z5g := @vd T F.zlf zvo [0, 0] z1z rfl rfl
theorem z5h : zvo.res = [.cell 4 4 true, .tmp 5] ∧ zvo.rets = [[], []] ∧ zvo.body = (.seq (.reg zur) zvm) := ⟨rfl, rfl, rfl⟩
def z5i := rg zvp.eq_1 <| rg zvq.eq_1 <| rg zvr.eq_1 <| rg zvs.eq_1 <| rg zvt.eq_1 <| xg zvu.eq_1 <| xg zvv.eq_1 <| rg zvw.eq_1 <| xg zvx.eq_1 <| xg zvy.eq_1 <| rg zvz.eq_1 <| rg zv0.eq_1 <| xg zv1.eq_1 <| rg zv2.eq_1 <| rg zv3.eq_1 <| rg zv4.eq_1 <| rg zv5.eq_1 <| rg zv6.eq_1 <| rg zv7.eq_1 <| And.intro (@dr_of T _ _ [(1, 6), (3, 6)] zv7.eq_1 (by decide)) <| rg zv8.eq_1 <| rg zv9.eq_1 <| xg zwa.eq_1 <| rg zwb.eq_1 <| xg zwc.eq_1 <| xg zwd.eq_1 <| xg zwe.eq_1 <| xg zwf.eq_1 <| xg zwg.eq_1 <| rg zwh.eq_1 <| xg zwi.eq_1 <| xg zwj.eq_1 <| xg zwk.eq_1 <| xg zwl.eq_1 <| @ex_of T _ _ zwm.eq_1
def z5j := @vd T F.zll zwo [0, 0] z10 rfl rfl
theorem z5k : zwo.res = [.cell 4 4 true, .tmp 5] ∧ zwo.rets = [[], []] ∧ zwo.body = (.seq (.reg zvp) zwm) := ⟨rfl, rfl, rfl⟩
def z5l := rg zwp.eq_1 <| rg zwq.eq_1 <| rg zwr.eq_1 <| rg zws.eq_1 <| rg zwt.eq_1 <| rg zwu.eq_1 <| rg zwv.eq_1 <| rg zww.eq_1 <| rg zwx.eq_1 <| And.intro (@df_of T _ _ [(0, 5)] zwx.eq_1) <| rg zwy.eq_1 <| rg zwz.eq_1 <| xg zw0.eq_1 <| xg zw1.eq_1 <| xg zw2.eq_1 <| xg zw3.eq_1 <| xg zw4.eq_1 <| rg zw5.eq_1 <| And.intro (@dr_of T _ _ [(7, 4)] zw5.eq_1 (by decide)) <| rg zw6.eq_1 <| rg zw7.eq_1 <| rg zw8.eq_1 <| xg zw9.eq_1 <| rg zxa.eq_1 <| rg zxb.eq_1 <| xg zxc.eq_1 <| xg zxd.eq_1 <| xg zxe.eq_1 <| xg zxf.eq_1 <| xg zxg.eq_1 <| @ex_of T _ _ zxh.eq_1
def z5m := @vd T F.zln zxj [0, 0] z11 rfl rfl
theorem z5n : zxj.res = [.cell 4 4 true, .tmp 5] ∧ zxj.rets = [[], []] ∧ zxj.body = (.seq (.reg zwp) zxh) := ⟨rfl, rfl, rfl⟩
def z5o := rg zxk.eq_1 <| rg zxl.eq_1 <| xg zxm.eq_1 <| rg zxn.eq_1 <| rg zxo.eq_1 <| rg zxp.eq_1 <| xg zxq.eq_1 <| xg zxr.eq_1 <| rg zxs.eq_1 <| xg zxt.eq_1 <| xg zxu.eq_1 <| @ex_of T _ _ zxv.eq_1
def z5p := @vi T F.zl1 zxx z12 rfl
theorem z5q {n : Nat} {H : Hp} {vs : List V} : (orc T (n + 1)).inl F.zl1 vs H = finI H.length false [.tmp 4] (unw T (orc T n) n H.length [] (exec T (orc T n) n H.length (.seq (.reg zxk) zxv) (params 0 vs) H)) := by rw [zhz, z12, y6, zhx]; rfl
def z5r := rg zxy.eq_1 <| rg zxz.eq_1 <| rg zx0.eq_1 <| rg zx1.eq_1 <| rg zx2.eq_1 <| rg zx3.eq_1 <| xg zx4.eq_1 <| xg zx5.eq_1 <| rg zx6.eq_1 <| xg zx7.eq_1 <| xg zx8.eq_1 <| xg zx9.eq_1 <| xg zya.eq_1 <| xg zyb.eq_1 <| rg zyc.eq_1 <| xg zyd.eq_1 <| @ex_of T _ _ zye.eq_1
def z5s := @vi T F.zl2 zyg z13 rfl
theorem z5t {n : Nat} {H : Hp} {vs : List V} : (orc T (n + 1)).inl F.zl2 vs H = finI H.length false [.tmp 4] (unw T (orc T n) n H.length [] (exec T (orc T n) n H.length (.seq (.reg zxy) zye) (params 0 vs) H)) := by rw [zhz, z13, y6, zhx]; rfl
def z5u := rg zyh.eq_1 <| rg zyi.eq_1 <| rg zyj.eq_1 <| rg zyk.eq_1 <| xg zyl.eq_1 <| rg zym.eq_1 <| rg zyn.eq_1 <| rg zyo.eq_1 <| rg zyp.eq_1 <| xg zyq.eq_1 <| xg zyr.eq_1 <| xg zys.eq_1 <| xg zyt.eq_1 <| xg zyu.eq_1 <| @ex_of T _ _ zyv.eq_1
def z5v := @vd T F.zle zyx [2, 0, 0] z14 rfl rfl
theorem z5w : zyx.res = [.tmp 6] ∧ zyx.rets = [[2]] ∧ zyx.body = (.seq (.reg zyh) zyv) := ⟨rfl, rfl, rfl⟩
def z5x := rg zyy.eq_1 <| rg zyz.eq_1 <| rg zy0.eq_1 <| rg zy1.eq_1 <| xg zy2.eq_1 <| xg zy3.eq_1 <| rg zy4.eq_1 <| xg zy5.eq_1 <| @ex_of T _ _ zy6.eq_1
def z5y := @vd T F.zli zy8 [0, 0] z15 rfl rfl
theorem z5z : zy8.res = [.tmp 4] ∧ zy8.rets = [[]] ∧ zy8.body = (.seq (.reg zyy) zy6) := ⟨rfl, rfl, rfl⟩
def z50 := rg zy9.eq_1 <| rg zza.eq_1 <| rg zzb.eq_1 <| xg zzc.eq_1 <| rg zzd.eq_1 <| xg zze.eq_1 <| xg zzf.eq_1 <| rg zzg.eq_1 <| xg zzh.eq_1 <| xg zzi.eq_1 <| @ex_of T _ _ zzj.eq_1
def z51 := @vd T F.zlh zzl [0, 0] z16 rfl rfl
theorem z52 : zzl.res = [.tmp 4, .tmp 5] ∧ zzl.rets = [[], []] ∧ zzl.body = (.seq (.reg zy9) zzj) := ⟨rfl, rfl, rfl⟩
def z53 := rg zzm.eq_1 <| rg zzn.eq_1 <| rg zzo.eq_1 <| rg zzp.eq_1 <| rg zzq.eq_1 <| rg zzr.eq_1 <| xg zzs.eq_1 <| xg zzt.eq_1 <| rg zzu.eq_1 <| rg zzv.eq_1 <| xg zzw.eq_1 <| xg zzx.eq_1 <| rg zzy.eq_1 <| xg zzz.eq_1 <| xg zz0.eq_1 <| @ex_of T _ _ zz1.eq_1
def z54 := @vd T F.zlk zz3 [0, 0, 0] z17 rfl rfl
theorem z55 : zz3.res = [.tmp 6, .tmp 7] ∧ zz3.rets = [[], []] ∧ zz3.body = (.seq (.reg zzm) zz1) := ⟨rfl, rfl, rfl⟩
def z56 := rg zz4.eq_1 <| rg zz5.eq_1 <| rg zz6.eq_1 <| xg zz7.eq_1 <| rg zz8.eq_1 <| rg zz9.eq_1 <| And.intro (@dr_of T _ _ [(5, 3)] zz9.eq_1 (by decide)) <| rg z0a.eq_1 <| rg z0b.eq_1 <| rg z0c.eq_1 <| rg z0d.eq_1 <| xg z0e.eq_1 <| xg z0f.eq_1 <| rg z0g.eq_1 <| rg z0h.eq_1 <| rg z0i.eq_1 <| xg z0j.eq_1 <| rg z0k.eq_1 <| rg z0l.eq_1 <| xg z0m.eq_1 <| xg z0n.eq_1 <| xg z0o.eq_1 <| xg z0p.eq_1 <| xg z0q.eq_1 <| xg z0r.eq_1 <| xg z0s.eq_1 <| @ex_of T _ _ z0t.eq_1
def z57 := @vd T F.zlm z0v [0, 0] z18 rfl rfl
theorem z58 : z0v.res = [.cell 4 4 true, .tmp 5] ∧ z0v.rets = [[], []] ∧ z0v.body = (.seq (.reg zz4) z0t) := ⟨rfl, rfl, rfl⟩
def z59 := @vd T F.zlj z0w [2, 0, 2] z19 rfl rfl
theorem z6a : z0w.res = [.tmp 6] ∧ z0w.rets = [[2]] ∧ z0w.body = .fail := ⟨rfl, rfl, rfl⟩
end Go.Dvm.C
