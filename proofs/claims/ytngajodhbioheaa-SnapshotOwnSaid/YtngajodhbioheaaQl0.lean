/- What each piece of the code comes to: part 1. -/
import Derived.Test.YtngajodhbioheaaQc0
set_option linter.all false
set_option maxRecDepth 100000
set_option maxHeartbeats 4000000
namespace Go.Dvm.C
open Go Go.Dvm
def ke := And.intro @Ow.enc.eq_1 <| And.intro @Sl.enc.eq_1 <| And.intro @I.zjm.enc.eq_1 <| And.intro @I.zjn.enc.eq_1 <| And.intro @I.zjo.enc.eq_1 <| And.intro @I.zjp.enc.eq_1 <| And.intro @I.zjr.enc.eq_1 <| And.intro @I.zjq.enc.eq_1 <| And.intro @arrEnc.eq_1 <| @I.zjs.enc.eq_1
def kf := And.intro @ke @kn
def tab : List (Nat × MFun) := [(12, znq), (18, zns), (22, znu), (23, zob), (25, zod), (28, zof), (31, zoj), (37, zoz), (42, zo1), (44, zo3), (50, zo5), (52, zpq), (53, zp0), (54, zp2), (55, zqu), (57, zq8), (62, zra), (63, zrc), (67, zrw), (68, zry), (69, zr0), (70, zsa), (71, zsc), (72, zsd), (79, zsr), (80, zs3), (81, zs5), (82, zs7), (83, zs9), (84, ztb), (91, zt2), (95, zt4), (96, zt6), (97, zt8), (98, zuk), (99, zum), (100, zur), (101, zvc), (102, zwa), (103, zxa), (104, zx5), (109, zya), (116, zyn), (117, zys), (134, zzf), (135, zzy), (136, z0j), (142, z0x), (145, z1g), (146, z1x), (147, z18), (148, z2l), (149, z23), (150, z3v), (166, z34), (167, z41), (169, z42)]
abbrev T : Nat → Option MFun := look tab
theorem z43 : T F.zmq = some znq := rfl
theorem z44 : T F.zkl = some zns := rfl
theorem z45 : T F.zj3 = some znu := rfl
theorem z46 : T F.zmr = some zob := rfl
theorem z47 : T F.zkj = some zod := rfl
theorem z48 : T F.zlx = some zof := rfl
theorem z49 : T F.zkd = some zoj := rfl
theorem z5a : T F.zlt = some zoz := rfl
theorem z5b : T F.zkg = some zo1 := rfl
theorem z5c : T F.zkk = some zo3 := rfl
theorem z5d : T F.zj4 = some zo5 := rfl
theorem z5e : T F.zjz = some zpq := rfl
theorem z5f : T F.zj2 = some zp0 := rfl
theorem z5g : T F.zkn = some zp2 := rfl
theorem z5h : T F.zkz = some zqu := rfl
theorem z5i : T F.zki = some zq8 := rfl
theorem z5j : T F.zle = some zra := rfl
theorem z5k : T F.zlk = some zrc := rfl
theorem z5l : T F.zms = some zrw := rfl
theorem z5m : T F.zj5 = some zry := rfl
theorem z5n : T F.zmt = some zr0 := rfl
theorem z5o : T F.zmu = some zsa := rfl
theorem z5p : T F.zmv = some zsc := rfl
theorem z5q : T F.zj6 = some zsd := rfl
theorem z5r : T F.zkf = some zsr := rfl
theorem z5s : T F.zlp = some zs3 := rfl
theorem z5t : T F.zlc = some zs5 := rfl
theorem z5u : T F.zlq = some zs7 := rfl
theorem z5v : T F.zk8 = some zs9 := rfl
theorem z5w : T F.zk5 = some ztb := rfl
theorem z5x : T F.zlj = some zt2 := rfl
theorem z5y : T F.zmw = some zt4 := rfl
theorem z5z : T F.zju = some zt6 := rfl
theorem z50 : T F.zjt = some zt8 := rfl
theorem z51 : T F.zjw = some zuk := rfl
theorem z52 : T F.zj0 = some zum := rfl
theorem z53 : T F.zkm = some zur := rfl
theorem z54 : T F.zko = some zvc := rfl
theorem z55 : T F.zkq = some zwa := rfl
theorem z56 : T F.zkw = some zxa := rfl
theorem z57 : T F.zky = some zx5 := rfl
theorem z58 : T F.zk9 = some zya := rfl
theorem z59 : T F.zlb = some zyn := rfl
theorem z6a : T F.zld = some zys := rfl
theorem z6b : T F.zln = some zzf := rfl
theorem z6c : T F.zk7 = some zzy := rfl
theorem z6d : T F.zk4 = some z0j := rfl
theorem z6e : T F.zmx = some z0x := rfl
theorem z6f : T F.zmy = some z1g := rfl
theorem z6g : T F.zkp = some z1x := rfl
theorem z6h : T F.zkt = some z18 := rfl
theorem z6i : T F.zks = some z2l := rfl
theorem z6j : T F.zkv = some z23 := rfl
theorem z6k : T F.zkx = some z3v := rfl
theorem z6l : T F.zll = some z34 := rfl
theorem z6m : T F.zk2 = some z41 := rfl
theorem z6n : T F.zku = some z42 := rfl
def rg {P : Prop} {c c' : List MO} (h : c = c') (p : P) := ra (T := T) h p
def xg {P : Prop} {c c' : MC} (h : c = c') (p : P) := xa (T := T) h p
def z6o := rg o_12_1.eq_1 <| rg o_12_2.eq_1 <| rg o_12_3.eq_1 <| rg o_12_4.eq_1 <| rg o_12_5.eq_1 <| xg c_12_6.eq_1 <| rg o_12_7.eq_1 <| rg o_12_8.eq_1 <| rg o_12_9.eq_1 <| rg zmz.eq_1 <| xg zm0.eq_1 <| rg zm1.eq_1 <| rg zm2.eq_1 <| xg zm3.eq_1 <| rg zm4.eq_1 <| rg zm5.eq_1 <| xg zm6.eq_1 <| rg zm7.eq_1 <| rg zm8.eq_1 <| xg zm9.eq_1 <| xg zna.eq_1 <| xg znb.eq_1 <| xg znc.eq_1 <| rg znd.eq_1 <| rg zne.eq_1 <| xg znf.eq_1 <| xg zng.eq_1 <| xg znh.eq_1 <| xg zni.eq_1 <| xg znj.eq_1 <| xg znk.eq_1 <| xg znl.eq_1 <| xg znm.eq_1 <| xg znn.eq_1 <| @ex_of T _ _ zno.eq_1
def z6p := @vd T F.zmq znq [0, 0] z43 rfl rfl
theorem z6q : znq.res = [.tmp 4] ∧ znq.rets = [[]] ∧ znq.body = (.seq (.reg o_12_1) zno) := ⟨rfl, rfl, rfl⟩
def z6r := rg o_18_1.eq_1 <| rg o_18_2.eq_1 <| @ex_of T _ _ c_18_3.eq_1
def z6s := @vd T F.zkl zns [0] z44 rfl rfl
theorem z6t : zns.res = [.tmp 2] ∧ zns.rets = [[]] ∧ zns.body = (.seq (.reg o_18_1) c_18_3) := ⟨rfl, rfl, rfl⟩
def z6u := rg o_22_1.eq_1 <| rg o_22_2.eq_1 <| @ex_of T _ _ c_22_3.eq_1
def z6v := @vd T F.zj3 znu [0] z45 rfl rfl
theorem z6w : znu.res = [.tmp 2] ∧ znu.rets = [[]] ∧ znu.body = (.seq (.reg o_22_1) c_22_3) := ⟨rfl, rfl, rfl⟩
def z6x := rg o_23_1.eq_1 <| rg o_23_2.eq_1 <| rg o_23_3.eq_1 <| rg o_23_4.eq_1 <| rg o_23_5.eq_1 <| rg o_23_6.eq_1 <| rg o_23_7.eq_1 <| rg o_23_8.eq_1 <| xg c_23_9.eq_1 <| xg znv.eq_1 <| rg znw.eq_1 <| rg znx.eq_1 <| And.intro (@df_of T _ _ [(1, 6)] znx.eq_1) <| xg zny.eq_1 <| xg znz.eq_1 <| xg zn0.eq_1 <| rg zn1.eq_1 <| xg zn2.eq_1 <| xg zn3.eq_1 <| xg zn4.eq_1 <| xg zn5.eq_1 <| xg zn6.eq_1 <| rg zn7.eq_1 <| xg zn8.eq_1 <| @ex_of T _ _ zn9.eq_1
def z6y := @vi T F.zmr zob z46 rfl
theorem z6z {n : Nat} {H : Hp} {vs : List V} : (orc T (n + 1)).inl F.zmr vs H = finI H.length false [.cell 4 6 true, .tmp 5] (unw T (orc T n) n H.length [] (exec T (orc T n) n H.length (.seq (.reg o_23_1) zn9) (params 0 vs) H)) := by rw [zhv, z46, y4, zht]; rfl
def z60 := rg o_25_1.eq_1 <| rg o_25_2.eq_1 <| @ex_of T _ _ c_25_3.eq_1
def z61 := @vd T F.zkj zod [0, 0] z47 rfl rfl
theorem z62 : zod.res = [.tmp 4] ∧ zod.rets = [[]] ∧ zod.body = (.seq (.reg o_25_1) c_25_3) := ⟨rfl, rfl, rfl⟩
def z63 := rg o_28_1.eq_1 <| rg o_28_2.eq_1 <| rg o_28_3.eq_1 <| rg o_28_4.eq_1 <| xg c_28_5.eq_1 <| xg c_28_6.eq_1 <| @ex_of T _ _ c_28_7.eq_1
def z64 := @vd T F.zlx zof [] z48 rfl rfl
theorem z65 : zof.res = [.tmp 0] ∧ zof.rets = [[]] ∧ zof.body = (.seq (.reg o_28_1) c_28_7) := ⟨rfl, rfl, rfl⟩
def z66 := rg o_31_1.eq_1 <| rg o_31_2.eq_1 <| rg o_31_3.eq_1 <| rg o_31_4.eq_1 <| rg o_31_5.eq_1 <| xg c_31_6.eq_1 <| rg o_31_7.eq_1 <| xg c_31_8.eq_1 <| xg c_31_9.eq_1 <| xg zog.eq_1 <| @ex_of T _ _ zoh.eq_1
def z67 := @vd T F.zkd zoj [0, 0] z49 rfl rfl
theorem z68 : zoj.res = [.tmp 4] ∧ zoj.rets = [[4]] ∧ zoj.body = (.seq (.reg o_31_1) zoh) := ⟨rfl, rfl, rfl⟩
def z69 := rg o_37_1.eq_1 <| rg o_37_2.eq_1 <| rg o_37_3.eq_1 <| xg c_37_4.eq_1 <| rg o_37_5.eq_1 <| rg o_37_6.eq_1 <| And.intro (@df_of T _ _ [(3, 0), (3, 1), (6, 0), (6, 1), (6, 4)] o_37_6.eq_1) <| rg o_37_7.eq_1 <| rg o_37_8.eq_1 <| xg c_37_9.eq_1 <| rg zok.eq_1 <| rg zol.eq_1 <| rg zom.eq_1 <| xg zon.eq_1 <| xg zoo.eq_1 <| xg zop.eq_1 <| xg zoq.eq_1 <| rg zor.eq_1 <| xg zos.eq_1 <| xg zot.eq_1 <| xg zou.eq_1 <| xg zov.eq_1 <| xg zow.eq_1 <| @ex_of T _ _ zox.eq_1
def z7a := @vd T F.zlt zoz [0] z5a rfl rfl
theorem z7b : zoz.res = [.tmp 2, .tmp 3] ∧ zoz.rets = [[2], []] ∧ zoz.body = (.seq (.reg o_37_1) zox) := ⟨rfl, rfl, rfl⟩
def z7c := rg o_42_1.eq_1 <| rg o_42_2.eq_1 <| @ex_of T _ _ c_42_3.eq_1
def z7d := @vd T F.zkg zo1 [0, 0] z5b rfl rfl
theorem z7e : zo1.res = [.tmp 4] ∧ zo1.rets = [[]] ∧ zo1.body = (.seq (.reg o_42_1) c_42_3) := ⟨rfl, rfl, rfl⟩
def z7f := rg o_44_1.eq_1 <| rg o_44_2.eq_1 <| @ex_of T _ _ c_44_3.eq_1
def z7g := @vd T F.zkk zo3 [0] z5c rfl rfl
theorem z7h : zo3.res = [.tmp 2] ∧ zo3.rets = [[]] ∧ zo3.body = (.seq (.reg o_44_1) c_44_3) := ⟨rfl, rfl, rfl⟩
def z7i := rg o_50_1.eq_1 <| rg o_50_2.eq_1 <| rg o_50_3.eq_1 <| xg c_50_4.eq_1 <| rg o_50_5.eq_1 <| xg c_50_6.eq_1 <| @ex_of T _ _ c_50_7.eq_1
def z7j := @vd T F.zj4 zo5 [0] z5d rfl rfl
theorem z7k : zo5.res = [.tmp 2] ∧ zo5.rets = [[2]] ∧ zo5.body = (.seq (.reg o_50_1) c_50_7) := ⟨rfl, rfl, rfl⟩
def z7l := rg o_52_1.eq_1 <| rg o_52_2.eq_1 <| rg o_52_3.eq_1 <| xg c_52_4.eq_1 <| rg o_52_5.eq_1 <| rg o_52_6.eq_1 <| rg o_52_7.eq_1 <| rg o_52_8.eq_1 <| xg c_52_9.eq_1 <| rg zo6.eq_1 <| rg zo7.eq_1 <| rg zo8.eq_1 <| xg zo9.eq_1 <| rg zpa.eq_1 <| rg zpb.eq_1 <| rg zpc.eq_1 <| rg zpd.eq_1 <| rg zpe.eq_1 <| xg zpf.eq_1 <| xg zpg.eq_1 <| xg zph.eq_1 <| xg zpi.eq_1 <| xg zpj.eq_1 <| rg zpk.eq_1 <| xg zpl.eq_1 <| xg zpm.eq_1 <| xg zpn.eq_1 <| @ex_of T _ _ zpo.eq_1
def z7m := @vd T F.zjz zpq [0] z5e rfl rfl
theorem z7n : zpq.res = [.tmp 2] ∧ zpq.rets = [[]] ∧ zpq.body = (.seq (.reg o_52_1) zpo) := ⟨rfl, rfl, rfl⟩
def z7o := rg o_53_1.eq_1 <| rg o_53_2.eq_1 <| rg o_53_3.eq_1 <| rg o_53_4.eq_1 <| rg o_53_5.eq_1 <| rg o_53_6.eq_1 <| xg c_53_7.eq_1 <| xg c_53_8.eq_1 <| rg o_53_9.eq_1 <| xg zpr.eq_1 <| xg zps.eq_1 <| xg zpt.eq_1 <| xg zpu.eq_1 <| xg zpv.eq_1 <| rg zpw.eq_1 <| xg zpx.eq_1 <| @ex_of T _ _ zpy.eq_1
def z7p := @vd T F.zj2 zp0 [0] z5f rfl rfl
theorem z7q : zp0.res = [.tmp 2] ∧ zp0.rets = [[]] ∧ zp0.body = (.seq (.reg o_53_1) zpy) := ⟨rfl, rfl, rfl⟩
def z7r := rg o_54_1.eq_1 <| rg o_54_2.eq_1 <| @ex_of T _ _ c_54_3.eq_1
def z7s := @vd T F.zkn zp2 [0] z5g rfl rfl
theorem z7t : zp2.res = [.tmp 2] ∧ zp2.rets = [[]] ∧ zp2.body = (.seq (.reg o_54_1) c_54_3) := ⟨rfl, rfl, rfl⟩
def z7u := rg o_55_1.eq_1 <| rg o_55_2.eq_1 <| rg o_55_3.eq_1 <| rg o_55_4.eq_1 <| rg o_55_5.eq_1 <| rg o_55_6.eq_1 <| rg o_55_7.eq_1 <| rg o_55_8.eq_1 <| rg o_55_9.eq_1 <| xg zp3.eq_1 <| rg zp4.eq_1 <| xg zp5.eq_1 <| xg zp6.eq_1 <| xg zp7.eq_1 <| xg zp8.eq_1 <| xg zp9.eq_1 <| rg zqa.eq_1 <| rg zqb.eq_1 <| rg zqc.eq_1 <| xg zqd.eq_1 <| rg zqe.eq_1 <| rg zqf.eq_1 <| rg zqg.eq_1 <| xg zqh.eq_1 <| rg zqi.eq_1 <| rg zqj.eq_1 <| rg zqk.eq_1 <| xg zql.eq_1 <| xg zqm.eq_1 <| xg zqn.eq_1 <| xg zqo.eq_1 <| rg zqp.eq_1 <| xg zqq.eq_1 <| xg zqr.eq_1 <| @ex_of T _ _ zqs.eq_1
def z7v := @vd T F.zkz zqu [0, 0] z5h rfl rfl
theorem z7w : zqu.res = [.cell 4 4 true, .tmp 5] ∧ zqu.rets = [[], []] ∧ zqu.body = (.seq (.reg o_55_1) zqs) := ⟨rfl, rfl, rfl⟩
def z7x := rg o_57_1.eq_1 <| rg o_57_2.eq_1 <| rg o_57_3.eq_1 <| xg c_57_4.eq_1 <| rg o_57_5.eq_1 <| rg o_57_6.eq_1 <| rg o_57_7.eq_1 <| rg o_57_8.eq_1 <| rg o_57_9.eq_1 <| xg zqv.eq_1 <| xg zqw.eq_1 <| rg zqx.eq_1 <| xg zqy.eq_1 <| xg zqz.eq_1 <| xg zq0.eq_1 <| xg zq1.eq_1 <| xg zq2.eq_1 <| rg zq3.eq_1 <| xg zq4.eq_1 <| xg zq5.eq_1 <| @ex_of T _ _ zq6.eq_1
def z7y := @vd T F.zki zq8 [0, 0] z5i rfl rfl
theorem z7z : zq8.res = [.tmp 4] ∧ zq8.rets = [[]] ∧ zq8.body = (.seq (.reg o_57_1) zq6) := ⟨rfl, rfl, rfl⟩
def z70 := rg o_62_1.eq_1 <| rg o_62_2.eq_1 <| @ex_of T _ _ c_62_3.eq_1
def z71 := @vd T F.zle zra [2, 0] z5j rfl rfl
theorem z72 : zra.res = [.tmp 4] ∧ zra.rets = [[2]] ∧ zra.body = (.seq (.reg o_62_1) c_62_3) := ⟨rfl, rfl, rfl⟩
def z73 := rg o_63_1.eq_1 <| rg o_63_2.eq_1 <| rg o_63_3.eq_1 <| xg c_63_4.eq_1 <| rg o_63_5.eq_1 <| rg o_63_6.eq_1 <| xg c_63_7.eq_1 <| xg c_63_8.eq_1 <| @ex_of T _ _ c_63_9.eq_1
def z74 := @vd T F.zlk zrc [0] z5k rfl rfl
theorem z75 : zrc.res = [.tmp 2, .tmp 3] ∧ zrc.rets = [[2], []] ∧ zrc.body = (.seq (.reg o_63_1) c_63_9) := ⟨rfl, rfl, rfl⟩
def z76 := rg o_67_1.eq_1 <| rg o_67_2.eq_1 <| rg o_67_3.eq_1 <| rg o_67_4.eq_1 <| xg c_67_5.eq_1 <| rg o_67_6.eq_1 <| rg o_67_7.eq_1 <| xg c_67_8.eq_1 <| rg o_67_9.eq_1 <| rg zrd.eq_1 <| rg zre.eq_1 <| rg zrf.eq_1 <| xg zrg.eq_1 <| xg zrh.eq_1 <| xg zri.eq_1 <| rg zrj.eq_1 <| xg zrk.eq_1 <| xg zrl.eq_1 <| xg zrm.eq_1 <| xg zrn.eq_1 <| rg zro.eq_1 <| rg zrp.eq_1 <| xg zrq.eq_1 <| xg zrr.eq_1 <| xg zrs.eq_1 <| xg zrt.eq_1 <| @ex_of T _ _ zru.eq_1
def z77 := @vi T F.zms zrw z5l rfl
theorem z78 {n : Nat} {H : Hp} {vs : List V} : (orc T (n + 1)).inl F.zms vs H = finI H.length true [.tmp 4] (unw T (orc T n) n H.length [] (exec T (orc T n) n H.length (.seq (.reg o_67_1) zru) (params 0 vs) H)) := by rw [zhv, z5l, y4, zht]; rfl
def z79 := rg o_68_1.eq_1 <| rg o_68_2.eq_1 <| rg o_68_3.eq_1 <| xg c_68_4.eq_1 <| rg o_68_5.eq_1 <| xg c_68_6.eq_1 <| @ex_of T _ _ c_68_7.eq_1
def z8a := @vd T F.zj5 zry [0] z5m rfl rfl
theorem z8b : zry.res = [.tmp 2] ∧ zry.rets = [[4]] ∧ zry.body = (.seq (.reg o_68_1) c_68_7) := ⟨rfl, rfl, rfl⟩
def z8c := rg o_69_1.eq_1 <| rg o_69_2.eq_1 <| @ex_of T _ _ c_69_3.eq_1
def z8d := @vi T F.zmt zr0 z5n rfl
theorem z8e {n : Nat} {H : Hp} {vs : List V} : (orc T (n + 1)).inl F.zmt vs H = finI H.length false [.tmp 3] (unw T (orc T n) n H.length [] (exec T (orc T n) n H.length (.seq (.reg o_69_1) c_69_3) (params 0 vs) H)) := by rw [zhv, z5n, y4, zht]; rfl
def z8f := rg o_70_1.eq_1 <| rg o_70_2.eq_1 <| rg o_70_3.eq_1 <| rg o_70_4.eq_1 <| rg o_70_5.eq_1 <| rg o_70_6.eq_1 <| xg c_70_7.eq_1 <| xg c_70_8.eq_1 <| rg o_70_9.eq_1 <| xg zr1.eq_1 <| xg zr2.eq_1 <| xg zr3.eq_1 <| xg zr4.eq_1 <| xg zr5.eq_1 <| rg zr6.eq_1 <| xg zr7.eq_1 <| @ex_of T _ _ zr8.eq_1
def z8g := @vi T F.zmu zsa z5o rfl
theorem z8h {n : Nat} {H : Hp} {vs : List V} : (orc T (n + 1)).inl F.zmu vs H = finI H.length false [.tmp 4] (unw T (orc T n) n H.length [] (exec T (orc T n) n H.length (.seq (.reg o_70_1) zr8) (params 0 vs) H)) := by rw [zhv, z5o, y4, zht]; rfl
def z8i := rg o_71_1.eq_1 <| rg o_71_2.eq_1 <| @ex_of T _ _ c_71_3.eq_1
def z8j := @vi T F.zmv zsc z5p rfl
theorem z8k {n : Nat} {H : Hp} {vs : List V} : (orc T (n + 1)).inl F.zmv vs H = finI H.length false [.tmp 3] (unw T (orc T n) n H.length [] (exec T (orc T n) n H.length (.seq (.reg o_71_1) c_71_3) (params 0 vs) H)) := by rw [zhv, z5p, y4, zht]; rfl
def z8l := @vd T F.zj6 zsd [4, 0, 4] z5q rfl rfl
theorem z8m : zsd.res = [.tmp 6] ∧ zsd.rets = [[4]] ∧ zsd.body = .fail := ⟨rfl, rfl, rfl⟩
def z8n := rg o_79_1.eq_1 <| rg o_79_2.eq_1 <| rg o_79_3.eq_1 <| xg c_79_4.eq_1 <| rg o_79_5.eq_1 <| rg o_79_6.eq_1 <| rg o_79_7.eq_1 <| rg o_79_8.eq_1 <| rg o_79_9.eq_1 <| xg zse.eq_1 <| xg zsf.eq_1 <| rg zsg.eq_1 <| xg zsh.eq_1 <| xg zsi.eq_1 <| xg zsj.eq_1 <| xg zsk.eq_1 <| xg zsl.eq_1 <| rg zsm.eq_1 <| xg zsn.eq_1 <| xg zso.eq_1 <| @ex_of T _ _ zsp.eq_1
def z8o := @vd T F.zkf zsr [0, 0] z5r rfl rfl
theorem z8p : zsr.res = [.tmp 4] ∧ zsr.rets = [[]] ∧ zsr.body = (.seq (.reg o_79_1) zsp) := ⟨rfl, rfl, rfl⟩
def z8q := rg o_80_1.eq_1 <| rg o_80_2.eq_1 <| rg o_80_3.eq_1 <| And.intro (@df_of T _ _ [(6, 2), (6, 4), (7, 2), (7, 4)] o_80_3.eq_1) <| rg o_80_4.eq_1 <| rg o_80_5.eq_1 <| rg o_80_6.eq_1 <| rg o_80_7.eq_1 <| And.intro (@df_of T _ _ [(5, 3), (8, 3), (8, 6)] o_80_7.eq_1) <| xg c_80_8.eq_1 <| rg o_80_9.eq_1 <| xg zss.eq_1 <| xg zst.eq_1 <| xg zsu.eq_1 <| xg zsv.eq_1 <| xg zsw.eq_1 <| rg zsx.eq_1 <| xg zsy.eq_1 <| xg zsz.eq_1 <| xg zs0.eq_1 <| @ex_of T _ _ zs1.eq_1
def z8r := @vd T F.zlp zs3 [0] z5s rfl rfl
theorem z8s : zs3.res = [.tmp 2] ∧ zs3.rets = [[2]] ∧ zs3.body = (.seq (.reg o_80_1) zs1) := ⟨rfl, rfl, rfl⟩
def z8t := rg o_81_1.eq_1 <| rg o_81_2.eq_1 <| rg o_81_3.eq_1 <| xg c_81_4.eq_1 <| rg o_81_5.eq_1 <| xg c_81_6.eq_1 <| @ex_of T _ _ c_81_7.eq_1
def z8u := @vd T F.zlc zs5 [2, 0] z5t rfl rfl
theorem z8v : zs5.res = [.tmp 4] ∧ zs5.rets = [[2]] ∧ zs5.body = (.seq (.reg o_81_1) c_81_7) := ⟨rfl, rfl, rfl⟩
def z8w := rg o_82_1.eq_1 <| rg o_82_2.eq_1 <| rg o_82_3.eq_1 <| xg c_82_4.eq_1 <| @ex_of T _ _ c_82_5.eq_1
def z8x := @vd T F.zlq zs7 [0] z5u rfl rfl
theorem z8y : zs7.res = [.tmp 2] ∧ zs7.rets = [[2]] ∧ zs7.body = (.seq (.reg o_82_1) c_82_5) := ⟨rfl, rfl, rfl⟩
def z8z := rg o_83_1.eq_1 <| rg o_83_2.eq_1 <| @ex_of T _ _ c_83_3.eq_1
def z80 := @vd T F.zk8 zs9 [0] z5v rfl rfl
theorem z81 : zs9.res = [.tmp 2] ∧ zs9.rets = [[2]] ∧ zs9.body = (.seq (.reg o_83_1) c_83_3) := ⟨rfl, rfl, rfl⟩
def z82 := rg o_84_1.eq_1 <| rg o_84_2.eq_1 <| @ex_of T _ _ c_84_3.eq_1
def z83 := @vd T F.zk5 ztb [0] z5w rfl rfl
theorem z84 : ztb.res = [.tmp 2] ∧ ztb.rets = [[]] ∧ ztb.body = (.seq (.reg o_84_1) c_84_3) := ⟨rfl, rfl, rfl⟩
def z85 := rg o_91_1.eq_1 <| rg o_91_2.eq_1 <| rg o_91_3.eq_1 <| rg o_91_4.eq_1 <| rg o_91_5.eq_1 <| rg o_91_6.eq_1 <| rg o_91_7.eq_1 <| xg c_91_8.eq_1 <| xg c_91_9.eq_1 <| xg ztc.eq_1 <| rg ztd.eq_1 <| xg zte.eq_1 <| xg ztf.eq_1 <| xg ztg.eq_1 <| xg zth.eq_1 <| xg zti.eq_1 <| rg ztj.eq_1 <| rg ztk.eq_1 <| rg ztl.eq_1 <| rg ztm.eq_1 <| rg ztn.eq_1 <| xg zto.eq_1 <| rg ztp.eq_1 <| xg ztq.eq_1 <| xg ztr.eq_1 <| xg zts.eq_1 <| xg ztt.eq_1 <| xg ztu.eq_1 <| rg ztv.eq_1 <| xg ztw.eq_1 <| xg ztx.eq_1 <| xg zty.eq_1 <| xg ztz.eq_1 <| @ex_of T _ _ zt0.eq_1
def z86 := @vd T F.zlj zt2 [0] z5x rfl rfl
theorem z87 : zt2.res = [.tmp 2] ∧ zt2.rets = [[2]] ∧ zt2.body = (.seq (.reg o_91_1) zt0) := ⟨rfl, rfl, rfl⟩
def z88 := rg o_95_1.eq_1 <| rg o_95_2.eq_1 <| @ex_of T _ _ c_95_3.eq_1
def z89 := @vi T F.zmw zt4 z5y rfl
theorem z9a {n : Nat} {H : Hp} {vs : List V} : (orc T (n + 1)).inl F.zmw vs H = finI H.length false [.tmp 4] (unw T (orc T n) n H.length [] (exec T (orc T n) n H.length (.seq (.reg o_95_1) c_95_3) (params 0 vs) H)) := by rw [zhv, z5y, y4, zht]; rfl
def z9b := rg o_96_1.eq_1 <| rg o_96_2.eq_1 <| @ex_of T _ _ c_96_3.eq_1
def z9c := @vd T F.zju zt6 [0] z5z rfl rfl
theorem z9d : zt6.res = [.tmp 2] ∧ zt6.rets = [[]] ∧ zt6.body = (.seq (.reg o_96_1) c_96_3) := ⟨rfl, rfl, rfl⟩
def z9e := rg o_97_1.eq_1 <| rg o_97_2.eq_1 <| @ex_of T _ _ c_97_3.eq_1
def z9f := @vd T F.zjt zt8 [0] z50 rfl rfl
theorem z9g : zt8.res = [.tmp 2] ∧ zt8.rets = [[]] ∧ zt8.body = (.seq (.reg o_97_1) c_97_3) := ⟨rfl, rfl, rfl⟩
def z9h := rg o_98_1.eq_1 <| rg o_98_2.eq_1 <| rg o_98_3.eq_1 <| rg o_98_4.eq_1 <| xg c_98_5.eq_1 <| rg o_98_6.eq_1 <| rg o_98_7.eq_1 <| xg c_98_8.eq_1 <| rg o_98_9.eq_1 <| xg zt9.eq_1 <| rg zua.eq_1 <| xg zub.eq_1 <| xg zuc.eq_1 <| xg zud.eq_1 <| xg zue.eq_1 <| rg zuf.eq_1 <| xg zug.eq_1 <| xg zuh.eq_1 <| @ex_of T _ _ zui.eq_1
def z9i := @vd T F.zjw zuk [0, 0] z51 rfl rfl
theorem z9j : zuk.res = [.tmp 4] ∧ zuk.rets = [[]] ∧ zuk.body = (.seq (.reg o_98_1) zui) := ⟨rfl, rfl, rfl⟩
def z9k := rg o_99_1.eq_1 <| rg o_99_2.eq_1 <| @ex_of T _ _ c_99_3.eq_1
def z9l := @vd T F.zj0 zum [0] z52 rfl rfl
theorem z9m : zum.res = [.tmp 2] ∧ zum.rets = [[]] ∧ zum.body = (.seq (.reg o_99_1) c_99_3) := ⟨rfl, rfl, rfl⟩
def z9n := rg zun.eq_1 <| rg zuo.eq_1 <| And.intro (@dr_of T _ _ [(10, 13), (18, 21)] zuo.eq_1 (by decide)) <| @ex_of T _ _ zup.eq_1
def z9o := @vd T F.zkm zur [0] z53 rfl rfl
theorem z9p : zur.res = [.tmp 2] ∧ zur.rets = [[]] ∧ zur.body = (.seq (.reg zun) zup) := ⟨rfl, rfl, rfl⟩
def z9q := rg zus.eq_1 <| rg zut.eq_1 <| rg zuu.eq_1 <| rg zuv.eq_1 <| rg zuw.eq_1 <| rg zux.eq_1 <| rg zuy.eq_1 <| xg zuz.eq_1 <| rg zu0.eq_1 <| rg zu1.eq_1 <| rg zu2.eq_1 <| xg zu3.eq_1 <| xg zu4.eq_1 <| xg zu5.eq_1 <| xg zu6.eq_1 <| rg zu7.eq_1 <| xg zu8.eq_1 <| xg zu9.eq_1 <| @ex_of T _ _ zva.eq_1
def z9r := @vd T F.zko zvc [0, 0] z54 rfl rfl
theorem z9s : zvc.res = [.cell 4 4 true, .tmp 5] ∧ zvc.rets = [[], []] ∧ zvc.body = (.seq (.reg zus) zva) := ⟨rfl, rfl, rfl⟩
def z9t := rg zvd.eq_1 <| rg zve.eq_1 <| rg zvf.eq_1 <| rg zvg.eq_1 <| rg zvh.eq_1 <| rg zvi.eq_1 <| And.intro (@df_of T _ _ [(4, 2)] zvi.eq_1) <| rg zvj.eq_1 <| xg zvk.eq_1 <| rg zvl.eq_1 <| rg zvm.eq_1 <| xg zvn.eq_1 <| rg zvo.eq_1 <| rg zvp.eq_1 <| rg zvq.eq_1 <| xg zvr.eq_1 <| xg zvs.eq_1 <| xg zvt.eq_1 <| xg zvu.eq_1 <| rg zvv.eq_1 <| rg zvw.eq_1 <| rg zvx.eq_1 <| xg zvy.eq_1 <| rg zvz.eq_1 <| rg zv0.eq_1 <| rg zv1.eq_1 <| xg zv2.eq_1 <| xg zv3.eq_1 <| xg zv4.eq_1 <| xg zv5.eq_1 <| xg zv6.eq_1 <| xg zv7.eq_1 <| @ex_of T _ _ zv8.eq_1
def z9u := @vd T F.zkq zwa [0, 0] z55 rfl rfl
theorem z9v : zwa.res = [.cell 4 4 true, .tmp 5] ∧ zwa.rets = [[], []] ∧ zwa.body = (.seq (.reg zvd) zv8) := ⟨rfl, rfl, rfl⟩
def z9w := rg zwb.eq_1 <| rg zwc.eq_1 <| rg zwd.eq_1 <| rg zwe.eq_1 <| rg zwf.eq_1 <| xg zwg.eq_1 <| xg zwh.eq_1 <| rg zwi.eq_1 <| xg zwj.eq_1 <| xg zwk.eq_1 <| rg zwl.eq_1 <| rg zwm.eq_1 <| xg zwn.eq_1 <| rg zwo.eq_1 <| rg zwp.eq_1 <| rg zwq.eq_1 <| rg zwr.eq_1 <| rg zws.eq_1 <| rg zwt.eq_1 <| And.intro (@dr_of T _ _ [(1, 6), (3, 6)] zwt.eq_1 (by decide)) <| rg zwu.eq_1 <| rg zwv.eq_1 <| xg zww.eq_1 <| rg zwx.eq_1 <| xg zwy.eq_1 <| xg zwz.eq_1 <| xg zw0.eq_1 <| xg zw1.eq_1 <| xg zw2.eq_1 <| rg zw3.eq_1 <| xg zw4.eq_1 <| xg zw5.eq_1 <| xg zw6.eq_1 <| xg zw7.eq_1 <| @ex_of T _ _ zw8.eq_1
def z9x := @vd T F.zkw zxa [0, 0] z56 rfl rfl
theorem z9y : zxa.res = [.cell 4 4 true, .tmp 5] ∧ zxa.rets = [[], []] ∧ zxa.body = (.seq (.reg zwb) zw8) := ⟨rfl, rfl, rfl⟩
def z9z := rg zxb.eq_1 <| rg zxc.eq_1 <| rg zxd.eq_1 <| rg zxe.eq_1 <| rg zxf.eq_1 <| rg zxg.eq_1 <| rg zxh.eq_1 <| rg zxi.eq_1 <| rg zxj.eq_1 <| And.intro (@df_of T _ _ [(0, 5)] zxj.eq_1) <| rg zxk.eq_1 <| rg zxl.eq_1 <| xg zxm.eq_1 <| xg zxn.eq_1 <| xg zxo.eq_1 <| xg zxp.eq_1 <| xg zxq.eq_1 <| rg zxr.eq_1 <| And.intro (@dr_of T _ _ [(7, 4)] zxr.eq_1 (by decide)) <| rg zxs.eq_1 <| rg zxt.eq_1 <| rg zxu.eq_1 <| xg zxv.eq_1 <| rg zxw.eq_1 <| rg zxx.eq_1 <| xg zxy.eq_1 <| xg zxz.eq_1 <| xg zx0.eq_1 <| xg zx1.eq_1 <| xg zx2.eq_1 <| @ex_of T _ _ zx3.eq_1
def z90 := @vd T F.zky zx5 [0, 0] z57 rfl rfl
theorem z91 : zx5.res = [.cell 4 4 true, .tmp 5] ∧ zx5.rets = [[], []] ∧ zx5.body = (.seq (.reg zxb) zx3) := ⟨rfl, rfl, rfl⟩
def z92 := rg zx6.eq_1 <| rg zx7.eq_1 <| @ex_of T _ _ zx8.eq_1
def z93 := @vd T F.zk9 zya [0, 0] z58 rfl rfl
theorem z94 : zya.res = [.tmp 4] ∧ zya.rets = [[2]] ∧ zya.body = (.seq (.reg zx6) zx8) := ⟨rfl, rfl, rfl⟩
def z95 := rg zyb.eq_1 <| rg zyc.eq_1 <| xg zyd.eq_1 <| rg zye.eq_1 <| rg zyf.eq_1 <| xg zyg.eq_1 <| xg zyh.eq_1 <| xg zyi.eq_1 <| rg zyj.eq_1 <| xg zyk.eq_1 <| @ex_of T _ _ zyl.eq_1
def z96 := @vd T F.zlb zyn [2, 0] z59 rfl rfl
theorem z97 : zyn.res = [.tmp 4] ∧ zyn.rets = [[2]] ∧ zyn.body = (.seq (.reg zyb) zyl) := ⟨rfl, rfl, rfl⟩
def z98 := rg zyo.eq_1 <| rg zyp.eq_1 <| @ex_of T _ _ zyq.eq_1
def z99 := @vd T F.zld zys [0] z6a rfl rfl
theorem zbaa : zys.res = [.tmp 2] ∧ zys.rets = [[]] ∧ zys.body = (.seq (.reg zyo) zyq) := ⟨rfl, rfl, rfl⟩
def zbab := rg zyt.eq_1 <| rg zyu.eq_1 <| rg zyv.eq_1 <| xg zyw.eq_1 <| rg zyx.eq_1 <| And.intro (@df_of T _ _ [(3, 2), (7, 2), (7, 4), (7, 5), (8, 2), (8, 4), (8, 5)] zyx.eq_1) <| rg zyy.eq_1 <| rg zyz.eq_1 <| rg zy0.eq_1 <| rg zy1.eq_1 <| xg zy2.eq_1 <| rg zy3.eq_1 <| xg zy4.eq_1 <| xg zy5.eq_1 <| xg zy6.eq_1 <| xg zy7.eq_1 <| xg zy8.eq_1 <| rg zy9.eq_1 <| xg zza.eq_1 <| xg zzb.eq_1 <| xg zzc.eq_1 <| @ex_of T _ _ zzd.eq_1
def zbac := @vd T F.zln zzf [0] z6b rfl rfl
theorem zbad : zzf.res = [.tmp 2, .tmp 3] ∧ zzf.rets = [[2], []] ∧ zzf.body = (.seq (.reg zyt) zzd) := ⟨rfl, rfl, rfl⟩
def zbae := rg zzg.eq_1 <| rg zzh.eq_1 <| rg zzi.eq_1 <| rg zzj.eq_1 <| rg zzk.eq_1 <| rg zzl.eq_1 <| xg zzm.eq_1 <| rg zzn.eq_1 <| xg zzo.eq_1 <| xg zzp.eq_1 <| xg zzq.eq_1 <| xg zzr.eq_1 <| xg zzs.eq_1 <| rg zzt.eq_1 <| xg zzu.eq_1 <| xg zzv.eq_1 <| @ex_of T _ _ zzw.eq_1
def zbaf := @vd T F.zk7 zzy [0, 0] z6c rfl rfl
theorem zbag : zzy.res = [.tmp 4] ∧ zzy.rets = [[2]] ∧ zzy.body = (.seq (.reg zzg) zzw) := ⟨rfl, rfl, rfl⟩
def zbah := rg zzz.eq_1 <| rg zz0.eq_1 <| rg zz1.eq_1 <| rg zz2.eq_1 <| rg zz3.eq_1 <| rg zz4.eq_1 <| rg zz5.eq_1 <| xg zz6.eq_1 <| rg zz7.eq_1 <| xg zz8.eq_1 <| xg zz9.eq_1 <| xg z0a.eq_1 <| xg z0b.eq_1 <| xg z0c.eq_1 <| rg z0d.eq_1 <| xg z0e.eq_1 <| xg z0f.eq_1 <| xg z0g.eq_1 <| @ex_of T _ _ z0h.eq_1
def zbai := @vd T F.zk4 z0j [0, 0] z6d rfl rfl
theorem zbaj : z0j.res = [.tmp 4] ∧ z0j.rets = [[]] ∧ z0j.body = (.seq (.reg zzz) z0h) := ⟨rfl, rfl, rfl⟩
def zbak := rg z0k.eq_1 <| rg z0l.eq_1 <| xg z0m.eq_1 <| rg z0n.eq_1 <| rg z0o.eq_1 <| rg z0p.eq_1 <| xg z0q.eq_1 <| xg z0r.eq_1 <| rg z0s.eq_1 <| xg z0t.eq_1 <| xg z0u.eq_1 <| @ex_of T _ _ z0v.eq_1
def zbal := @vi T F.zmx z0x z6e rfl
theorem zbam {n : Nat} {H : Hp} {vs : List V} : (orc T (n + 1)).inl F.zmx vs H = finI H.length false [.tmp 4] (unw T (orc T n) n H.length [] (exec T (orc T n) n H.length (.seq (.reg z0k) z0v) (params 0 vs) H)) := by rw [zhv, z6e, y4, zht]; rfl
def zban := rg z0y.eq_1 <| rg z0z.eq_1 <| rg z00.eq_1 <| rg z01.eq_1 <| rg z02.eq_1 <| rg z03.eq_1 <| xg z04.eq_1 <| xg z05.eq_1 <| rg z06.eq_1 <| xg z07.eq_1 <| xg z08.eq_1 <| xg z09.eq_1 <| xg z1a.eq_1 <| xg z1b.eq_1 <| rg z1c.eq_1 <| xg z1d.eq_1 <| @ex_of T _ _ z1e.eq_1
def zbao := @vi T F.zmy z1g z6f rfl
theorem zbap {n : Nat} {H : Hp} {vs : List V} : (orc T (n + 1)).inl F.zmy vs H = finI H.length false [.tmp 4] (unw T (orc T n) n H.length [] (exec T (orc T n) n H.length (.seq (.reg z0y) z1e) (params 0 vs) H)) := by rw [zhv, z6f, y4, zht]; rfl
def zbaq := rg z1h.eq_1 <| rg z1i.eq_1 <| rg z1j.eq_1 <| rg z1k.eq_1 <| xg z1l.eq_1 <| rg z1m.eq_1 <| rg z1n.eq_1 <| rg z1o.eq_1 <| rg z1p.eq_1 <| xg z1q.eq_1 <| xg z1r.eq_1 <| xg z1s.eq_1 <| xg z1t.eq_1 <| xg z1u.eq_1 <| @ex_of T _ _ z1v.eq_1
def zbar := @vd T F.zkp z1x [2, 0, 0] z6g rfl rfl
theorem zbas : z1x.res = [.tmp 6] ∧ z1x.rets = [[2]] ∧ z1x.body = (.seq (.reg z1h) z1v) := ⟨rfl, rfl, rfl⟩
def zbat := rg z1y.eq_1 <| rg z1z.eq_1 <| rg z10.eq_1 <| rg z11.eq_1 <| xg z12.eq_1 <| xg z13.eq_1 <| rg z14.eq_1 <| xg z15.eq_1 <| @ex_of T _ _ z16.eq_1
def zbau := @vd T F.zkt z18 [0, 0] z6h rfl rfl
theorem zbav : z18.res = [.tmp 4] ∧ z18.rets = [[]] ∧ z18.body = (.seq (.reg z1y) z16) := ⟨rfl, rfl, rfl⟩
def zbaw := rg z19.eq_1 <| rg z2a.eq_1 <| rg z2b.eq_1 <| xg z2c.eq_1 <| rg z2d.eq_1 <| xg z2e.eq_1 <| xg z2f.eq_1 <| rg z2g.eq_1 <| xg z2h.eq_1 <| xg z2i.eq_1 <| @ex_of T _ _ z2j.eq_1
def zbax := @vd T F.zks z2l [0, 0] z6i rfl rfl
theorem zbay : z2l.res = [.tmp 4, .tmp 5] ∧ z2l.rets = [[], []] ∧ z2l.body = (.seq (.reg z19) z2j) := ⟨rfl, rfl, rfl⟩
def zbaz := rg z2m.eq_1 <| rg z2n.eq_1 <| rg z2o.eq_1 <| rg z2p.eq_1 <| rg z2q.eq_1 <| rg z2r.eq_1 <| xg z2s.eq_1 <| xg z2t.eq_1 <| rg z2u.eq_1 <| rg z2v.eq_1 <| xg z2w.eq_1 <| xg z2x.eq_1 <| rg z2y.eq_1 <| xg z2z.eq_1 <| xg z20.eq_1 <| @ex_of T _ _ z21.eq_1
def zba0 := @vd T F.zkv z23 [0, 0, 0] z6j rfl rfl
theorem zba1 : z23.res = [.tmp 6, .tmp 7] ∧ z23.rets = [[], []] ∧ z23.body = (.seq (.reg z2m) z21) := ⟨rfl, rfl, rfl⟩
def zba2 := rg z24.eq_1 <| rg z25.eq_1 <| rg z26.eq_1 <| xg z27.eq_1 <| rg z28.eq_1 <| rg z29.eq_1 <| And.intro (@dr_of T _ _ [(5, 3)] z29.eq_1 (by decide)) <| rg z3a.eq_1 <| rg z3b.eq_1 <| rg z3c.eq_1 <| rg z3d.eq_1 <| xg z3e.eq_1 <| xg z3f.eq_1 <| rg z3g.eq_1 <| rg z3h.eq_1 <| rg z3i.eq_1 <| xg z3j.eq_1 <| rg z3k.eq_1 <| rg z3l.eq_1 <| xg z3m.eq_1 <| xg z3n.eq_1 <| xg z3o.eq_1 <| xg z3p.eq_1 <| xg z3q.eq_1 <| xg z3r.eq_1 <| xg z3s.eq_1 <| @ex_of T _ _ z3t.eq_1
def zba3 := @vd T F.zkx z3v [0, 0] z6k rfl rfl
theorem zba4 : z3v.res = [.cell 4 4 true, .tmp 5] ∧ z3v.rets = [[], []] ∧ z3v.body = (.seq (.reg z24) z3t) := ⟨rfl, rfl, rfl⟩
def zba5 := rg z3w.eq_1 <| rg z3x.eq_1 <| rg z3y.eq_1 <| xg z3z.eq_1 <| rg z30.eq_1 <| xg z31.eq_1 <| @ex_of T _ _ z32.eq_1
def zba6 := @vd T F.zll z34 [0] z6l rfl rfl
theorem zba7 : z34.res = [.tmp 2] ∧ z34.rets = [[]] ∧ z34.body = (.seq (.reg z3w) z32) := ⟨rfl, rfl, rfl⟩
def zba8 := rg z35.eq_1 <| rg z36.eq_1 <| rg z37.eq_1 <| rg z38.eq_1 <| rg z39.eq_1 <| rg z4a.eq_1 <| rg z4b.eq_1 <| rg z4c.eq_1 <| rg z4d.eq_1 <| rg z4e.eq_1 <| xg z4f.eq_1 <| rg z4g.eq_1 <| xg z4h.eq_1 <| xg z4i.eq_1 <| xg z4j.eq_1 <| xg z4k.eq_1 <| xg z4l.eq_1 <| rg z4m.eq_1 <| xg z4n.eq_1 <| xg z4o.eq_1 <| xg z4p.eq_1 <| rg z4q.eq_1 <| xg z4r.eq_1 <| xg z4s.eq_1 <| xg z4t.eq_1 <| xg z4u.eq_1 <| xg z4v.eq_1 <| rg z4w.eq_1 <| xg z4x.eq_1 <| xg z4y.eq_1 <| @ex_of T _ _ z4z.eq_1
def zba9 := @vd T F.zk2 z41 [] z6m rfl rfl
theorem zbba : z41.res = [.cell 0 256 true] ∧ z41.rets = [[]] ∧ z41.body = (.seq (.reg z35) z4z) := ⟨rfl, rfl, rfl⟩
def zbbb := @vd T F.zku z42 [2, 0, 2] z6n rfl rfl
theorem zbbc : z42.res = [.tmp 6] ∧ z42.rets = [[2]] ∧ z42.body = .fail := ⟨rfl, rfl, rfl⟩
end Go.Dvm.C
