/- What each piece of the code comes to: part 1. -/
import Derived.Test.YtlcndafgippgjaaQc0
set_option linter.all false
set_option maxRecDepth 100000
set_option maxHeartbeats 4000000
namespace Go.Dvm.C
open Go Go.Dvm
def tab : List (Nat × MFun) := [(8, znc), (9, zne), (10, znl), (12, zno), (14, znr), (16, zof), (17, zoh), (18, zor), (19, zot), (20, zo3), (21, zpb), (22, zp2), (23, zqc), (29, zqe), (30, zqg), (31, zqi), (34, zqk), (35, zq2), (36, zq4), (37, zrg), (38, zro), (39, zr9), (40, zsb), (41, zst), (42, zsy), (47, zs0), (48, zs4), (51, zte), (52, zue), (53, zuw), (54, zuy), (55, zu8), (56, zva), (57, zvc), (58, zvy), (59, zwh), (63, zwj), (65, zw1), (66, zw3), (67, zx7), (68, zyn), (69, zyp), (70, zyz), (71, zy1), (72, zy3), (73, zy5), (74, zzk), (80, zzm), (81, zzy), (82, zz0), (84, zz2), (85, z0g), (86, z0i), (87, z07), (88, z1z), (89, z2e), (90, z2g), (92, z2q), (93, z3e), (94, z3g), (95, z3i), (96, z3k), (97, z3u), (98, z4x), (99, z47), (100, z5c), (101, z5l), (102, z5u), (103, z6d), (104, z6u), (105, z7h), (106, z7s), (107, z73), (108, z78), (109, z8d)]
abbrev T : Nat → Option MFun := look tab
theorem z8e : T F.zmz = some znc := rfl
theorem z8f : T F.zk3 = some zne := rfl
theorem z8g : T F.zk2 = some znl := rfl
theorem z8h : T F.zkf = some zno := rfl
theorem z8i : T F.zk4 = some znr := rfl
theorem z8j : T F.zmb = some zof := rfl
theorem z8k : T F.zmi = some zoh := rfl
theorem z8l : T F.zmf = some zor := rfl
theorem z8m : T F.zmx = some zot := rfl
theorem z8n : T F.zkk = some zo3 := rfl
theorem z8o : T F.zkz = some zpb := rfl
theorem z8p : T F.zkc = some zp2 := rfl
theorem z8q : T F.zk1 = some zqc := rfl
theorem z8r : T F.zju = some zqe := rfl
theorem z8s : T F.zke = some zqg := rfl
theorem z8t : T F.zjx = some zqi := rfl
theorem z8u : T F.zli = some zqk := rfl
theorem z8v : T F.zm0 = some zq2 := rfl
theorem z8w : T F.zl1 = some zq4 := rfl
theorem z8x : T F.zmh = some zrg := rfl
theorem z8y : T F.zmc = some zro := rfl
theorem z8z : T F.zmw = some zr9 := rfl
theorem z80 : T F.zki = some zsb := rfl
theorem z81 : T F.zkx = some zst := rfl
theorem z82 : T F.zm1 = some zsy := rfl
theorem z83 : T F.zkd = some zs0 := rfl
theorem z84 : T F.zjw = some zs4 := rfl
theorem z85 : T F.zlh = some zte := rfl
theorem z86 : T F.zm2 = some zue := rfl
theorem z87 : T F.zm3 = some zuw := rfl
theorem z88 : T F.zmj = some zuy := rfl
theorem z89 : T F.zml = some zu8 := rfl
theorem z9a : T F.zlo = some zva := rfl
theorem z9b : T F.zkh = some zvc := rfl
theorem z9c : T F.zkr = some zvy := rfl
theorem z9d : T F.zkv = some zwh := rfl
theorem z9e : T F.zj7 = some zwj := rfl
theorem z9f : T F.zlf = some zw1 := rfl
theorem z9g : T F.zlb = some zw3 := rfl
theorem z9h : T F.zlq = some zx7 := rfl
theorem z9i : T F.zl0 = some zyn := rfl
theorem z9j : T F.zkg = some zyp := rfl
theorem z9k : T F.zkm = some zyz := rfl
theorem z9l : T F.zko = some zy1 := rfl
theorem z9m : T F.zkp = some zy3 := rfl
theorem z9n : T F.zks = some zy5 := rfl
theorem z9o : T F.zkt = some zzk := rfl
theorem z9p : T F.zj6 = some zzm := rfl
theorem z9q : T F.zj2 = some zzy := rfl
theorem z9r : T F.zj3 = some zz0 := rfl
theorem z9s : T F.zk8 = some zz2 := rfl
theorem z9t : T F.zld = some z0g := rfl
theorem z9u : T F.zle = some z0i := rfl
theorem z9v : T F.zla = some z07 := rfl
theorem z9w : T F.zln = some z1z := rfl
theorem z9x : T F.zly = some z2e := rfl
theorem z9y : T F.zkn = some z2g := rfl
theorem z9z : T F.zj5 = some z2q := rfl
theorem z90 : T F.zj0 = some z3e := rfl
theorem z91 : T F.zm4 = some z3g := rfl
theorem z92 : T F.zk5 = some z3i := rfl
theorem z93 : T F.zlk = some z3k := rfl
theorem z94 : T F.zll = some z3u := rfl
theorem z95 : T F.zlx = some z4x := rfl
theorem z96 : T F.zm5 = some z47 := rfl
theorem z97 : T F.zlj = some z5c := rfl
theorem z98 : T F.zm6 = some z5l := rfl
theorem z99 : T F.zlr = some z5u := rfl
theorem zbaa : T F.zlt = some z6d := rfl
theorem zbab : T F.zlu = some z6u := rfl
theorem zbac : T F.zm7 = some z7h := rfl
theorem zbad : T F.zlv = some z7s := rfl
theorem zbae : T F.zm8 = some z73 := rfl
theorem zbaf : T F.zm9 = some z78 := rfl
theorem zbag : T F.zna = some z8d := rfl
def zbah := And.intro (@ru_of T _ _ o_8_1.eq_1) <| And.intro (@ru_of T _ _ o_8_2.eq_1) <| And.intro (@ru_of T _ _ o_8_3.eq_1) <| And.intro (@ru_of T _ _ o_8_4.eq_1) <| And.intro (@ex_of T _ _ c_8_5.eq_1) <| And.intro (@ru_of T _ _ o_8_6.eq_1) <| And.intro (@ru_of T _ _ o_8_7.eq_1) <| And.intro (@ru_of T _ _ o_8_8.eq_1) <| And.intro (@ex_of T _ _ c_8_9.eq_1) <| And.intro (@ru_of T _ _ o_8_10.eq_1) <| And.intro (@ru_of T _ _ o_8_11.eq_1) <| And.intro (@ru_of T _ _ o_8_12.eq_1) <| And.intro (@ru_of T _ _ o_8_13.eq_1) <| And.intro (@ru_of T _ _ o_8_14.eq_1) <| And.intro (@ex_of T _ _ c_8_15.eq_1) <| And.intro (@ru_of T _ _ o_8_16.eq_1) <| And.intro (@ru_of T _ _ o_8_17.eq_1) <| And.intro (@ex_of T _ _ c_8_18.eq_1) <| And.intro (@ru_of T _ _ o_8_19.eq_1) <| And.intro (@ru_of T _ _ o_8_20.eq_1) <| And.intro (@ru_of T _ _ o_8_21.eq_1) <| And.intro (@ru_of T _ _ o_8_22.eq_1) <| And.intro (@ex_of T _ _ c_8_23.eq_1) <| And.intro (@ru_of T _ _ o_8_24.eq_1) <| And.intro (@ru_of T _ _ o_8_25.eq_1) <| And.intro (@ru_of T _ _ o_8_26.eq_1) <| And.intro (@ex_of T _ _ c_8_27.eq_1) <| And.intro (@ru_of T _ _ o_8_28.eq_1) <| And.intro (@ru_of T _ _ o_8_29.eq_1) <| And.intro (@ru_of T _ _ o_8_30.eq_1) <| And.intro (@ex_of T _ _ c_8_31.eq_1) <| And.intro (@ru_of T _ _ o_8_32.eq_1) <| And.intro (@ex_of T _ _ c_8_33.eq_1) <| And.intro (@ru_of T _ _ o_8_34.eq_1) <| And.intro (@ru_of T _ _ o_8_35.eq_1) <| And.intro (@ex_of T _ _ c_8_36.eq_1) <| And.intro (@ex_of T _ _ c_8_37.eq_1) <| And.intro (@ex_of T _ _ c_8_38.eq_1) <| And.intro (@ex_of T _ _ c_8_39.eq_1) <| And.intro (@ex_of T _ _ c_8_40.eq_1) <| And.intro (@ex_of T _ _ c_8_41.eq_1) <| And.intro (@ru_of T _ _ o_8_42.eq_1) <| And.intro (@ex_of T _ _ c_8_43.eq_1) <| And.intro (@ex_of T _ _ c_8_44.eq_1) <| And.intro (@ex_of T _ _ c_8_45.eq_1) <| And.intro (@ex_of T _ _ c_8_46.eq_1) <| And.intro (@ru_of T _ _ o_8_47.eq_1) <| And.intro (@df_of T _ _ [(1, 9), (3, 9), (5, 9), (7, 9)] o_8_47.eq_1) <| And.intro (@ru_of T _ _ o_8_48.eq_1) <| And.intro (@dr_of T _ _ [(0, 3)] o_8_48.eq_1 (by decide)) <| And.intro (@ru_of T _ _ o_8_49.eq_1) <| And.intro (@ex_of T _ _ c_8_50.eq_1) <| And.intro (@ex_of T _ _ c_8_51.eq_1) <| And.intro (@ex_of T _ _ c_8_52.eq_1) <| And.intro (@ex_of T _ _ c_8_53.eq_1) <| And.intro (@ex_of T _ _ c_8_54.eq_1) <| And.intro (@ex_of T _ _ c_8_55.eq_1) <| And.intro (@ex_of T _ _ c_8_56.eq_1) <| And.intro (@ex_of T _ _ c_8_57.eq_1) <| And.intro (@ex_of T _ _ c_8_58.eq_1) <| And.intro (@ex_of T _ _ c_8_59.eq_1) <| And.intro (@ex_of T _ _ c_8_60.eq_1) <| And.intro (@ex_of T _ _ c_8_61.eq_1) <| And.intro (@ex_of T _ _ c_8_62.eq_1) <| And.intro (@ex_of T _ _ c_8_63.eq_1) <| @ex_of T _ _ c_8_64.eq_1
theorem zbai {O : Orc} {H : Hp} {vs : List V} : vcall T O F.zmz vs H = (args H [0, 0, 0] vs).bind fun p => vk H p.2 [0, 0, 0] vs (O.deep F.zmz p.1) := zh2 z8e rfl
theorem zbaj : znc.res = [.tmp 6] := rfl
theorem zbak : znc.rets = [[]] := rfl
theorem zbal : znc.body = (.seq (.reg o_8_1) c_8_64) := rfl
def zbam := And.intro (@ru_of T _ _ o_9_1.eq_1) <| And.intro (@ru_of T _ _ o_9_2.eq_1) <| And.intro (@ru_of T _ _ o_9_3.eq_1) <| And.intro (@ex_of T _ _ c_9_4.eq_1) <| @ex_of T _ _ c_9_5.eq_1
theorem zban {O : Orc} {H : Hp} {vs : List V} : vcall T O F.zk3 vs H = (args H [] vs).bind fun p => vk H p.2 [] vs (O.deep F.zk3 p.1) := zh2 z8f rfl
theorem zbao : zne.res = [.tmp 0] := rfl
theorem zbap : zne.rets = [[]] := rfl
theorem zbaq : zne.body = (.seq (.reg o_9_1) c_9_5) := rfl
def zbar := And.intro (@ru_of T _ _ o_10_1.eq_1) <| And.intro (@ru_of T _ _ o_10_2.eq_1) <| And.intro (@ru_of T _ _ o_10_3.eq_1) <| And.intro (@ru_of T _ _ o_10_4.eq_1) <| And.intro (@ru_of T _ _ o_10_5.eq_1) <| And.intro (@ru_of T _ _ o_10_6.eq_1) <| And.intro (@ex_of T _ _ c_10_7.eq_1) <| And.intro (@ex_of T _ _ c_10_8.eq_1) <| And.intro (@ru_of T _ _ o_10_9.eq_1) <| And.intro (@ru_of T _ _ znf.eq_1) <| And.intro (@ex_of T _ _ zng.eq_1) <| And.intro (@ex_of T _ _ znh.eq_1) <| And.intro (@ex_of T _ _ zni.eq_1) <| @ex_of T _ _ znj.eq_1
theorem zbas {O : Orc} {H : Hp} {vs : List V} : vcall T O F.zk2 vs H = (args H [0, 0] vs).bind fun p => vk H p.2 [0, 0] vs (O.deep F.zk2 p.1) := zh2 z8g rfl
theorem zbat : znl.res = [.tmp 4, .tmp 5] := rfl
theorem zbau : znl.rets = [[2], []] := rfl
theorem zbav : znl.body = (.seq (.reg o_10_1) znj) := rfl
def zbaw := And.intro (@ru_of T _ _ o_12_1.eq_1) <| And.intro (@ru_of T _ _ o_12_2.eq_1) <| And.intro (@ru_of T _ _ o_12_3.eq_1) <| And.intro (@ru_of T _ _ o_12_4.eq_1) <| And.intro (@ru_of T _ _ o_12_5.eq_1) <| And.intro (@ex_of T _ _ c_12_6.eq_1) <| And.intro (@ex_of T _ _ c_12_7.eq_1) <| And.intro (@ru_of T _ _ o_12_8.eq_1) <| And.intro (@ex_of T _ _ c_12_9.eq_1) <| @ex_of T _ _ znm.eq_1
theorem zbax {O : Orc} {H : Hp} {vs : List V} : vcall T O F.zkf vs H = (args H [0, 0, 0] vs).bind fun p => vk H p.2 [0, 0, 0] vs (O.deep F.zkf p.1) := zh2 z8h rfl
theorem zbay : zno.res = [.tmp 6, .tmp 7] := rfl
theorem zbaz : zno.rets = [[2], []] := rfl
theorem zba0 : zno.body = (.seq (.reg o_12_1) znm) := rfl
def zba1 := And.intro (@ru_of T _ _ o_14_1.eq_1) <| And.intro (@ru_of T _ _ o_14_2.eq_1) <| And.intro (@ru_of T _ _ o_14_3.eq_1) <| And.intro (@ru_of T _ _ o_14_4.eq_1) <| And.intro (@ru_of T _ _ o_14_5.eq_1) <| And.intro (@ex_of T _ _ c_14_6.eq_1) <| And.intro (@ex_of T _ _ c_14_7.eq_1) <| And.intro (@ru_of T _ _ o_14_8.eq_1) <| And.intro (@ex_of T _ _ c_14_9.eq_1) <| @ex_of T _ _ znp.eq_1
theorem zba2 {O : Orc} {H : Hp} {vs : List V} : vcall T O F.zk4 vs H = (args H [0, 0] vs).bind fun p => vk H p.2 [0, 0] vs (O.deep F.zk4 p.1) := zh2 z8i rfl
theorem zba3 : znr.res = [.tmp 4, .tmp 5] := rfl
theorem zba4 : znr.rets = [[2], []] := rfl
theorem zba5 : znr.body = (.seq (.reg o_14_1) znp) := rfl
def zba6 := And.intro (@ru_of T _ _ o_16_1.eq_1) <| And.intro (@ru_of T _ _ o_16_2.eq_1) <| And.intro (@ru_of T _ _ o_16_3.eq_1) <| And.intro (@ru_of T _ _ o_16_4.eq_1) <| And.intro (@ex_of T _ _ c_16_5.eq_1) <| And.intro (@ru_of T _ _ o_16_6.eq_1) <| And.intro (@ru_of T _ _ o_16_7.eq_1) <| And.intro (@ru_of T _ _ o_16_8.eq_1) <| And.intro (@ru_of T _ _ o_16_9.eq_1) <| And.intro (@ex_of T _ _ zns.eq_1) <| And.intro (@ru_of T _ _ znt.eq_1) <| And.intro (@ru_of T _ _ znu.eq_1) <| And.intro (@ru_of T _ _ znv.eq_1) <| And.intro (@ru_of T _ _ znw.eq_1) <| And.intro (@ru_of T _ _ znx.eq_1) <| And.intro (@ex_of T _ _ zny.eq_1) <| And.intro (@ru_of T _ _ znz.eq_1) <| And.intro (@ex_of T _ _ zn0.eq_1) <| And.intro (@ex_of T _ _ zn1.eq_1) <| And.intro (@ex_of T _ _ zn2.eq_1) <| And.intro (@ex_of T _ _ zn3.eq_1) <| And.intro (@ex_of T _ _ zn4.eq_1) <| And.intro (@ru_of T _ _ zn5.eq_1) <| And.intro (@ex_of T _ _ zn6.eq_1) <| And.intro (@ex_of T _ _ zn7.eq_1) <| And.intro (@ex_of T _ _ zn8.eq_1) <| And.intro (@ex_of T _ _ zn9.eq_1) <| And.intro (@ex_of T _ _ zoa.eq_1) <| And.intro (@ex_of T _ _ zob.eq_1) <| And.intro (@ex_of T _ _ zoc.eq_1) <| @ex_of T _ _ zod.eq_1
theorem zba7 {O : Orc} {H : Hp} {vs : List V} : vcall T O F.zmb vs H = (args H [0] vs).bind fun p => vk H p.2 [0] vs (O.deep F.zmb p.1) := zh2 z8j rfl
theorem zba8 : zof.res = [.cell 2 3 true, .tmp 3, .tmp 4] := rfl
theorem zba9 : zof.rets = [[], [], []] := rfl
theorem zbba : zof.body = (.seq (.reg o_16_1) zod) := rfl
def zbbb := And.intro (@ru_of T _ _ o_17_1.eq_1) <| And.intro (@ru_of T _ _ o_17_2.eq_1) <| And.intro (@ru_of T _ _ o_17_3.eq_1) <| And.intro (@ex_of T _ _ c_17_4.eq_1) <| @ex_of T _ _ c_17_5.eq_1
theorem zbbc {O : Orc} {H : Hp} {vs : List V} : vcall T O F.zmi vs H = (args H [0, 0] vs).bind fun p => vk H p.2 [0, 0] vs (O.deep F.zmi p.1) := zh2 z8k rfl
theorem zbbd : zoh.res = [.tmp 4] := rfl
theorem zbbe : zoh.rets = [[]] := rfl
theorem zbbf : zoh.body = (.seq (.reg o_17_1) c_17_5) := rfl
def zbbg := And.intro (@ru_of T _ _ o_18_1.eq_1) <| And.intro (@ru_of T _ _ o_18_2.eq_1) <| And.intro (@ru_of T _ _ o_18_3.eq_1) <| And.intro (@ru_of T _ _ o_18_4.eq_1) <| And.intro (@ex_of T _ _ c_18_5.eq_1) <| And.intro (@ru_of T _ _ o_18_6.eq_1) <| And.intro (@ru_of T _ _ o_18_7.eq_1) <| And.intro (@ex_of T _ _ c_18_8.eq_1) <| And.intro (@ru_of T _ _ o_18_9.eq_1) <| And.intro (@ex_of T _ _ zoi.eq_1) <| And.intro (@ex_of T _ _ zoj.eq_1) <| And.intro (@ex_of T _ _ zok.eq_1) <| And.intro (@ex_of T _ _ zol.eq_1) <| And.intro (@ru_of T _ _ zom.eq_1) <| And.intro (@ex_of T _ _ zon.eq_1) <| And.intro (@ex_of T _ _ zoo.eq_1) <| @ex_of T _ _ zop.eq_1
theorem zbbh {O : Orc} {H : Hp} {vs : List V} : vcall T O F.zmf vs H = (args H [0, 0] vs).bind fun p => vk H p.2 [0, 0] vs (O.deep F.zmf p.1) := zh2 z8l rfl
theorem zbbi : zor.res = [.cell 4 3 true] := rfl
theorem zbbj : zor.rets = [[]] := rfl
theorem zbbk : zor.body = (.seq (.reg o_18_1) zop) := rfl
def zbbl := And.intro (@ru_of T _ _ o_19_1.eq_1) <| And.intro (@ru_of T _ _ o_19_2.eq_1) <| And.intro (@ru_of T _ _ o_19_3.eq_1) <| And.intro (@ex_of T _ _ c_19_4.eq_1) <| @ex_of T _ _ c_19_5.eq_1
theorem zbbm {O : Orc} {H : Hp} {vs : List V} : vcall T O F.zmx vs H = (args H [0] vs).bind fun p => vk H p.2 [0] vs (O.deep F.zmx p.1) := zh2 z8m rfl
theorem zbbn : zot.res = [.cell 2 3 true, .tmp 3] := rfl
theorem zbbo : zot.rets = [[], []] := rfl
theorem zbbp : zot.body = (.seq (.reg o_19_1) c_19_5) := rfl
def zbbq := And.intro (@ru_of T _ _ o_20_1.eq_1) <| And.intro (@ru_of T _ _ o_20_2.eq_1) <| And.intro (@ru_of T _ _ o_20_3.eq_1) <| And.intro (@ru_of T _ _ o_20_4.eq_1) <| And.intro (@ru_of T _ _ o_20_5.eq_1) <| And.intro (@ru_of T _ _ o_20_6.eq_1) <| And.intro (@ex_of T _ _ c_20_7.eq_1) <| And.intro (@ex_of T _ _ c_20_8.eq_1) <| And.intro (@ru_of T _ _ o_20_9.eq_1) <| And.intro (@ex_of T _ _ zou.eq_1) <| And.intro (@ex_of T _ _ zov.eq_1) <| And.intro (@ex_of T _ _ zow.eq_1) <| And.intro (@ex_of T _ _ zox.eq_1) <| And.intro (@ex_of T _ _ zoy.eq_1) <| And.intro (@ru_of T _ _ zoz.eq_1) <| And.intro (@ex_of T _ _ zo0.eq_1) <| @ex_of T _ _ zo1.eq_1
theorem zbbr {O : Orc} {H : Hp} {vs : List V} : vcall T O F.zkk vs H = (args H [0, 0] vs).bind fun p => vk H p.2 [0, 0] vs (O.deep F.zkk p.1) := zh2 z8n rfl
theorem zbbs : zo3.res = [.tmp 4] := rfl
theorem zbbt : zo3.rets = [[]] := rfl
theorem zbbu : zo3.body = (.seq (.reg o_20_1) zo1) := rfl
def zbbv := And.intro (@ru_of T _ _ o_21_1.eq_1) <| And.intro (@ru_of T _ _ o_21_2.eq_1) <| And.intro (@ru_of T _ _ o_21_3.eq_1) <| And.intro (@ex_of T _ _ c_21_4.eq_1) <| And.intro (@ru_of T _ _ o_21_5.eq_1) <| And.intro (@ru_of T _ _ o_21_6.eq_1) <| And.intro (@ru_of T _ _ o_21_7.eq_1) <| And.intro (@ex_of T _ _ c_21_8.eq_1) <| And.intro (@ex_of T _ _ c_21_9.eq_1) <| And.intro (@ex_of T _ _ zo4.eq_1) <| And.intro (@ex_of T _ _ zo5.eq_1) <| And.intro (@ru_of T _ _ zo6.eq_1) <| And.intro (@ex_of T _ _ zo7.eq_1) <| And.intro (@ex_of T _ _ zo8.eq_1) <| @ex_of T _ _ zo9.eq_1
theorem zbbw {O : Orc} {H : Hp} {vs : List V} : vcall T O F.zkz vs H = (args H [0, 0] vs).bind fun p => vk H p.2 [0, 0] vs (O.deep F.zkz p.1) := zh2 z8o rfl
theorem zbbx : zpb.res = [.tmp 4] := rfl
theorem zbby : zpb.rets = [[2]] := rfl
theorem zbbz : zpb.body = (.seq (.reg o_21_1) zo9) := rfl
def zbb0 := And.intro (@ru_of T _ _ o_22_1.eq_1) <| And.intro (@ru_of T _ _ o_22_2.eq_1) <| And.intro (@ru_of T _ _ o_22_3.eq_1) <| And.intro (@ru_of T _ _ o_22_4.eq_1) <| And.intro (@ru_of T _ _ o_22_5.eq_1) <| And.intro (@ru_of T _ _ o_22_6.eq_1) <| And.intro (@ru_of T _ _ o_22_7.eq_1) <| And.intro (@ex_of T _ _ c_22_8.eq_1) <| And.intro (@ex_of T _ _ c_22_9.eq_1) <| And.intro (@ex_of T _ _ zpc.eq_1) <| And.intro (@ru_of T _ _ zpd.eq_1) <| And.intro (@ex_of T _ _ zpe.eq_1) <| And.intro (@ex_of T _ _ zpf.eq_1) <| And.intro (@ex_of T _ _ zpg.eq_1) <| And.intro (@ex_of T _ _ zph.eq_1) <| And.intro (@ex_of T _ _ zpi.eq_1) <| And.intro (@ru_of T _ _ zpj.eq_1) <| And.intro (@ru_of T _ _ zpk.eq_1) <| And.intro (@ru_of T _ _ zpl.eq_1) <| And.intro (@ru_of T _ _ zpm.eq_1) <| And.intro (@ru_of T _ _ zpn.eq_1) <| And.intro (@ex_of T _ _ zpo.eq_1) <| And.intro (@ru_of T _ _ zpp.eq_1) <| And.intro (@ex_of T _ _ zpq.eq_1) <| And.intro (@ex_of T _ _ zpr.eq_1) <| And.intro (@ex_of T _ _ zps.eq_1) <| And.intro (@ex_of T _ _ zpt.eq_1) <| And.intro (@ex_of T _ _ zpu.eq_1) <| And.intro (@ru_of T _ _ zpv.eq_1) <| And.intro (@ex_of T _ _ zpw.eq_1) <| And.intro (@ex_of T _ _ zpx.eq_1) <| And.intro (@ex_of T _ _ zpy.eq_1) <| And.intro (@ex_of T _ _ zpz.eq_1) <| @ex_of T _ _ zp0.eq_1
theorem zbb1 {O : Orc} {H : Hp} {vs : List V} : vcall T O F.zkc vs H = (args H [0] vs).bind fun p => vk H p.2 [0] vs (O.deep F.zkc p.1) := zh2 z8p rfl
theorem zbb2 : zp2.res = [.tmp 2] := rfl
theorem zbb3 : zp2.rets = [[2]] := rfl
theorem zbb4 : zp2.body = (.seq (.reg o_22_1) zp0) := rfl
def zbb5 := And.intro (@ru_of T _ _ o_23_1.eq_1) <| And.intro (@ru_of T _ _ o_23_2.eq_1) <| And.intro (@ru_of T _ _ o_23_3.eq_1) <| And.intro (@ru_of T _ _ o_23_4.eq_1) <| And.intro (@ru_of T _ _ o_23_5.eq_1) <| And.intro (@ru_of T _ _ o_23_6.eq_1) <| And.intro (@ex_of T _ _ c_23_7.eq_1) <| And.intro (@ru_of T _ _ o_23_8.eq_1) <| And.intro (@ex_of T _ _ c_23_9.eq_1) <| And.intro (@ex_of T _ _ zp3.eq_1) <| And.intro (@ex_of T _ _ zp4.eq_1) <| And.intro (@ex_of T _ _ zp5.eq_1) <| And.intro (@ex_of T _ _ zp6.eq_1) <| And.intro (@ru_of T _ _ zp7.eq_1) <| And.intro (@ex_of T _ _ zp8.eq_1) <| And.intro (@ex_of T _ _ zp9.eq_1) <| @ex_of T _ _ zqa.eq_1
theorem zbb6 {O : Orc} {H : Hp} {vs : List V} : vcall T O F.zk1 vs H = (args H [0] vs).bind fun p => vk H p.2 [0] vs (O.deep F.zk1 p.1) := zh2 z8q rfl
theorem zbb7 : zqc.res = [.tmp 2] := rfl
theorem zbb8 : zqc.rets = [[2]] := rfl
theorem zbb9 : zqc.body = (.seq (.reg o_23_1) zqa) := rfl
def zbca := And.intro (@ru_of T _ _ o_29_1.eq_1) <| And.intro (@ru_of T _ _ o_29_2.eq_1) <| @ex_of T _ _ c_29_3.eq_1
theorem zbcb {O : Orc} {H : Hp} {vs : List V} : vcall T O F.zju vs H = (args H [0] vs).bind fun p => vk H p.2 [0] vs (O.deep F.zju p.1) := zh2 z8r rfl
theorem zbcc : zqe.res = [.tmp 2] := rfl
theorem zbcd : zqe.rets = [[]] := rfl
theorem zbce : zqe.body = (.seq (.reg o_29_1) c_29_3) := rfl
def zbcf := And.intro (@ru_of T _ _ o_30_1.eq_1) <| And.intro (@ru_of T _ _ o_30_2.eq_1) <| And.intro (@ru_of T _ _ o_30_3.eq_1) <| And.intro (@ex_of T _ _ c_30_4.eq_1) <| @ex_of T _ _ c_30_5.eq_1
theorem zbcg {O : Orc} {H : Hp} {vs : List V} : vcall T O F.zke vs H = (args H [0] vs).bind fun p => vk H p.2 [0] vs (O.deep F.zke p.1) := zh2 z8s rfl
theorem zbch : zqg.res = [.tmp 2] := rfl
theorem zbci : zqg.rets = [[2]] := rfl
theorem zbcj : zqg.body = (.seq (.reg o_30_1) c_30_5) := rfl
def zbck := And.intro (@ru_of T _ _ o_31_1.eq_1) <| And.intro (@ru_of T _ _ o_31_2.eq_1) <| And.intro (@ru_of T _ _ o_31_3.eq_1) <| And.intro (@ex_of T _ _ c_31_4.eq_1) <| And.intro (@ru_of T _ _ o_31_5.eq_1) <| And.intro (@ex_of T _ _ c_31_6.eq_1) <| @ex_of T _ _ c_31_7.eq_1
theorem zbcl {O : Orc} {H : Hp} {vs : List V} : vcall T O F.zjx vs H = (args H [2, 0] vs).bind fun p => vk H p.2 [2, 0] vs (O.deep F.zjx p.1) := zh2 z8t rfl
theorem zbcm : zqi.res = [.tmp 4] := rfl
theorem zbcn : zqi.rets = [[2]] := rfl
theorem zbco : zqi.body = (.seq (.reg o_31_1) c_31_7) := rfl
def zbcp := And.intro (@ru_of T _ _ o_34_1.eq_1) <| And.intro (@ru_of T _ _ o_34_2.eq_1) <| And.intro (@ru_of T _ _ o_34_3.eq_1) <| And.intro (@ex_of T _ _ c_34_4.eq_1) <| @ex_of T _ _ c_34_5.eq_1
theorem zbcq {O : Orc} {H : Hp} {vs : List V} : vcall T O F.zli vs H = (args H [0] vs).bind fun p => vk H p.2 [0] vs (O.deep F.zli p.1) := zh2 z8u rfl
theorem zbcr : zqk.res = [.tmp 2, .tmp 3] := rfl
theorem zbcs : zqk.rets = [[2], []] := rfl
theorem zbct : zqk.body = (.seq (.reg o_34_1) c_34_5) := rfl
def zbcu := And.intro (@ru_of T _ _ o_35_1.eq_1) <| And.intro (@ru_of T _ _ o_35_2.eq_1) <| And.intro (@ru_of T _ _ o_35_3.eq_1) <| And.intro (@ru_of T _ _ o_35_4.eq_1) <| And.intro (@ex_of T _ _ c_35_5.eq_1) <| And.intro (@ex_of T _ _ c_35_6.eq_1) <| And.intro (@ru_of T _ _ o_35_7.eq_1) <| And.intro (@ru_of T _ _ o_35_8.eq_1) <| And.intro (@ru_of T _ _ o_35_9.eq_1) <| And.intro (@ru_of T _ _ zql.eq_1) <| And.intro (@ru_of T _ _ zqm.eq_1) <| And.intro (@ru_of T _ _ zqn.eq_1) <| And.intro (@ex_of T _ _ zqo.eq_1) <| And.intro (@ex_of T _ _ zqp.eq_1) <| And.intro (@ex_of T _ _ zqq.eq_1) <| And.intro (@ru_of T _ _ zqr.eq_1) <| And.intro (@ex_of T _ _ zqs.eq_1) <| And.intro (@ex_of T _ _ zqt.eq_1) <| And.intro (@ex_of T _ _ zqu.eq_1) <| And.intro (@ex_of T _ _ zqv.eq_1) <| And.intro (@ex_of T _ _ zqw.eq_1) <| And.intro (@ru_of T _ _ zqx.eq_1) <| And.intro (@ex_of T _ _ zqy.eq_1) <| And.intro (@ex_of T _ _ zqz.eq_1) <| @ex_of T _ _ zq0.eq_1
theorem zbcv {O : Orc} {H : Hp} {vs : List V} : vcall T O F.zm0 vs H = ik (O.inl F.zm0 vs H) := zh3 z8v rfl
theorem zbcw {n : Nat} {H : Hp} {vs : List V} : (orc T (n + 1)).inl F.zm0 vs H = finI H.length false [.tmp 4, .tmp 5] (unw T (orc T n) n H.length [] (exec T (orc T n) n H.length (.seq (.reg o_35_1) zq0) (params 0 vs) H)) := by rw [zh1, z8v, Option.bind_some, zhz]; rfl
def zbcx := And.intro (@ru_of T _ _ o_36_1.eq_1) <| And.intro (@ru_of T _ _ o_36_2.eq_1) <| And.intro (@ru_of T _ _ o_36_3.eq_1) <| And.intro (@ex_of T _ _ c_36_4.eq_1) <| And.intro (@ru_of T _ _ o_36_5.eq_1) <| And.intro (@ex_of T _ _ c_36_6.eq_1) <| @ex_of T _ _ c_36_7.eq_1
theorem zbcy {O : Orc} {H : Hp} {vs : List V} : vcall T O F.zl1 vs H = (args H [0] vs).bind fun p => vk H p.2 [0] vs (O.deep F.zl1 p.1) := zh2 z8w rfl
theorem zbcz : zq4.res = [.tmp 2] := rfl
theorem zbc0 : zq4.rets = [[]] := rfl
theorem zbc1 : zq4.body = (.seq (.reg o_36_1) c_36_7) := rfl
def zbc2 := And.intro (@ru_of T _ _ o_37_1.eq_1) <| And.intro (@ru_of T _ _ o_37_2.eq_1) <| And.intro (@ru_of T _ _ o_37_3.eq_1) <| And.intro (@ex_of T _ _ c_37_4.eq_1) <| And.intro (@ru_of T _ _ o_37_5.eq_1) <| And.intro (@ru_of T _ _ o_37_6.eq_1) <| And.intro (@ex_of T _ _ c_37_7.eq_1) <| And.intro (@ru_of T _ _ o_37_8.eq_1) <| And.intro (@ru_of T _ _ o_37_9.eq_1) <| And.intro (@ex_of T _ _ zq5.eq_1) <| And.intro (@ru_of T _ _ zq6.eq_1) <| And.intro (@ex_of T _ _ zq7.eq_1) <| And.intro (@ex_of T _ _ zq8.eq_1) <| And.intro (@ex_of T _ _ zq9.eq_1) <| And.intro (@ex_of T _ _ zra.eq_1) <| And.intro (@ru_of T _ _ zrb.eq_1) <| And.intro (@ex_of T _ _ zrc.eq_1) <| And.intro (@ex_of T _ _ zrd.eq_1) <| @ex_of T _ _ zre.eq_1
theorem zbc3 {O : Orc} {H : Hp} {vs : List V} : vcall T O F.zmh vs H = (args H [0, 0] vs).bind fun p => vk H p.2 [0, 0] vs (O.deep F.zmh p.1) := zh2 z8x rfl
theorem zbc4 : zrg.res = [.tmp 4] := rfl
theorem zbc5 : zrg.rets = [[]] := rfl
theorem zbc6 : zrg.body = (.seq (.reg o_37_1) zre) := rfl
def zbc7 := And.intro (@ru_of T _ _ o_38_1.eq_1) <| And.intro (@ru_of T _ _ o_38_2.eq_1) <| And.intro (@ru_of T _ _ o_38_3.eq_1) <| And.intro (@ex_of T _ _ c_38_4.eq_1) <| And.intro (@ru_of T _ _ o_38_5.eq_1) <| And.intro (@ru_of T _ _ o_38_6.eq_1) <| And.intro (@ex_of T _ _ c_38_7.eq_1) <| And.intro (@ru_of T _ _ o_38_8.eq_1) <| And.intro (@ru_of T _ _ o_38_9.eq_1) <| And.intro (@ex_of T _ _ zrh.eq_1) <| And.intro (@ru_of T _ _ zri.eq_1) <| And.intro (@ex_of T _ _ zrj.eq_1) <| And.intro (@ex_of T _ _ zrk.eq_1) <| And.intro (@ex_of T _ _ zrl.eq_1) <| @ex_of T _ _ zrm.eq_1
theorem zbc8 {O : Orc} {H : Hp} {vs : List V} : vcall T O F.zmc vs H = (args H [0, 0] vs).bind fun p => vk H p.2 [0, 0] vs (O.deep F.zmc p.1) := zh2 z8y rfl
theorem zbc9 : zro.res = [.cell 4 7 true, .tmp 5] := rfl
theorem zbda : zro.rets = [[], []] := rfl
theorem zbdb : zro.body = (.seq (.reg o_38_1) zrm) := rfl
def zbdc := And.intro (@ru_of T _ _ o_39_1.eq_1) <| And.intro (@ru_of T _ _ o_39_2.eq_1) <| And.intro (@ru_of T _ _ o_39_3.eq_1) <| And.intro (@ru_of T _ _ o_39_4.eq_1) <| And.intro (@ru_of T _ _ o_39_5.eq_1) <| And.intro (@ru_of T _ _ o_39_6.eq_1) <| And.intro (@ex_of T _ _ c_39_7.eq_1) <| And.intro (@ex_of T _ _ c_39_8.eq_1) <| And.intro (@ru_of T _ _ o_39_9.eq_1) <| And.intro (@ru_of T _ _ zrp.eq_1) <| And.intro (@ru_of T _ _ zrq.eq_1) <| And.intro (@ru_of T _ _ zrr.eq_1) <| And.intro (@ru_of T _ _ zrs.eq_1) <| And.intro (@ex_of T _ _ zrt.eq_1) <| And.intro (@ex_of T _ _ zru.eq_1) <| And.intro (@ru_of T _ _ zrv.eq_1) <| And.intro (@ru_of T _ _ zrw.eq_1) <| And.intro (@df_of T _ _ [(4, 1), (5, 1)] zrw.eq_1) <| And.intro (@ru_of T _ _ zrx.eq_1) <| And.intro (@ex_of T _ _ zry.eq_1) <| And.intro (@ru_of T _ _ zrz.eq_1) <| And.intro (@ex_of T _ _ zr0.eq_1) <| And.intro (@ex_of T _ _ zr1.eq_1) <| And.intro (@ex_of T _ _ zr2.eq_1) <| And.intro (@ex_of T _ _ zr3.eq_1) <| And.intro (@ex_of T _ _ zr4.eq_1) <| And.intro (@ex_of T _ _ zr5.eq_1) <| And.intro (@ex_of T _ _ zr6.eq_1) <| @ex_of T _ _ zr7.eq_1
theorem zbdd {O : Orc} {H : Hp} {vs : List V} : vcall T O F.zmw vs H = (args H [0] vs).bind fun p => vk H p.2 [0] vs (O.deep F.zmw p.1) := zh2 z8z rfl
theorem zbde : zr9.res = [.cell 2 3 true, .tmp 3, .tmp 4] := rfl
theorem zbdf : zr9.rets = [[], [2], []] := rfl
theorem zbdg : zr9.body = (.seq (.reg o_39_1) zr7) := rfl
def zbdh := And.intro (@ru_of T _ _ o_40_1.eq_1) <| And.intro (@ru_of T _ _ o_40_2.eq_1) <| @ex_of T _ _ c_40_3.eq_1
theorem zbdi {O : Orc} {H : Hp} {vs : List V} : vcall T O F.zki vs H = (args H [0] vs).bind fun p => vk H p.2 [0] vs (O.deep F.zki p.1) := zh2 z80 rfl
theorem zbdj : zsb.res = [.tmp 2] := rfl
theorem zbdk : zsb.rets = [[]] := rfl
theorem zbdl : zsb.body = (.seq (.reg o_40_1) c_40_3) := rfl
def zbdm := And.intro (@ru_of T _ _ o_41_1.eq_1) <| And.intro (@ru_of T _ _ o_41_2.eq_1) <| And.intro (@ru_of T _ _ o_41_3.eq_1) <| And.intro (@ru_of T _ _ o_41_4.eq_1) <| And.intro (@ex_of T _ _ c_41_5.eq_1) <| And.intro (@ex_of T _ _ c_41_6.eq_1) <| And.intro (@ru_of T _ _ o_41_7.eq_1) <| And.intro (@ru_of T _ _ o_41_8.eq_1) <| And.intro (@ru_of T _ _ o_41_9.eq_1) <| And.intro (@ru_of T _ _ zsc.eq_1) <| And.intro (@ru_of T _ _ zsd.eq_1) <| And.intro (@ru_of T _ _ zse.eq_1) <| And.intro (@ex_of T _ _ zsf.eq_1) <| And.intro (@ex_of T _ _ zsg.eq_1) <| And.intro (@ru_of T _ _ zsh.eq_1) <| And.intro (@ex_of T _ _ zsi.eq_1) <| And.intro (@ex_of T _ _ zsj.eq_1) <| And.intro (@ex_of T _ _ zsk.eq_1) <| And.intro (@ex_of T _ _ zsl.eq_1) <| And.intro (@ex_of T _ _ zsm.eq_1) <| And.intro (@ru_of T _ _ zsn.eq_1) <| And.intro (@ex_of T _ _ zso.eq_1) <| And.intro (@ex_of T _ _ zsp.eq_1) <| And.intro (@ex_of T _ _ zsq.eq_1) <| @ex_of T _ _ zsr.eq_1
theorem zbdn {O : Orc} {H : Hp} {vs : List V} : vcall T O F.zkx vs H = (args H [0, 0] vs).bind fun p => vk H p.2 [0, 0] vs (O.deep F.zkx p.1) := zh2 z81 rfl
theorem zbdo : zst.res = [.tmp 4] := rfl
theorem zbdp : zst.rets = [[2]] := rfl
theorem zbdq : zst.body = (.seq (.reg o_41_1) zsr) := rfl
def zbdr := And.intro (@ru_of T _ _ o_42_1.eq_1) <| And.intro (@ru_of T _ _ o_42_2.eq_1) <| And.intro (@ex_of T _ _ c_42_3.eq_1) <| And.intro (@ru_of T _ _ o_42_4.eq_1) <| And.intro (@ru_of T _ _ o_42_5.eq_1) <| And.intro (@ru_of T _ _ o_42_6.eq_1) <| And.intro (@ex_of T _ _ c_42_7.eq_1) <| And.intro (@ex_of T _ _ c_42_8.eq_1) <| And.intro (@ru_of T _ _ o_42_9.eq_1) <| And.intro (@ex_of T _ _ zsu.eq_1) <| And.intro (@ex_of T _ _ zsv.eq_1) <| @ex_of T _ _ zsw.eq_1
theorem zbds {O : Orc} {H : Hp} {vs : List V} : vcall T O F.zm1 vs H = ik (O.inl F.zm1 vs H) := zh3 z82 rfl
theorem zbdt {n : Nat} {H : Hp} {vs : List V} : (orc T (n + 1)).inl F.zm1 vs H = finI H.length false [.tmp 4] (unw T (orc T n) n H.length [] (exec T (orc T n) n H.length (.seq (.reg o_42_1) zsw) (params 0 vs) H)) := by rw [zh1, z82, Option.bind_some, zhz]; rfl
def zbdu := And.intro (@ru_of T _ _ o_47_1.eq_1) <| And.intro (@ru_of T _ _ o_47_2.eq_1) <| And.intro (@ru_of T _ _ o_47_3.eq_1) <| And.intro (@ex_of T _ _ c_47_4.eq_1) <| And.intro (@ru_of T _ _ o_47_5.eq_1) <| And.intro (@ru_of T _ _ o_47_6.eq_1) <| And.intro (@ex_of T _ _ c_47_7.eq_1) <| And.intro (@ex_of T _ _ c_47_8.eq_1) <| @ex_of T _ _ c_47_9.eq_1
theorem zbdv {O : Orc} {H : Hp} {vs : List V} : vcall T O F.zkd vs H = (args H [0] vs).bind fun p => vk H p.2 [0] vs (O.deep F.zkd p.1) := zh2 z83 rfl
theorem zbdw : zs0.res = [.tmp 2, .tmp 3] := rfl
theorem zbdx : zs0.rets = [[2], []] := rfl
theorem zbdy : zs0.body = (.seq (.reg o_47_1) c_47_9) := rfl
def zbdz := And.intro (@ru_of T _ _ o_48_1.eq_1) <| And.intro (@ru_of T _ _ o_48_2.eq_1) <| And.intro (@ex_of T _ _ c_48_3.eq_1) <| And.intro (@ru_of T _ _ o_48_4.eq_1) <| And.intro (@ru_of T _ _ o_48_5.eq_1) <| And.intro (@ex_of T _ _ c_48_6.eq_1) <| And.intro (@ex_of T _ _ c_48_7.eq_1) <| And.intro (@ex_of T _ _ c_48_8.eq_1) <| And.intro (@ru_of T _ _ o_48_9.eq_1) <| And.intro (@ex_of T _ _ zs1.eq_1) <| @ex_of T _ _ zs2.eq_1
theorem zbd0 {O : Orc} {H : Hp} {vs : List V} : vcall T O F.zjw vs H = (args H [2, 0] vs).bind fun p => vk H p.2 [2, 0] vs (O.deep F.zjw p.1) := zh2 z84 rfl
theorem zbd1 : zs4.res = [.tmp 4] := rfl
theorem zbd2 : zs4.rets = [[2]] := rfl
theorem zbd3 : zs4.body = (.seq (.reg o_48_1) zs2) := rfl
def zbd4 := And.intro (@ru_of T _ _ o_51_1.eq_1) <| And.intro (@ru_of T _ _ o_51_2.eq_1) <| And.intro (@ex_of T _ _ c_51_3.eq_1) <| And.intro (@ru_of T _ _ o_51_4.eq_1) <| And.intro (@ru_of T _ _ o_51_5.eq_1) <| And.intro (@ru_of T _ _ o_51_6.eq_1) <| And.intro (@ex_of T _ _ c_51_7.eq_1) <| And.intro (@ru_of T _ _ o_51_8.eq_1) <| And.intro (@ru_of T _ _ o_51_9.eq_1) <| And.intro (@ex_of T _ _ zs5.eq_1) <| And.intro (@ex_of T _ _ zs6.eq_1) <| And.intro (@ex_of T _ _ zs7.eq_1) <| And.intro (@ex_of T _ _ zs8.eq_1) <| And.intro (@ex_of T _ _ zs9.eq_1) <| And.intro (@ru_of T _ _ zta.eq_1) <| And.intro (@ex_of T _ _ ztb.eq_1) <| @ex_of T _ _ ztc.eq_1
theorem zbd5 {O : Orc} {H : Hp} {vs : List V} : vcall T O F.zlh vs H = (args H [0] vs).bind fun p => vk H p.2 [0] vs (O.deep F.zlh p.1) := zh2 z85 rfl
theorem zbd6 : zte.res = [.tmp 2, .tmp 3, .tmp 4] := rfl
theorem zbd7 : zte.rets = [[2], [], []] := rfl
theorem zbd8 : zte.body = (.seq (.reg o_51_1) ztc) := rfl
def zbd9 := And.intro (@ru_of T _ _ o_52_1.eq_1) <| And.intro (@ru_of T _ _ o_52_2.eq_1) <| And.intro (@ru_of T _ _ o_52_3.eq_1) <| And.intro (@ex_of T _ _ c_52_4.eq_1) <| And.intro (@ru_of T _ _ o_52_5.eq_1) <| And.intro (@ru_of T _ _ o_52_6.eq_1) <| And.intro (@ru_of T _ _ o_52_7.eq_1) <| And.intro (@ru_of T _ _ o_52_8.eq_1) <| And.intro (@ru_of T _ _ o_52_9.eq_1) <| And.intro (@ru_of T _ _ ztf.eq_1) <| And.intro (@ru_of T _ _ ztg.eq_1) <| And.intro (@ru_of T _ _ zth.eq_1) <| And.intro (@ru_of T _ _ zti.eq_1) <| And.intro (@ex_of T _ _ ztj.eq_1) <| And.intro (@ex_of T _ _ ztk.eq_1) <| And.intro (@ru_of T _ _ ztl.eq_1) <| And.intro (@ex_of T _ _ ztm.eq_1) <| And.intro (@ex_of T _ _ ztn.eq_1) <| And.intro (@ex_of T _ _ zto.eq_1) <| And.intro (@ru_of T _ _ ztp.eq_1) <| And.intro (@ex_of T _ _ ztq.eq_1) <| And.intro (@ex_of T _ _ ztr.eq_1) <| And.intro (@ex_of T _ _ zts.eq_1) <| And.intro (@ex_of T _ _ ztt.eq_1) <| And.intro (@ex_of T _ _ ztu.eq_1) <| And.intro (@ru_of T _ _ ztv.eq_1) <| And.intro (@ru_of T _ _ ztw.eq_1) <| And.intro (@ru_of T _ _ ztx.eq_1) <| And.intro (@ru_of T _ _ zty.eq_1) <| And.intro (@ru_of T _ _ ztz.eq_1) <| And.intro (@ru_of T _ _ zt0.eq_1) <| And.intro (@ex_of T _ _ zt1.eq_1) <| And.intro (@ex_of T _ _ zt2.eq_1) <| And.intro (@ex_of T _ _ zt3.eq_1) <| And.intro (@ru_of T _ _ zt4.eq_1) <| And.intro (@df_of T _ _ [(6, 12), (8, 12)] zt4.eq_1) <| And.intro (@ru_of T _ _ zt5.eq_1) <| And.intro (@ex_of T _ _ zt6.eq_1) <| And.intro (@ex_of T _ _ zt7.eq_1) <| And.intro (@ex_of T _ _ zt8.eq_1) <| And.intro (@ex_of T _ _ zt9.eq_1) <| And.intro (@ex_of T _ _ zua.eq_1) <| And.intro (@ex_of T _ _ zub.eq_1) <| @ex_of T _ _ zuc.eq_1
theorem zbea {O : Orc} {H : Hp} {vs : List V} : vcall T O F.zm2 vs H = ik (O.inl F.zm2 vs H) := zh3 z86 rfl
theorem zbeb {n : Nat} {H : Hp} {vs : List V} : (orc T (n + 1)).inl F.zm2 vs H = finI H.length false [.tmp 4] (unw T (orc T n) n H.length [] (exec T (orc T n) n H.length (.seq (.reg o_52_1) zuc) (params 0 vs) H)) := by rw [zh1, z86, Option.bind_some, zhz]; rfl
def zbec := And.intro (@ru_of T _ _ o_53_1.eq_1) <| And.intro (@ru_of T _ _ o_53_2.eq_1) <| And.intro (@ru_of T _ _ o_53_3.eq_1) <| And.intro (@ru_of T _ _ o_53_4.eq_1) <| And.intro (@ru_of T _ _ o_53_5.eq_1) <| And.intro (@ru_of T _ _ o_53_6.eq_1) <| And.intro (@ex_of T _ _ c_53_7.eq_1) <| And.intro (@ru_of T _ _ o_53_8.eq_1) <| And.intro (@ex_of T _ _ c_53_9.eq_1) <| And.intro (@ru_of T _ _ zuf.eq_1) <| And.intro (@ru_of T _ _ zug.eq_1) <| And.intro (@ru_of T _ _ zuh.eq_1) <| And.intro (@ru_of T _ _ zui.eq_1) <| And.intro (@ru_of T _ _ zuj.eq_1) <| And.intro (@ex_of T _ _ zuk.eq_1) <| And.intro (@ex_of T _ _ zul.eq_1) <| And.intro (@ru_of T _ _ zum.eq_1) <| And.intro (@ru_of T _ _ zun.eq_1) <| And.intro (@ex_of T _ _ zuo.eq_1) <| And.intro (@ex_of T _ _ zup.eq_1) <| And.intro (@ex_of T _ _ zuq.eq_1) <| And.intro (@ex_of T _ _ zur.eq_1) <| And.intro (@ex_of T _ _ zus.eq_1) <| And.intro (@ex_of T _ _ zut.eq_1) <| @ex_of T _ _ zuu.eq_1
theorem zbed {O : Orc} {H : Hp} {vs : List V} : vcall T O F.zm3 vs H = ik (O.inl F.zm3 vs H) := zh3 z87 rfl
theorem zbee {n : Nat} {H : Hp} {vs : List V} : (orc T (n + 1)).inl F.zm3 vs H = finI H.length false [.tmp 4] (unw T (orc T n) n H.length [] (exec T (orc T n) n H.length (.seq (.reg o_53_1) zuu) (params 0 vs) H)) := by rw [zh1, z87, Option.bind_some, zhz]; rfl
def zbef := And.intro (@ru_of T _ _ o_54_1.eq_1) <| And.intro (@ru_of T _ _ o_54_2.eq_1) <| And.intro (@ru_of T _ _ o_54_3.eq_1) <| And.intro (@ru_of T _ _ o_54_4.eq_1) <| And.intro (@ex_of T _ _ c_54_5.eq_1) <| And.intro (@ru_of T _ _ o_54_6.eq_1) <| And.intro (@ex_of T _ _ c_54_7.eq_1) <| And.intro (@ex_of T _ _ c_54_8.eq_1) <| @ex_of T _ _ c_54_9.eq_1
theorem zbeg {O : Orc} {H : Hp} {vs : List V} : vcall T O F.zmj vs H = (args H [0] vs).bind fun p => vk H p.2 [0] vs (O.deep F.zmj p.1) := zh2 z88 rfl
theorem zbeh : zuy.res = [.tmp 2, .tmp 3] := rfl
theorem zbei : zuy.rets = [[2], []] := rfl
theorem zbej : zuy.body = (.seq (.reg o_54_1) c_54_9) := rfl
def zbek := And.intro (@ru_of T _ _ o_55_1.eq_1) <| And.intro (@ru_of T _ _ o_55_2.eq_1) <| And.intro (@ru_of T _ _ o_55_3.eq_1) <| And.intro (@ru_of T _ _ o_55_4.eq_1) <| And.intro (@ru_of T _ _ o_55_5.eq_1) <| And.intro (@ru_of T _ _ o_55_6.eq_1) <| And.intro (@ex_of T _ _ c_55_7.eq_1) <| And.intro (@ru_of T _ _ o_55_8.eq_1) <| And.intro (@ex_of T _ _ c_55_9.eq_1) <| And.intro (@ex_of T _ _ zuz.eq_1) <| And.intro (@ex_of T _ _ zu0.eq_1) <| And.intro (@ex_of T _ _ zu1.eq_1) <| And.intro (@ex_of T _ _ zu2.eq_1) <| And.intro (@ru_of T _ _ zu3.eq_1) <| And.intro (@ex_of T _ _ zu4.eq_1) <| And.intro (@ex_of T _ _ zu5.eq_1) <| @ex_of T _ _ zu6.eq_1
theorem zbel {O : Orc} {H : Hp} {vs : List V} : vcall T O F.zml vs H = (args H [0] vs).bind fun p => vk H p.2 [0] vs (O.deep F.zml p.1) := zh2 z89 rfl
theorem zbem : zu8.res = [.tmp 2] := rfl
theorem zben : zu8.rets = [[2]] := rfl
theorem zbeo : zu8.body = (.seq (.reg o_55_1) zu6) := rfl
def zbep := And.intro (@ru_of T _ _ o_56_1.eq_1) <| And.intro (@ru_of T _ _ o_56_2.eq_1) <| @ex_of T _ _ c_56_3.eq_1
theorem zbeq {O : Orc} {H : Hp} {vs : List V} : vcall T O F.zlo vs H = (args H [0, 0] vs).bind fun p => vk H p.2 [0, 0] vs (O.deep F.zlo p.1) := zh2 z9a rfl
theorem zber : zva.res = [.tmp 4] := rfl
theorem zbes : zva.rets = [[]] := rfl
theorem zbet : zva.body = (.seq (.reg o_56_1) c_56_3) := rfl
def zbeu := And.intro (@ru_of T _ _ o_57_1.eq_1) <| And.intro (@ru_of T _ _ o_57_2.eq_1) <| And.intro (@dr_of T _ _ [(10, 13), (18, 21)] o_57_2.eq_1 (by decide)) <| @ex_of T _ _ c_57_3.eq_1
theorem zbev {O : Orc} {H : Hp} {vs : List V} : vcall T O F.zkh vs H = (args H [0] vs).bind fun p => vk H p.2 [0] vs (O.deep F.zkh p.1) := zh2 z9b rfl
theorem zbew : zvc.res = [.tmp 2] := rfl
theorem zbex : zvc.rets = [[]] := rfl
theorem zbey : zvc.body = (.seq (.reg o_57_1) c_57_3) := rfl
def zbez := And.intro (@ru_of T _ _ o_58_1.eq_1) <| And.intro (@ru_of T _ _ o_58_2.eq_1) <| And.intro (@ru_of T _ _ o_58_3.eq_1) <| And.intro (@ex_of T _ _ c_58_4.eq_1) <| And.intro (@ru_of T _ _ o_58_5.eq_1) <| And.intro (@ru_of T _ _ o_58_6.eq_1) <| And.intro (@ru_of T _ _ o_58_7.eq_1) <| And.intro (@ru_of T _ _ o_58_8.eq_1) <| And.intro (@ru_of T _ _ o_58_9.eq_1) <| And.intro (@ru_of T _ _ zvd.eq_1) <| And.intro (@df_of T _ _ [(5, 3), (8, 3), (9, 3)] zvd.eq_1) <| And.intro (@ru_of T _ _ zve.eq_1) <| And.intro (@ru_of T _ _ zvf.eq_1) <| And.intro (@ru_of T _ _ zvg.eq_1) <| And.intro (@ex_of T _ _ zvh.eq_1) <| And.intro (@ex_of T _ _ zvi.eq_1) <| And.intro (@ex_of T _ _ zvj.eq_1) <| And.intro (@ex_of T _ _ zvk.eq_1) <| And.intro (@ru_of T _ _ zvl.eq_1) <| And.intro (@ex_of T _ _ zvm.eq_1) <| And.intro (@ex_of T _ _ zvn.eq_1) <| And.intro (@ex_of T _ _ zvo.eq_1) <| And.intro (@ex_of T _ _ zvp.eq_1) <| And.intro (@ex_of T _ _ zvq.eq_1) <| And.intro (@ru_of T _ _ zvr.eq_1) <| And.intro (@ex_of T _ _ zvs.eq_1) <| And.intro (@ex_of T _ _ zvt.eq_1) <| And.intro (@ex_of T _ _ zvu.eq_1) <| And.intro (@ex_of T _ _ zvv.eq_1) <| @ex_of T _ _ zvw.eq_1
theorem zbe0 {O : Orc} {H : Hp} {vs : List V} : vcall T O F.zkr vs H = (args H [0] vs).bind fun p => vk H p.2 [0] vs (O.deep F.zkr p.1) := zh2 z9c rfl
theorem zbe1 : zvy.res = [.tmp 2, .tmp 3] := rfl
theorem zbe2 : zvy.rets = [[2], []] := rfl
theorem zbe3 : zvy.body = (.seq (.reg o_58_1) zvw) := rfl
def zbe4 := And.intro (@ru_of T _ _ o_59_1.eq_1) <| And.intro (@ru_of T _ _ o_59_2.eq_1) <| And.intro (@ru_of T _ _ o_59_3.eq_1) <| And.intro (@ru_of T _ _ o_59_4.eq_1) <| And.intro (@ru_of T _ _ o_59_5.eq_1) <| And.intro (@ru_of T _ _ o_59_6.eq_1) <| And.intro (@ex_of T _ _ c_59_7.eq_1) <| And.intro (@ex_of T _ _ c_59_8.eq_1) <| And.intro (@ru_of T _ _ o_59_9.eq_1) <| And.intro (@ru_of T _ _ zvz.eq_1) <| And.intro (@ru_of T _ _ zv0.eq_1) <| And.intro (@ru_of T _ _ zv1.eq_1) <| And.intro (@ru_of T _ _ zv2.eq_1) <| And.intro (@ex_of T _ _ zv3.eq_1) <| And.intro (@ru_of T _ _ zv4.eq_1) <| And.intro (@ex_of T _ _ zv5.eq_1) <| And.intro (@ex_of T _ _ zv6.eq_1) <| And.intro (@ex_of T _ _ zv7.eq_1) <| And.intro (@ex_of T _ _ zv8.eq_1) <| And.intro (@ex_of T _ _ zv9.eq_1) <| And.intro (@ru_of T _ _ zwa.eq_1) <| And.intro (@ex_of T _ _ zwb.eq_1) <| And.intro (@ex_of T _ _ zwc.eq_1) <| And.intro (@ex_of T _ _ zwd.eq_1) <| And.intro (@ex_of T _ _ zwe.eq_1) <| @ex_of T _ _ zwf.eq_1
theorem zbe5 {O : Orc} {H : Hp} {vs : List V} : vcall T O F.zkv vs H = (args H [0, 0] vs).bind fun p => vk H p.2 [0, 0] vs (O.deep F.zkv p.1) := zh2 z9d rfl
theorem zbe6 : zwh.res = [.tmp 4, .tmp 5] := rfl
theorem zbe7 : zwh.rets = [[2], []] := rfl
theorem zbe8 : zwh.body = (.seq (.reg o_59_1) zwf) := rfl
def zbe9 := And.intro (@ru_of T _ _ o_63_1.eq_1) <| And.intro (@ru_of T _ _ o_63_2.eq_1) <| @ex_of T _ _ c_63_3.eq_1
theorem zbfa {O : Orc} {H : Hp} {vs : List V} : vcall T O F.zj7 vs H = (args H [0, 0] vs).bind fun p => vk H p.2 [0, 0] vs (O.deep F.zj7 p.1) := zh2 z9e rfl
theorem zbfb : zwj.res = [.tmp 4] := rfl
theorem zbfc : zwj.rets = [[2]] := rfl
theorem zbfd : zwj.body = (.seq (.reg o_63_1) c_63_3) := rfl
def zbfe := And.intro (@ru_of T _ _ o_65_1.eq_1) <| And.intro (@ru_of T _ _ o_65_2.eq_1) <| And.intro (@ru_of T _ _ o_65_3.eq_1) <| And.intro (@ex_of T _ _ c_65_4.eq_1) <| And.intro (@ru_of T _ _ o_65_5.eq_1) <| And.intro (@ru_of T _ _ o_65_6.eq_1) <| And.intro (@ru_of T _ _ o_65_7.eq_1) <| And.intro (@ru_of T _ _ o_65_8.eq_1) <| And.intro (@ru_of T _ _ o_65_9.eq_1) <| And.intro (@ru_of T _ _ zwk.eq_1) <| And.intro (@ru_of T _ _ zwl.eq_1) <| And.intro (@ex_of T _ _ zwm.eq_1) <| And.intro (@ex_of T _ _ zwn.eq_1) <| And.intro (@ex_of T _ _ zwo.eq_1) <| And.intro (@ru_of T _ _ zwp.eq_1) <| And.intro (@ru_of T _ _ zwq.eq_1) <| And.intro (@df_of T _ _ [(5, 8)] zwq.eq_1) <| And.intro (@ru_of T _ _ zwr.eq_1) <| And.intro (@ex_of T _ _ zws.eq_1) <| And.intro (@ru_of T _ _ zwt.eq_1) <| And.intro (@ex_of T _ _ zwu.eq_1) <| And.intro (@ex_of T _ _ zwv.eq_1) <| And.intro (@ex_of T _ _ zww.eq_1) <| And.intro (@ex_of T _ _ zwx.eq_1) <| And.intro (@ex_of T _ _ zwy.eq_1) <| @ex_of T _ _ zwz.eq_1
theorem zbff {O : Orc} {H : Hp} {vs : List V} : vcall T O F.zlf vs H = (args H [0] vs).bind fun p => vk H p.2 [0] vs (O.deep F.zlf p.1) := zh2 z9f rfl
theorem zbfg : zw1.res = [.tmp 2, .tmp 3, .tmp 4] := rfl
theorem zbfh : zw1.rets = [[2], [], []] := rfl
theorem zbfi : zw1.body = (.seq (.reg o_65_1) zwz) := rfl
def zbfj := And.intro (@ru_of T _ _ o_66_1.eq_1) <| And.intro (@ru_of T _ _ o_66_2.eq_1) <| And.intro (@ru_of T _ _ o_66_3.eq_1) <| And.intro (@ru_of T _ _ o_66_4.eq_1) <| And.intro (@ex_of T _ _ c_66_5.eq_1) <| And.intro (@ru_of T _ _ o_66_6.eq_1) <| And.intro (@ex_of T _ _ c_66_7.eq_1) <| And.intro (@ex_of T _ _ c_66_8.eq_1) <| @ex_of T _ _ c_66_9.eq_1
theorem zbfk {O : Orc} {H : Hp} {vs : List V} : vcall T O F.zlb vs H = (args H [0] vs).bind fun p => vk H p.2 [0] vs (O.deep F.zlb p.1) := zh2 z9g rfl
theorem zbfl : zw3.res = [.tmp 2, .tmp 3] := rfl
theorem zbfm : zw3.rets = [[], []] := rfl
theorem zbfn : zw3.body = (.seq (.reg o_66_1) c_66_9) := rfl
def zbfo := And.intro (@ru_of T _ _ o_67_1.eq_1) <| And.intro (@ru_of T _ _ o_67_2.eq_1) <| And.intro (@ru_of T _ _ o_67_3.eq_1) <| And.intro (@ru_of T _ _ o_67_4.eq_1) <| And.intro (@ru_of T _ _ o_67_5.eq_1) <| And.intro (@ex_of T _ _ c_67_6.eq_1) <| And.intro (@ru_of T _ _ o_67_7.eq_1) <| And.intro (@ru_of T _ _ o_67_8.eq_1) <| And.intro (@ru_of T _ _ o_67_9.eq_1) <| And.intro (@ru_of T _ _ zw4.eq_1) <| And.intro (@ru_of T _ _ zw5.eq_1) <| And.intro (@ru_of T _ _ zw6.eq_1) <| And.intro (@ru_of T _ _ zw7.eq_1) <| And.intro (@ru_of T _ _ zw8.eq_1) <| And.intro (@ru_of T _ _ zw9.eq_1) <| And.intro (@ex_of T _ _ zxa.eq_1) <| And.intro (@ru_of T _ _ zxb.eq_1) <| And.intro (@ru_of T _ _ zxc.eq_1) <| And.intro (@ru_of T _ _ zxd.eq_1) <| And.intro (@ru_of T _ _ zxe.eq_1) <| And.intro (@df_of T _ _ [(6, 2), (6, 3)] zxe.eq_1) <| And.intro (@ex_of T _ _ zxf.eq_1) <| And.intro (@ex_of T _ _ zxg.eq_1) <| And.intro (@ex_of T _ _ zxh.eq_1) <| And.intro (@ex_of T _ _ zxi.eq_1) <| And.intro (@ex_of T _ _ zxj.eq_1) <| And.intro (@ex_of T _ _ zxk.eq_1) <| And.intro (@ru_of T _ _ zxl.eq_1) <| And.intro (@ex_of T _ _ zxm.eq_1) <| And.intro (@ex_of T _ _ zxn.eq_1) <| And.intro (@ex_of T _ _ zxo.eq_1) <| And.intro (@ex_of T _ _ zxp.eq_1) <| And.intro (@ex_of T _ _ zxq.eq_1) <| And.intro (@ru_of T _ _ zxr.eq_1) <| And.intro (@ru_of T _ _ zxs.eq_1) <| And.intro (@ru_of T _ _ zxt.eq_1) <| And.intro (@ex_of T _ _ zxu.eq_1) <| And.intro (@ex_of T _ _ zxv.eq_1) <| And.intro (@ru_of T _ _ zxw.eq_1) <| And.intro (@ex_of T _ _ zxx.eq_1) <| And.intro (@ex_of T _ _ zxy.eq_1) <| And.intro (@ex_of T _ _ zxz.eq_1) <| And.intro (@ex_of T _ _ zx0.eq_1) <| And.intro (@ex_of T _ _ zx1.eq_1) <| And.intro (@ex_of T _ _ zx2.eq_1) <| And.intro (@ex_of T _ _ zx3.eq_1) <| And.intro (@ex_of T _ _ zx4.eq_1) <| @ex_of T _ _ zx5.eq_1
theorem zbfp {O : Orc} {H : Hp} {vs : List V} : vcall T O F.zlq vs H = (args H [0] vs).bind fun p => vk H p.2 [0] vs (O.deep F.zlq p.1) := zh2 z9h rfl
theorem zbfq : zx7.res = [.tmp 2, .tmp 3] := rfl
theorem zbfr : zx7.rets = [[8], []] := rfl
theorem zbfs : zx7.body = (.seq (.reg o_67_1) zx5) := rfl
def zbft := And.intro (@ru_of T _ _ o_68_1.eq_1) <| And.intro (@ru_of T _ _ o_68_2.eq_1) <| And.intro (@ru_of T _ _ o_68_3.eq_1) <| And.intro (@ex_of T _ _ c_68_4.eq_1) <| And.intro (@ru_of T _ _ o_68_5.eq_1) <| And.intro (@ru_of T _ _ o_68_6.eq_1) <| And.intro (@ru_of T _ _ o_68_7.eq_1) <| And.intro (@ex_of T _ _ c_68_8.eq_1) <| And.intro (@ru_of T _ _ o_68_9.eq_1) <| And.intro (@ru_of T _ _ zx8.eq_1) <| And.intro (@ru_of T _ _ zx9.eq_1) <| And.intro (@ex_of T _ _ zya.eq_1) <| And.intro (@ru_of T _ _ zyb.eq_1) <| And.intro (@df_of T _ _ [(8, 2), (8, 3)] zyb.eq_1) <| And.intro (@ex_of T _ _ zyc.eq_1) <| And.intro (@ex_of T _ _ zyd.eq_1) <| And.intro (@ex_of T _ _ zye.eq_1) <| And.intro (@ex_of T _ _ zyf.eq_1) <| And.intro (@ex_of T _ _ zyg.eq_1) <| And.intro (@ex_of T _ _ zyh.eq_1) <| And.intro (@ru_of T _ _ zyi.eq_1) <| And.intro (@ex_of T _ _ zyj.eq_1) <| And.intro (@ex_of T _ _ zyk.eq_1) <| @ex_of T _ _ zyl.eq_1
theorem zbfu {O : Orc} {H : Hp} {vs : List V} : vcall T O F.zl0 vs H = (args H [0, 0] vs).bind fun p => vk H p.2 [0, 0] vs (O.deep F.zl0 p.1) := zh2 z9i rfl
theorem zbfv : zyn.res = [.tmp 4, .tmp 5] := rfl
theorem zbfw : zyn.rets = [[8], []] := rfl
theorem zbfx : zyn.body = (.seq (.reg o_68_1) zyl) := rfl
def zbfy := And.intro (@ru_of T _ _ o_69_1.eq_1) <| And.intro (@ru_of T _ _ o_69_2.eq_1) <| @ex_of T _ _ c_69_3.eq_1
theorem zbfz {O : Orc} {H : Hp} {vs : List V} : vcall T O F.zkg vs H = (args H [0] vs).bind fun p => vk H p.2 [0] vs (O.deep F.zkg p.1) := zh2 z9j rfl
theorem zbf0 : zyp.res = [.tmp 2] := rfl
theorem zbf1 : zyp.rets = [[]] := rfl
theorem zbf2 : zyp.body = (.seq (.reg o_69_1) c_69_3) := rfl
def zbf3 := And.intro (@ru_of T _ _ o_70_1.eq_1) <| And.intro (@ru_of T _ _ o_70_2.eq_1) <| And.intro (@ru_of T _ _ o_70_3.eq_1) <| And.intro (@ru_of T _ _ o_70_4.eq_1) <| And.intro (@ru_of T _ _ o_70_5.eq_1) <| And.intro (@ru_of T _ _ o_70_6.eq_1) <| And.intro (@ex_of T _ _ c_70_7.eq_1) <| And.intro (@ex_of T _ _ c_70_8.eq_1) <| And.intro (@ru_of T _ _ o_70_9.eq_1) <| And.intro (@ex_of T _ _ zyq.eq_1) <| And.intro (@ex_of T _ _ zyr.eq_1) <| And.intro (@ex_of T _ _ zys.eq_1) <| And.intro (@ex_of T _ _ zyt.eq_1) <| And.intro (@ex_of T _ _ zyu.eq_1) <| And.intro (@ru_of T _ _ zyv.eq_1) <| And.intro (@ex_of T _ _ zyw.eq_1) <| @ex_of T _ _ zyx.eq_1
theorem zbf4 {O : Orc} {H : Hp} {vs : List V} : vcall T O F.zkm vs H = (args H [0] vs).bind fun p => vk H p.2 [0] vs (O.deep F.zkm p.1) := zh2 z9k rfl
theorem zbf5 : zyz.res = [.tmp 2] := rfl
theorem zbf6 : zyz.rets = [[]] := rfl
theorem zbf7 : zyz.body = (.seq (.reg o_70_1) zyx) := rfl
def zbf8 := And.intro (@ru_of T _ _ o_71_1.eq_1) <| And.intro (@ru_of T _ _ o_71_2.eq_1) <| @ex_of T _ _ c_71_3.eq_1
theorem zbf9 {O : Orc} {H : Hp} {vs : List V} : vcall T O F.zko vs H = (args H [2, 0] vs).bind fun p => vk H p.2 [2, 0] vs (O.deep F.zko p.1) := zh2 z9l rfl
theorem zbga : zy1.res = [.tmp 4] := rfl
theorem zbgb : zy1.rets = [[2]] := rfl
theorem zbgc : zy1.body = (.seq (.reg o_71_1) c_71_3) := rfl
def zbgd := And.intro (@ru_of T _ _ o_72_1.eq_1) <| And.intro (@ru_of T _ _ o_72_2.eq_1) <| And.intro (@ru_of T _ _ o_72_3.eq_1) <| And.intro (@ex_of T _ _ c_72_4.eq_1) <| And.intro (@ru_of T _ _ o_72_5.eq_1) <| And.intro (@df_of T _ _ [(5, 3), (8, 3), (8, 6)] o_72_5.eq_1) <| And.intro (@ex_of T _ _ c_72_6.eq_1) <| @ex_of T _ _ c_72_7.eq_1
theorem zbge {O : Orc} {H : Hp} {vs : List V} : vcall T O F.zkp vs H = (args H [2, 0] vs).bind fun p => vk H p.2 [2, 0] vs (O.deep F.zkp p.1) := zh2 z9m rfl
theorem zbgf : zy3.res = [.tmp 4, .tmp 5] := rfl
theorem zbgg : zy3.rets = [[2], []] := rfl
theorem zbgh : zy3.body = (.seq (.reg o_72_1) c_72_7) := rfl
def zbgi := And.intro (@ru_of T _ _ o_73_1.eq_1) <| And.intro (@ru_of T _ _ o_73_2.eq_1) <| And.intro (@ru_of T _ _ o_73_3.eq_1) <| And.intro (@ru_of T _ _ o_73_4.eq_1) <| And.intro (@ex_of T _ _ c_73_5.eq_1) <| And.intro (@ru_of T _ _ o_73_6.eq_1) <| And.intro (@ex_of T _ _ c_73_7.eq_1) <| And.intro (@ex_of T _ _ c_73_8.eq_1) <| @ex_of T _ _ c_73_9.eq_1
theorem zbgj {O : Orc} {H : Hp} {vs : List V} : vcall T O F.zks vs H = (args H [0] vs).bind fun p => vk H p.2 [0] vs (O.deep F.zks p.1) := zh2 z9n rfl
theorem zbgk : zy5.res = [.tmp 2] := rfl
theorem zbgl : zy5.rets = [[2]] := rfl
theorem zbgm : zy5.body = (.seq (.reg o_73_1) c_73_9) := rfl
def zbgn := And.intro (@ru_of T _ _ o_74_1.eq_1) <| And.intro (@ru_of T _ _ o_74_2.eq_1) <| And.intro (@ru_of T _ _ o_74_3.eq_1) <| And.intro (@ru_of T _ _ o_74_4.eq_1) <| And.intro (@ru_of T _ _ o_74_5.eq_1) <| And.intro (@ru_of T _ _ o_74_6.eq_1) <| And.intro (@ru_of T _ _ o_74_7.eq_1) <| And.intro (@ru_of T _ _ o_74_8.eq_1) <| And.intro (@ru_of T _ _ o_74_9.eq_1) <| And.intro (@ru_of T _ _ zy6.eq_1) <| And.intro (@ru_of T _ _ zy7.eq_1) <| And.intro (@ru_of T _ _ zy8.eq_1) <| And.intro (@ex_of T _ _ zy9.eq_1) <| And.intro (@ex_of T _ _ zza.eq_1) <| And.intro (@ex_of T _ _ zzb.eq_1) <| And.intro (@ex_of T _ _ zzc.eq_1) <| And.intro (@ex_of T _ _ zzd.eq_1) <| And.intro (@ex_of T _ _ zze.eq_1) <| And.intro (@ru_of T _ _ zzf.eq_1) <| And.intro (@ex_of T _ _ zzg.eq_1) <| And.intro (@ex_of T _ _ zzh.eq_1) <| @ex_of T _ _ zzi.eq_1
theorem zbgo {O : Orc} {H : Hp} {vs : List V} : vcall T O F.zkt vs H = (args H [2, 0, 0] vs).bind fun p => vk H p.2 [2, 0, 0] vs (O.deep F.zkt p.1) := zh2 z9o rfl
theorem zbgp : zzk.res = [.tmp 6] := rfl
theorem zbgq : zzk.rets = [[2]] := rfl
theorem zbgr : zzk.body = (.seq (.reg o_74_1) zzi) := rfl
def zbgs := And.intro (@ru_of T _ _ o_80_1.eq_1) <| And.intro (@ru_of T _ _ o_80_2.eq_1) <| @ex_of T _ _ c_80_3.eq_1
theorem zbgt {O : Orc} {H : Hp} {vs : List V} : vcall T O F.zj6 vs H = (args H [0] vs).bind fun p => vk H p.2 [0] vs (O.deep F.zj6 p.1) := zh2 z9p rfl
theorem zbgu : zzm.res = [.tmp 2] := rfl
theorem zbgv : zzm.rets = [[2]] := rfl
theorem zbgw : zzm.body = (.seq (.reg o_80_1) c_80_3) := rfl
def zbgx := And.intro (@ru_of T _ _ o_81_1.eq_1) <| And.intro (@ru_of T _ _ o_81_2.eq_1) <| And.intro (@ru_of T _ _ o_81_3.eq_1) <| And.intro (@ru_of T _ _ o_81_4.eq_1) <| And.intro (@ru_of T _ _ o_81_5.eq_1) <| And.intro (@ru_of T _ _ o_81_6.eq_1) <| And.intro (@ru_of T _ _ o_81_7.eq_1) <| And.intro (@ex_of T _ _ c_81_8.eq_1) <| And.intro (@ru_of T _ _ o_81_9.eq_1) <| And.intro (@ex_of T _ _ zzn.eq_1) <| And.intro (@ex_of T _ _ zzo.eq_1) <| And.intro (@ex_of T _ _ zzp.eq_1) <| And.intro (@ex_of T _ _ zzq.eq_1) <| And.intro (@ex_of T _ _ zzr.eq_1) <| And.intro (@ru_of T _ _ zzs.eq_1) <| And.intro (@ex_of T _ _ zzt.eq_1) <| And.intro (@ex_of T _ _ zzu.eq_1) <| And.intro (@ex_of T _ _ zzv.eq_1) <| @ex_of T _ _ zzw.eq_1
theorem zbgy {O : Orc} {H : Hp} {vs : List V} : vcall T O F.zj2 vs H = (args H [0, 0] vs).bind fun p => vk H p.2 [0, 0] vs (O.deep F.zj2 p.1) := zh2 z9q rfl
theorem zbgz : zzy.res = [.tmp 4] := rfl
theorem zbg0 : zzy.rets = [[]] := rfl
theorem zbg1 : zzy.body = (.seq (.reg o_81_1) zzw) := rfl
def zbg2 := And.intro (@ru_of T _ _ o_82_1.eq_1) <| And.intro (@ru_of T _ _ o_82_2.eq_1) <| @ex_of T _ _ c_82_3.eq_1
theorem zbg3 {O : Orc} {H : Hp} {vs : List V} : vcall T O F.zj3 vs H = (args H [0] vs).bind fun p => vk H p.2 [0] vs (O.deep F.zj3 p.1) := zh2 z9r rfl
theorem zbg4 : zz0.res = [.tmp 2] := rfl
theorem zbg5 : zz0.rets = [[]] := rfl
theorem zbg6 : zz0.body = (.seq (.reg o_82_1) c_82_3) := rfl
def zbg7 := And.intro (@ru_of T _ _ o_84_1.eq_1) <| And.intro (@ru_of T _ _ o_84_2.eq_1) <| @ex_of T _ _ c_84_3.eq_1
theorem zbg8 {O : Orc} {H : Hp} {vs : List V} : vcall T O F.zk8 vs H = (args H [0] vs).bind fun p => vk H p.2 [0] vs (O.deep F.zk8 p.1) := zh2 z9s rfl
theorem zbg9 : zz2.res = [.tmp 2] := rfl
theorem zbha : zz2.rets = [[]] := rfl
theorem zbhb : zz2.body = (.seq (.reg o_84_1) c_84_3) := rfl
def zbhc := And.intro (@ru_of T _ _ o_85_1.eq_1) <| And.intro (@ru_of T _ _ o_85_2.eq_1) <| And.intro (@ru_of T _ _ o_85_3.eq_1) <| And.intro (@ex_of T _ _ c_85_4.eq_1) <| And.intro (@ru_of T _ _ o_85_5.eq_1) <| And.intro (@ru_of T _ _ o_85_6.eq_1) <| And.intro (@ru_of T _ _ o_85_7.eq_1) <| And.intro (@ru_of T _ _ o_85_8.eq_1) <| And.intro (@ru_of T _ _ o_85_9.eq_1) <| And.intro (@ex_of T _ _ zz3.eq_1) <| And.intro (@ex_of T _ _ zz4.eq_1) <| And.intro (@ru_of T _ _ zz5.eq_1) <| And.intro (@ex_of T _ _ zz6.eq_1) <| And.intro (@ex_of T _ _ zz7.eq_1) <| And.intro (@ex_of T _ _ zz8.eq_1) <| And.intro (@ex_of T _ _ zz9.eq_1) <| And.intro (@ex_of T _ _ z0a.eq_1) <| And.intro (@ru_of T _ _ z0b.eq_1) <| And.intro (@ex_of T _ _ z0c.eq_1) <| And.intro (@ex_of T _ _ z0d.eq_1) <| @ex_of T _ _ z0e.eq_1
theorem zbhd {O : Orc} {H : Hp} {vs : List V} : vcall T O F.zld vs H = (args H [0, 0] vs).bind fun p => vk H p.2 [0, 0] vs (O.deep F.zld p.1) := zh2 z9t rfl
theorem zbhe : z0g.res = [.tmp 4] := rfl
theorem zbhf : z0g.rets = [[]] := rfl
theorem zbhg : z0g.body = (.seq (.reg o_85_1) z0e) := rfl
def zbhh := And.intro (@ru_of T _ _ o_86_1.eq_1) <| And.intro (@ru_of T _ _ o_86_2.eq_1) <| And.intro (@ru_of T _ _ o_86_3.eq_1) <| And.intro (@ex_of T _ _ c_86_4.eq_1) <| And.intro (@ru_of T _ _ o_86_5.eq_1) <| And.intro (@ex_of T _ _ c_86_6.eq_1) <| @ex_of T _ _ c_86_7.eq_1
theorem zbhi {O : Orc} {H : Hp} {vs : List V} : vcall T O F.zle vs H = (args H [0] vs).bind fun p => vk H p.2 [0] vs (O.deep F.zle p.1) := zh2 z9u rfl
theorem zbhj : z0i.res = [.tmp 2] := rfl
theorem zbhk : z0i.rets = [[2]] := rfl
theorem zbhl : z0i.body = (.seq (.reg o_86_1) c_86_7) := rfl
def zbhm := And.intro (@ru_of T _ _ o_87_1.eq_1) <| And.intro (@ru_of T _ _ o_87_2.eq_1) <| And.intro (@ru_of T _ _ o_87_3.eq_1) <| And.intro (@ru_of T _ _ o_87_4.eq_1) <| And.intro (@ru_of T _ _ o_87_5.eq_1) <| And.intro (@ru_of T _ _ o_87_6.eq_1) <| And.intro (@ru_of T _ _ o_87_7.eq_1) <| And.intro (@ru_of T _ _ o_87_8.eq_1) <| And.intro (@ex_of T _ _ c_87_9.eq_1) <| And.intro (@ru_of T _ _ z0j.eq_1) <| And.intro (@ex_of T _ _ z0k.eq_1) <| And.intro (@ru_of T _ _ z0l.eq_1) <| And.intro (@ex_of T _ _ z0m.eq_1) <| And.intro (@ex_of T _ _ z0n.eq_1) <| And.intro (@ex_of T _ _ z0o.eq_1) <| And.intro (@ru_of T _ _ z0p.eq_1) <| And.intro (@ex_of T _ _ z0q.eq_1) <| And.intro (@ru_of T _ _ z0r.eq_1) <| And.intro (@ex_of T _ _ z0s.eq_1) <| And.intro (@ex_of T _ _ z0t.eq_1) <| And.intro (@ex_of T _ _ z0u.eq_1) <| And.intro (@ex_of T _ _ z0v.eq_1) <| And.intro (@ru_of T _ _ z0w.eq_1) <| And.intro (@ex_of T _ _ z0x.eq_1) <| And.intro (@ex_of T _ _ z0y.eq_1) <| And.intro (@ex_of T _ _ z0z.eq_1) <| And.intro (@ex_of T _ _ z00.eq_1) <| And.intro (@ex_of T _ _ z01.eq_1) <| And.intro (@ru_of T _ _ z02.eq_1) <| And.intro (@ex_of T _ _ z03.eq_1) <| And.intro (@ex_of T _ _ z04.eq_1) <| @ex_of T _ _ z05.eq_1
theorem zbhn {O : Orc} {H : Hp} {vs : List V} : vcall T O F.zla vs H = (args H [0] vs).bind fun p => vk H p.2 [0] vs (O.deep F.zla p.1) := zh2 z9v rfl
theorem zbho : z07.res = [.tmp 2, .tmp 3] := rfl
theorem zbhp : z07.rets = [[], []] := rfl
theorem zbhq : z07.body = (.seq (.reg o_87_1) z05) := rfl
def zbhr := And.intro (@ru_of T _ _ o_88_1.eq_1) <| And.intro (@ru_of T _ _ o_88_2.eq_1) <| And.intro (@ru_of T _ _ o_88_3.eq_1) <| And.intro (@ru_of T _ _ o_88_4.eq_1) <| And.intro (@ru_of T _ _ o_88_5.eq_1) <| And.intro (@ru_of T _ _ o_88_6.eq_1) <| And.intro (@ru_of T _ _ o_88_7.eq_1) <| And.intro (@ru_of T _ _ o_88_8.eq_1) <| And.intro (@ru_of T _ _ o_88_9.eq_1) <| And.intro (@ru_of T _ _ z08.eq_1) <| And.intro (@ru_of T _ _ z09.eq_1) <| And.intro (@ru_of T _ _ z1a.eq_1) <| And.intro (@ru_of T _ _ z1b.eq_1) <| And.intro (@ru_of T _ _ z1c.eq_1) <| And.intro (@ex_of T _ _ z1d.eq_1) <| And.intro (@ru_of T _ _ z1e.eq_1) <| And.intro (@ex_of T _ _ z1f.eq_1) <| And.intro (@ex_of T _ _ z1g.eq_1) <| And.intro (@ru_of T _ _ z1h.eq_1) <| And.intro (@ex_of T _ _ z1i.eq_1) <| And.intro (@ex_of T _ _ z1j.eq_1) <| And.intro (@ex_of T _ _ z1k.eq_1) <| And.intro (@ex_of T _ _ z1l.eq_1) <| And.intro (@ex_of T _ _ z1m.eq_1) <| And.intro (@ru_of T _ _ z1n.eq_1) <| And.intro (@ex_of T _ _ z1o.eq_1) <| And.intro (@ex_of T _ _ z1p.eq_1) <| And.intro (@ex_of T _ _ z1q.eq_1) <| And.intro (@ex_of T _ _ z1r.eq_1) <| And.intro (@ex_of T _ _ z1s.eq_1) <| And.intro (@ex_of T _ _ z1t.eq_1) <| And.intro (@ex_of T _ _ z1u.eq_1) <| And.intro (@ex_of T _ _ z1v.eq_1) <| And.intro (@ex_of T _ _ z1w.eq_1) <| @ex_of T _ _ z1x.eq_1
theorem zbhs {O : Orc} {H : Hp} {vs : List V} : vcall T O F.zln vs H = (args H [0] vs).bind fun p => vk H p.2 [0] vs (O.deep F.zln p.1) := zh2 z9w rfl
theorem zbht : z1z.res = [.cell 2 7 true, .tmp 3] := rfl
theorem zbhu : z1z.rets = [[], []] := rfl
theorem zbhv : z1z.body = (.seq (.reg o_88_1) z1x) := rfl
def zbhw := And.intro (@ru_of T _ _ o_89_1.eq_1) <| And.intro (@ru_of T _ _ o_89_2.eq_1) <| And.intro (@ru_of T _ _ o_89_3.eq_1) <| And.intro (@ex_of T _ _ c_89_4.eq_1) <| And.intro (@ru_of T _ _ o_89_5.eq_1) <| And.intro (@ru_of T _ _ o_89_6.eq_1) <| And.intro (@ru_of T _ _ o_89_7.eq_1) <| And.intro (@ru_of T _ _ o_89_8.eq_1) <| And.intro (@ru_of T _ _ o_89_9.eq_1) <| And.intro (@ex_of T _ _ z10.eq_1) <| And.intro (@ex_of T _ _ z11.eq_1) <| And.intro (@ru_of T _ _ z12.eq_1) <| And.intro (@ru_of T _ _ z13.eq_1) <| And.intro (@ru_of T _ _ z14.eq_1) <| And.intro (@ex_of T _ _ z15.eq_1) <| And.intro (@ru_of T _ _ z16.eq_1) <| And.intro (@ex_of T _ _ z17.eq_1) <| And.intro (@ex_of T _ _ z18.eq_1) <| And.intro (@ex_of T _ _ z19.eq_1) <| And.intro (@ex_of T _ _ z2a.eq_1) <| And.intro (@ex_of T _ _ z2b.eq_1) <| @ex_of T _ _ z2c.eq_1
theorem zbhx {O : Orc} {H : Hp} {vs : List V} : vcall T O F.zly vs H = (args H [0] vs).bind fun p => vk H p.2 [0] vs (O.deep F.zly p.1) := zh2 z9x rfl
theorem zbhy : z2e.res = [.cell 2 7 true, .tmp 3] := rfl
theorem zbhz : z2e.rets = [[], []] := rfl
theorem zbh0 : z2e.body = (.seq (.reg o_89_1) z2c) := rfl
def zbh1 := And.intro (@ru_of T _ _ o_90_1.eq_1) <| And.intro (@ru_of T _ _ o_90_2.eq_1) <| @ex_of T _ _ c_90_3.eq_1
theorem zbh2 {O : Orc} {H : Hp} {vs : List V} : vcall T O F.zkn vs H = (args H [0] vs).bind fun p => vk H p.2 [0] vs (O.deep F.zkn p.1) := zh2 z9y rfl
theorem zbh3 : z2g.res = [.tmp 2] := rfl
theorem zbh4 : z2g.rets = [[]] := rfl
theorem zbh5 : z2g.body = (.seq (.reg o_90_1) c_90_3) := rfl
def zbh6 := And.intro (@ru_of T _ _ o_92_1.eq_1) <| And.intro (@ru_of T _ _ o_92_2.eq_1) <| And.intro (@ru_of T _ _ o_92_3.eq_1) <| And.intro (@ru_of T _ _ o_92_4.eq_1) <| And.intro (@ru_of T _ _ o_92_5.eq_1) <| And.intro (@ru_of T _ _ o_92_6.eq_1) <| And.intro (@ex_of T _ _ c_92_7.eq_1) <| And.intro (@ru_of T _ _ o_92_8.eq_1) <| And.intro (@ex_of T _ _ c_92_9.eq_1) <| And.intro (@ex_of T _ _ z2h.eq_1) <| And.intro (@ex_of T _ _ z2i.eq_1) <| And.intro (@ex_of T _ _ z2j.eq_1) <| And.intro (@ex_of T _ _ z2k.eq_1) <| And.intro (@ru_of T _ _ z2l.eq_1) <| And.intro (@ex_of T _ _ z2m.eq_1) <| And.intro (@ex_of T _ _ z2n.eq_1) <| @ex_of T _ _ z2o.eq_1
theorem zbh7 {O : Orc} {H : Hp} {vs : List V} : vcall T O F.zj5 vs H = (args H [0, 0] vs).bind fun p => vk H p.2 [0, 0] vs (O.deep F.zj5 p.1) := zh2 z9z rfl
theorem zbh8 : z2q.res = [.tmp 4] := rfl
theorem zbh9 : z2q.rets = [[2]] := rfl
theorem zbia : z2q.body = (.seq (.reg o_92_1) z2o) := rfl
def zbib := And.intro (@ru_of T _ _ o_93_1.eq_1) <| And.intro (@ru_of T _ _ o_93_2.eq_1) <| And.intro (@ru_of T _ _ o_93_3.eq_1) <| And.intro (@ru_of T _ _ o_93_4.eq_1) <| And.intro (@ru_of T _ _ o_93_5.eq_1) <| And.intro (@ru_of T _ _ o_93_6.eq_1) <| And.intro (@ru_of T _ _ o_93_7.eq_1) <| And.intro (@ru_of T _ _ o_93_8.eq_1) <| And.intro (@ru_of T _ _ o_93_9.eq_1) <| And.intro (@ru_of T _ _ z2r.eq_1) <| And.intro (@ex_of T _ _ z2s.eq_1) <| And.intro (@ru_of T _ _ z2t.eq_1) <| And.intro (@ex_of T _ _ z2u.eq_1) <| And.intro (@ex_of T _ _ z2v.eq_1) <| And.intro (@ex_of T _ _ z2w.eq_1) <| And.intro (@ex_of T _ _ z2x.eq_1) <| And.intro (@ex_of T _ _ z2y.eq_1) <| And.intro (@ru_of T _ _ z2z.eq_1) <| And.intro (@ex_of T _ _ z20.eq_1) <| And.intro (@ex_of T _ _ z21.eq_1) <| And.intro (@ex_of T _ _ z22.eq_1) <| And.intro (@ru_of T _ _ z23.eq_1) <| And.intro (@ex_of T _ _ z24.eq_1) <| And.intro (@ex_of T _ _ z25.eq_1) <| And.intro (@ex_of T _ _ z26.eq_1) <| And.intro (@ex_of T _ _ z27.eq_1) <| And.intro (@ex_of T _ _ z28.eq_1) <| And.intro (@ru_of T _ _ z29.eq_1) <| And.intro (@ex_of T _ _ z3a.eq_1) <| And.intro (@ex_of T _ _ z3b.eq_1) <| @ex_of T _ _ z3c.eq_1
theorem zbic {O : Orc} {H : Hp} {vs : List V} : vcall T O F.zj0 vs H = (args H [] vs).bind fun p => vk H p.2 [] vs (O.deep F.zj0 p.1) := zh2 z90 rfl
theorem zbid : z3e.res = [.cell 0 256 true] := rfl
theorem zbie : z3e.rets = [[]] := rfl
theorem zbif : z3e.body = (.seq (.reg o_93_1) z3c) := rfl
def zbig := And.intro (@ru_of T _ _ o_94_1.eq_1) <| And.intro (@ru_of T _ _ o_94_2.eq_1) <| @ex_of T _ _ c_94_3.eq_1
theorem zbih {O : Orc} {H : Hp} {vs : List V} : vcall T O F.zm4 vs H = ik (O.inl F.zm4 vs H) := zh3 z91 rfl
theorem zbii {n : Nat} {H : Hp} {vs : List V} : (orc T (n + 1)).inl F.zm4 vs H = finI H.length false [.tmp 4] (unw T (orc T n) n H.length [] (exec T (orc T n) n H.length (.seq (.reg o_94_1) c_94_3) (params 0 vs) H)) := by rw [zh1, z91, Option.bind_some, zhz]; rfl
def zbij := And.intro (@ru_of T _ _ o_95_1.eq_1) <| And.intro (@ru_of T _ _ o_95_2.eq_1) <| @ex_of T _ _ c_95_3.eq_1
theorem zbik {O : Orc} {H : Hp} {vs : List V} : vcall T O F.zk5 vs H = (args H [0] vs).bind fun p => vk H p.2 [0] vs (O.deep F.zk5 p.1) := zh2 z92 rfl
theorem zbil : z3i.res = [.tmp 2] := rfl
theorem zbim : z3i.rets = [[]] := rfl
theorem zbin : z3i.body = (.seq (.reg o_95_1) c_95_3) := rfl
def zbio := And.intro (@ru_of T _ _ o_96_1.eq_1) <| And.intro (@ru_of T _ _ o_96_2.eq_1) <| And.intro (@ru_of T _ _ o_96_3.eq_1) <| And.intro (@ru_of T _ _ o_96_4.eq_1) <| And.intro (@ex_of T _ _ c_96_5.eq_1) <| And.intro (@ru_of T _ _ o_96_6.eq_1) <| And.intro (@ex_of T _ _ c_96_7.eq_1) <| And.intro (@ex_of T _ _ c_96_8.eq_1) <| @ex_of T _ _ c_96_9.eq_1
theorem zbip {O : Orc} {H : Hp} {vs : List V} : vcall T O F.zlk vs H = (args H [0] vs).bind fun p => vk H p.2 [0] vs (O.deep F.zlk p.1) := zh2 z93 rfl
theorem zbiq : z3k.res = [.tmp 2, .tmp 3] := rfl
theorem zbir : z3k.rets = [[], []] := rfl
theorem zbis : z3k.body = (.seq (.reg o_96_1) c_96_9) := rfl
def zbit := And.intro (@ru_of T _ _ o_97_1.eq_1) <| And.intro (@ru_of T _ _ o_97_2.eq_1) <| And.intro (@ru_of T _ _ o_97_3.eq_1) <| And.intro (@ru_of T _ _ o_97_4.eq_1) <| And.intro (@ru_of T _ _ o_97_5.eq_1) <| And.intro (@ru_of T _ _ o_97_6.eq_1) <| And.intro (@ru_of T _ _ o_97_7.eq_1) <| And.intro (@ru_of T _ _ o_97_8.eq_1) <| And.intro (@ex_of T _ _ c_97_9.eq_1) <| And.intro (@ru_of T _ _ z3l.eq_1) <| And.intro (@df_of T _ _ [(0, 4), (2, 4), (2, 6)] z3l.eq_1) <| And.intro (@ex_of T _ _ z3m.eq_1) <| And.intro (@ex_of T _ _ z3n.eq_1) <| And.intro (@ex_of T _ _ z3o.eq_1) <| And.intro (@ex_of T _ _ z3p.eq_1) <| And.intro (@ex_of T _ _ z3q.eq_1) <| And.intro (@ex_of T _ _ z3r.eq_1) <| @ex_of T _ _ z3s.eq_1
theorem zbiu {O : Orc} {H : Hp} {vs : List V} : vcall T O F.zll vs H = (args H [0] vs).bind fun p => vk H p.2 [0] vs (O.deep F.zll p.1) := zh2 z94 rfl
theorem zbiv : z3u.res = [.cell 2 3 true, .tmp 3] := rfl
theorem zbiw : z3u.rets = [[], []] := rfl
theorem zbix : z3u.body = (.seq (.reg o_97_1) z3s) := rfl
def zbiy := And.intro (@ru_of T _ _ o_98_1.eq_1) <| And.intro (@ru_of T _ _ o_98_2.eq_1) <| And.intro (@ru_of T _ _ o_98_3.eq_1) <| And.intro (@ru_of T _ _ o_98_4.eq_1) <| And.intro (@ex_of T _ _ c_98_5.eq_1) <| And.intro (@ru_of T _ _ o_98_6.eq_1) <| And.intro (@ru_of T _ _ o_98_7.eq_1) <| And.intro (@ru_of T _ _ o_98_8.eq_1) <| And.intro (@ex_of T _ _ c_98_9.eq_1) <| And.intro (@ru_of T _ _ z3v.eq_1) <| And.intro (@ru_of T _ _ z3w.eq_1) <| And.intro (@ru_of T _ _ z3x.eq_1) <| And.intro (@ru_of T _ _ z3y.eq_1) <| And.intro (@ru_of T _ _ z3z.eq_1) <| And.intro (@ru_of T _ _ z30.eq_1) <| And.intro (@ex_of T _ _ z31.eq_1) <| And.intro (@ru_of T _ _ z32.eq_1) <| And.intro (@ru_of T _ _ z33.eq_1) <| And.intro (@ru_of T _ _ z34.eq_1) <| And.intro (@ex_of T _ _ z35.eq_1) <| And.intro (@ex_of T _ _ z36.eq_1) <| And.intro (@ex_of T _ _ z37.eq_1) <| And.intro (@ru_of T _ _ z38.eq_1) <| And.intro (@ru_of T _ _ z39.eq_1) <| And.intro (@ex_of T _ _ z4a.eq_1) <| And.intro (@ru_of T _ _ z4b.eq_1) <| And.intro (@ex_of T _ _ z4c.eq_1) <| And.intro (@ex_of T _ _ z4d.eq_1) <| And.intro (@ex_of T _ _ z4e.eq_1) <| And.intro (@ex_of T _ _ z4f.eq_1) <| And.intro (@ex_of T _ _ z4g.eq_1) <| And.intro (@ex_of T _ _ z4h.eq_1) <| And.intro (@ex_of T _ _ z4i.eq_1) <| And.intro (@ex_of T _ _ z4j.eq_1) <| And.intro (@ex_of T _ _ z4k.eq_1) <| And.intro (@ru_of T _ _ z4l.eq_1) <| And.intro (@ru_of T _ _ z4m.eq_1) <| And.intro (@ru_of T _ _ z4n.eq_1) <| And.intro (@ru_of T _ _ z4o.eq_1) <| And.intro (@ex_of T _ _ z4p.eq_1) <| And.intro (@ex_of T _ _ z4q.eq_1) <| And.intro (@ru_of T _ _ z4r.eq_1) <| And.intro (@ex_of T _ _ z4s.eq_1) <| And.intro (@ex_of T _ _ z4t.eq_1) <| And.intro (@ex_of T _ _ z4u.eq_1) <| @ex_of T _ _ z4v.eq_1
theorem zbiz {O : Orc} {H : Hp} {vs : List V} : vcall T O F.zlx vs H = (args H [0, 0] vs).bind fun p => vk H p.2 [0, 0] vs (O.deep F.zlx p.1) := zh2 z95 rfl
theorem zbi0 : z4x.res = [.cell 4 7 true, .tmp 5] := rfl
theorem zbi1 : z4x.rets = [[], []] := rfl
theorem zbi2 : z4x.body = (.seq (.reg o_98_1) z4v) := rfl
def zbi3 := And.intro (@ru_of T _ _ o_99_1.eq_1) <| And.intro (@ru_of T _ _ o_99_2.eq_1) <| And.intro (@ru_of T _ _ o_99_3.eq_1) <| And.intro (@ru_of T _ _ o_99_4.eq_1) <| And.intro (@ru_of T _ _ o_99_5.eq_1) <| And.intro (@ru_of T _ _ o_99_6.eq_1) <| And.intro (@ex_of T _ _ c_99_7.eq_1) <| And.intro (@ex_of T _ _ c_99_8.eq_1) <| And.intro (@ru_of T _ _ o_99_9.eq_1) <| And.intro (@ex_of T _ _ z4y.eq_1) <| And.intro (@ex_of T _ _ z4z.eq_1) <| And.intro (@ex_of T _ _ z40.eq_1) <| And.intro (@ex_of T _ _ z41.eq_1) <| And.intro (@ex_of T _ _ z42.eq_1) <| And.intro (@ru_of T _ _ z43.eq_1) <| And.intro (@ex_of T _ _ z44.eq_1) <| @ex_of T _ _ z45.eq_1
theorem zbi4 {O : Orc} {H : Hp} {vs : List V} : vcall T O F.zm5 vs H = ik (O.inl F.zm5 vs H) := zh3 z96 rfl
theorem zbi5 {n : Nat} {H : Hp} {vs : List V} : (orc T (n + 1)).inl F.zm5 vs H = finI H.length false [.tmp 4] (unw T (orc T n) n H.length [] (exec T (orc T n) n H.length (.seq (.reg o_99_1) z45) (params 0 vs) H)) := by rw [zh1, z96, Option.bind_some, zhz]; rfl
def zbi6 := And.intro (@ru_of T _ _ z48.eq_1) <| And.intro (@ru_of T _ _ z49.eq_1) <| @ex_of T _ _ z5a.eq_1
theorem zbi7 {O : Orc} {H : Hp} {vs : List V} : vcall T O F.zlj vs H = (args H [0] vs).bind fun p => vk H p.2 [0] vs (O.deep F.zlj p.1) := zh2 z97 rfl
theorem zbi8 : z5c.res = [.tmp 2] := rfl
theorem zbi9 : z5c.rets = [[]] := rfl
theorem zbja : z5c.body = (.seq (.reg z48) z5a) := rfl
def zbjb := And.intro (@ru_of T _ _ z5d.eq_1) <| And.intro (@ru_of T _ _ z5e.eq_1) <| And.intro (@ru_of T _ _ z5f.eq_1) <| And.intro (@ru_of T _ _ z5g.eq_1) <| And.intro (@ex_of T _ _ z5h.eq_1) <| And.intro (@ex_of T _ _ z5i.eq_1) <| @ex_of T _ _ z5j.eq_1
theorem zbjc {O : Orc} {H : Hp} {vs : List V} : vcall T O F.zm6 vs H = ik (O.inl F.zm6 vs H) := zh3 z98 rfl
theorem zbjd {n : Nat} {H : Hp} {vs : List V} : (orc T (n + 1)).inl F.zm6 vs H = finI H.length false [.tmp 2, .tmp 3, .tmp 4] (unw T (orc T n) n H.length [] (exec T (orc T n) n H.length (.seq (.reg z5d) z5j) (params 0 vs) H)) := by rw [zh1, z98, Option.bind_some, zhz]; rfl
def zbje := And.intro (@ru_of T _ _ z5m.eq_1) <| And.intro (@ru_of T _ _ z5n.eq_1) <| And.intro (@ru_of T _ _ z5o.eq_1) <| And.intro (@ex_of T _ _ z5p.eq_1) <| And.intro (@ru_of T _ _ z5q.eq_1) <| And.intro (@ex_of T _ _ z5r.eq_1) <| @ex_of T _ _ z5s.eq_1
theorem zbjf {O : Orc} {H : Hp} {vs : List V} : vcall T O F.zlr vs H = (args H [0] vs).bind fun p => vk H p.2 [0] vs (O.deep F.zlr p.1) := zh2 z99 rfl
theorem zbjg : z5u.res = [.tmp 2] := rfl
theorem zbjh : z5u.rets = [[2]] := rfl
theorem zbji : z5u.body = (.seq (.reg z5m) z5s) := rfl
def zbjj := And.intro (@ru_of T _ _ z5v.eq_1) <| And.intro (@ru_of T _ _ z5w.eq_1) <| And.intro (@ru_of T _ _ z5x.eq_1) <| And.intro (@ru_of T _ _ z5y.eq_1) <| And.intro (@ru_of T _ _ z5z.eq_1) <| And.intro (@ru_of T _ _ z50.eq_1) <| And.intro (@ex_of T _ _ z51.eq_1) <| And.intro (@ex_of T _ _ z52.eq_1) <| And.intro (@ru_of T _ _ z53.eq_1) <| And.intro (@ex_of T _ _ z54.eq_1) <| And.intro (@ex_of T _ _ z55.eq_1) <| And.intro (@ex_of T _ _ z56.eq_1) <| And.intro (@ex_of T _ _ z57.eq_1) <| And.intro (@ex_of T _ _ z58.eq_1) <| And.intro (@ru_of T _ _ z59.eq_1) <| And.intro (@ex_of T _ _ z6a.eq_1) <| @ex_of T _ _ z6b.eq_1
theorem zbjk {O : Orc} {H : Hp} {vs : List V} : vcall T O F.zlt vs H = (args H [0, 0] vs).bind fun p => vk H p.2 [0, 0] vs (O.deep F.zlt p.1) := zh2 zbaa rfl
theorem zbjl : z6d.res = [.tmp 4] := rfl
theorem zbjm : z6d.rets = [[]] := rfl
theorem zbjn : z6d.body = (.seq (.reg z5v) z6b) := rfl
def zbjo := And.intro (@ru_of T _ _ z6e.eq_1) <| And.intro (@ru_of T _ _ z6f.eq_1) <| And.intro (@ru_of T _ _ z6g.eq_1) <| And.intro (@ru_of T _ _ z6h.eq_1) <| And.intro (@ex_of T _ _ z6i.eq_1) <| And.intro (@ru_of T _ _ z6j.eq_1) <| And.intro (@ru_of T _ _ z6k.eq_1) <| And.intro (@ru_of T _ _ z6l.eq_1) <| And.intro (@ru_of T _ _ z6m.eq_1) <| And.intro (@ex_of T _ _ z6n.eq_1) <| And.intro (@ex_of T _ _ z6o.eq_1) <| And.intro (@ex_of T _ _ z6p.eq_1) <| And.intro (@ex_of T _ _ z6q.eq_1) <| And.intro (@ex_of T _ _ z6r.eq_1) <| @ex_of T _ _ z6s.eq_1
theorem zbjp {O : Orc} {H : Hp} {vs : List V} : vcall T O F.zlu vs H = (args H [2, 0, 0] vs).bind fun p => vk H p.2 [2, 0, 0] vs (O.deep F.zlu p.1) := zh2 zbab rfl
theorem zbjq : z6u.res = [.tmp 6] := rfl
theorem zbjr : z6u.rets = [[2]] := rfl
theorem zbjs : z6u.body = (.seq (.reg z6e) z6s) := rfl
def zbjt := And.intro (@ru_of T _ _ z6v.eq_1) <| And.intro (@ru_of T _ _ z6w.eq_1) <| And.intro (@ru_of T _ _ z6x.eq_1) <| And.intro (@ru_of T _ _ z6y.eq_1) <| And.intro (@ru_of T _ _ z6z.eq_1) <| And.intro (@ru_of T _ _ z60.eq_1) <| And.intro (@ru_of T _ _ z61.eq_1) <| And.intro (@ru_of T _ _ z62.eq_1) <| And.intro (@ru_of T _ _ z63.eq_1) <| And.intro (@ru_of T _ _ z64.eq_1) <| And.intro (@ru_of T _ _ z65.eq_1) <| And.intro (@ru_of T _ _ z66.eq_1) <| And.intro (@ex_of T _ _ z67.eq_1) <| And.intro (@ex_of T _ _ z68.eq_1) <| And.intro (@ex_of T _ _ z69.eq_1) <| And.intro (@ex_of T _ _ z7a.eq_1) <| And.intro (@ex_of T _ _ z7b.eq_1) <| And.intro (@ex_of T _ _ z7c.eq_1) <| And.intro (@ru_of T _ _ z7d.eq_1) <| And.intro (@ex_of T _ _ z7e.eq_1) <| @ex_of T _ _ z7f.eq_1
theorem zbju {O : Orc} {H : Hp} {vs : List V} : vcall T O F.zm7 vs H = ik (O.inl F.zm7 vs H) := zh3 zbac rfl
theorem zbjv {n : Nat} {H : Hp} {vs : List V} : (orc T (n + 1)).inl F.zm7 vs H = finI H.length false [.tmp 6] (unw T (orc T n) n H.length [] (exec T (orc T n) n H.length (.seq (.reg z6v) z7f) (params 0 vs) H)) := by rw [zh1, zbac, Option.bind_some, zhz]; rfl
def zbjw := And.intro (@ru_of T _ _ z7i.eq_1) <| And.intro (@ru_of T _ _ z7j.eq_1) <| And.intro (@ru_of T _ _ z7k.eq_1) <| And.intro (@ru_of T _ _ z7l.eq_1) <| And.intro (@ex_of T _ _ z7m.eq_1) <| And.intro (@ru_of T _ _ z7n.eq_1) <| And.intro (@ex_of T _ _ z7o.eq_1) <| And.intro (@ex_of T _ _ z7p.eq_1) <| @ex_of T _ _ z7q.eq_1
theorem zbjx {O : Orc} {H : Hp} {vs : List V} : vcall T O F.zlv vs H = (args H [0] vs).bind fun p => vk H p.2 [0] vs (O.deep F.zlv p.1) := zh2 zbad rfl
theorem zbjy : z7s.res = [.tmp 2] := rfl
theorem zbjz : z7s.rets = [[]] := rfl
theorem zbj0 : z7s.body = (.seq (.reg z7i) z7q) := rfl
def zbj1 := And.intro (@ru_of T _ _ z7t.eq_1) <| And.intro (@ru_of T _ _ z7u.eq_1) <| And.intro (@ru_of T _ _ z7v.eq_1) <| And.intro (@ru_of T _ _ z7w.eq_1) <| And.intro (@ru_of T _ _ z7x.eq_1) <| And.intro (@ex_of T _ _ z7y.eq_1) <| And.intro (@ex_of T _ _ z7z.eq_1) <| And.intro (@ex_of T _ _ z70.eq_1) <| @ex_of T _ _ z71.eq_1
theorem zbj2 {O : Orc} {H : Hp} {vs : List V} : vcall T O F.zm8 vs H = ik (O.inl F.zm8 vs H) := zh3 zbae rfl
theorem zbj3 {n : Nat} {H : Hp} {vs : List V} : (orc T (n + 1)).inl F.zm8 vs H = finI H.length false [.tmp 4] (unw T (orc T n) n H.length [] (exec T (orc T n) n H.length (.seq (.reg z7t) z71) (params 0 vs) H)) := by rw [zh1, zbae, Option.bind_some, zhz]; rfl
def zbj4 := And.intro (@ru_of T _ _ z74.eq_1) <| And.intro (@ru_of T _ _ z75.eq_1) <| @ex_of T _ _ z76.eq_1
theorem zbj5 {O : Orc} {H : Hp} {vs : List V} : vcall T O F.zm9 vs H = ik (O.inl F.zm9 vs H) := zh3 zbaf rfl
theorem zbj6 {n : Nat} {H : Hp} {vs : List V} : (orc T (n + 1)).inl F.zm9 vs H = finI H.length false [.tmp 1] (unw T (orc T n) n H.length [] (exec T (orc T n) n H.length (.seq (.reg z74) z76) (params 0 vs) H)) := by rw [zh1, zbaf, Option.bind_some, zhz]; rfl
def zbj7 := And.intro (@ru_of T _ _ z79.eq_1) <| And.intro (@ru_of T _ _ z8a.eq_1) <| @ex_of T _ _ z8b.eq_1
theorem zbj8 {O : Orc} {H : Hp} {vs : List V} : vcall T O F.zna vs H = ik (O.inl F.zna vs H) := zh3 zbag rfl
theorem zbj9 {n : Nat} {H : Hp} {vs : List V} : (orc T (n + 1)).inl F.zna vs H = finI H.length false [.tmp 1] (unw T (orc T n) n H.length [] (exec T (orc T n) n H.length (.seq (.reg z79) z8b) (params 0 vs) H)) := by rw [zh1, zbag, Option.bind_some, zhz]; rfl
end Go.Dvm.C
