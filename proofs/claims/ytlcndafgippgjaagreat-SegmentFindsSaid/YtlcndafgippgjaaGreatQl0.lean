/- What each piece of the code comes to: part 1. -/
import Derived.Test.YtlcndafgippgjaaGreatQc0
set_option linter.all false
set_option maxRecDepth 100000
set_option maxHeartbeats 4000000
namespace Go.Dvm.C
open Go Go.Dvm
def ke := And.intro @Ow.enc.eq_1 <| And.intro @Sl.enc.eq_1 <| And.intro @arrEnc.eq_1 <| And.intro @I.zjr.enc.eq_1 <| And.intro @I.zjs.enc.eq_1 <| @I.zjt.enc.eq_1
def kf := And.intro @ke @kn
def tab : List (Nat × MFun) := [(3, zoi), (5, zok), (6, zom), (7, zoo), (9, zoq), (13, zox), (14, zpi), (15, zpk), (16, zpu), (17, zp2), (18, zqs), (19, zq4), (21, zrm), (23, zr0), (25, zr3), (26, zsd), (27, zsl), (28, ztc), (29, ztm), (30, zto), (31, zty), (32, zt0), (33, zt2), (34, zua), (35, zuu), (36, zvf), (37, zvh), (38, zvr), (39, zwr), (40, zw9), (41, zxb), (42, zxz), (43, zx1), (44, zx3), (45, zyl), (46, zyq), (47, zys), (48, zy0), (49, zy2), (50, zzc), (51, zze), (52, zzw), (53, z0u), (54, z08), (55, z1e), (56, z1w), (57, z1y), (58, z22), (59, z3i), (60, z3m), (61, z3u), (62, z34), (63, z36), (64, z4s), (65, z5b), (66, z5d), (67, z5r), (68, z6h), (69, z8f), (70, z8x), (71, z9j), (72, z9l), (73, z9n), (74, z91), (75, z93), (76, zbas), (77, zbbk), (78, zbbz), (79, zbb1), (80, zbcb), (81, zbcd), (82, zbcf), (83, zbch), (84, zbcw), (85, zbcy), (86, zbda), (87, zbdc), (88, zbde), (89, zbd2), (90, zbd4), (91, zbee), (92, zbem), (93, zbe0), (94, zbe2), (95, zbfa), (96, zbfc), (97, zbfe), (98, zbfg), (99, zbfi), (100, zbf1), (101, zbhd), (102, zbhi), (103, zbh1), (104, zbiy), (105, zbi7), (106, zbjg), (107, zbjt), (108, zbkc), (109, zbkh), (110, zbkq), (111, zbkz), (112, zbli), (113, zblz), (114, zbmm), (115, zbmx), (116, zbm8), (117, zbnd), (118, zbni)]
abbrev T : Nat → Option MFun := look tab
theorem zbnj : T F.zn4 = some zoi := rfl
theorem zbnk : T F.zk3 = some zok := rfl
theorem zbnl : T F.zmf = some zom := rfl
theorem zbnm : T F.zn3 = some zoo := rfl
theorem zbnn : T F.zn0 = some zoq := rfl
theorem zbno : T F.zk2 = some zox := rfl
theorem zbnp : T F.zmc = some zpi := rfl
theorem zbnq : T F.zmv = some zpk := rfl
theorem zbnr : T F.znx = some zpu := rfl
theorem zbns : T F.zn2 = some zp2 := rfl
theorem zbnt : T F.zns = some zqs := rfl
theorem zbnu : T F.znz = some zq4 := rfl
theorem zbnv : T F.zn5 = some zrm := rfl
theorem zbnw : T F.zmu = some zr0 := rfl
theorem zbnx : T F.zkf = some zr3 := rfl
theorem zbny : T F.zkk = some zsd := rfl
theorem zbnz : T F.zkz = some zsl := rfl
theorem zbn0 : T F.zkc = some ztc := rfl
theorem zbn1 : T F.zk1 = some ztm := rfl
theorem zbn2 : T F.zlh = some zto := rfl
theorem zbn3 : T F.zl1 = some zty := rfl
theorem zbn4 : T F.zln = some zt0 := rfl
theorem zbn5 : T F.zke = some zt2 := rfl
theorem zbn6 : T F.znv = some zua := rfl
theorem zbn7 : T F.zn6 = some zuu := rfl
theorem zbn8 : T F.znp = some zvf := rfl
theorem zbn9 : T F.znh = some zvh := rfl
theorem zboa : T F.zlg = some zvr := rfl
theorem zbob : T F.zn7 = some zwr := rfl
theorem zboc : T F.zn8 = some zw9 := rfl
theorem zbod : T F.zjx = some zxb := rfl
theorem zboe : T F.zms = some zxz := rfl
theorem zbof : T F.zju = some zx1 := rfl
theorem zbog : T F.zki = some zx3 := rfl
theorem zboh : T F.zkx = some zyl := rfl
theorem zboi : T F.zn9 = some zyq := rfl
theorem zboj : T F.zkd = some zys := rfl
theorem zbok : T F.zmo = some zy0 := rfl
theorem zbol : T F.zmp = some zy2 := rfl
theorem zbom : T F.znu = some zzc := rfl
theorem zbon : T F.zmk = some zze := rfl
theorem zboo : T F.zm7 = some zzw := rfl
theorem zbop : T F.zno = some z0u := rfl
theorem zboq : T F.zm9 = some z08 := rfl
theorem zbor : T F.zng = some z1e := rfl
theorem zbos : T F.zle = some z1w := rfl
theorem zbot : T F.zla = some z1y := rfl
theorem zbou : T F.zlp = some z22 := rfl
theorem zbov : T F.zlz = some z3i := rfl
theorem zbow : T F.zjw = some z3m := rfl
theorem zbox : T F.zmh = some z3u := rfl
theorem zboy : T F.zmr = some z34 := rfl
theorem zboz : T F.zkh = some z36 := rfl
theorem zbo0 : T F.zkr = some z4s := rfl
theorem zbo1 : T F.zkv = some z5b := rfl
theorem zbo2 : T F.zj7 = some z5d := rfl
theorem zbo3 : T F.zmm = some z5r := rfl
theorem zbo4 : T F.zmj = some z6h := rfl
theorem zbo5 : T F.zm5 = some z8f := rfl
theorem zbo6 : T F.znc = some z8x := rfl
theorem zbo7 : T F.znm = some z9j := rfl
theorem zbo8 : T F.zm3 = some z9l := rfl
theorem zbo9 : T F.zk7 = some z9n := rfl
theorem zbpa : T F.zlc = some z91 := rfl
theorem zbpb : T F.zld = some z93 := rfl
theorem zbpc : T F.zk9 = some zbas := rfl
theorem zbpd : T F.zlm = some zbbk := rfl
theorem zbpe : T F.zlx = some zbbz := rfl
theorem zbpf : T F.zkg = some zbb1 := rfl
theorem zbpg : T F.zkm = some zbcb := rfl
theorem zbph : T F.zko = some zbcd := rfl
theorem zbpi : T F.zkp = some zbcf := rfl
theorem zbpj : T F.zks = some zbch := rfl
theorem zbpk : T F.zkt = some zbcw := rfl
theorem zbpl : T F.zj6 = some zbcy := rfl
theorem zbpm : T F.zj2 = some zbda := rfl
theorem zbpn : T F.zj3 = some zbdc := rfl
theorem zbpo : T F.zmw = some zbde := rfl
theorem zbpp : T F.zm2 = some zbd2 := rfl
theorem zbpq : T F.zmy = some zbd4 := rfl
theorem zbpr : T F.zm1 = some zbee := rfl
theorem zbps : T F.znb = some zbem := rfl
theorem zbpt : T F.zne = some zbe0 := rfl
theorem zbpu : T F.znj = some zbe2 := rfl
theorem zbpv : T F.znk = some zbfa := rfl
theorem zbpw : T F.zm0 = some zbfc := rfl
theorem zbpx : T F.zoa = some zbfe := rfl
theorem zbpy : T F.zk4 = some zbfg := rfl
theorem zbpz : T F.zlj = some zbfi := rfl
theorem zbp0 : T F.zlk = some zbf1 := rfl
theorem zbp1 : T F.zlw = some zbhd := rfl
theorem zbp2 : T F.zkn = some zbhi := rfl
theorem zbp3 : T F.zj5 = some zbh1 := rfl
theorem zbp4 : T F.zj0 = some zbiy := rfl
theorem zbp5 : T F.zmx = some zbi7 := rfl
theorem zbp6 : T F.zni = some zbjg := rfl
theorem zbp7 : T F.zmz = some zbjt := rfl
theorem zbp8 : T F.zob = some zbkc := rfl
theorem zbp9 : T F.zli = some zbkh := rfl
theorem zbqa : T F.zoc = some zbkq := rfl
theorem zbqb : T F.zlq = some zbkz := rfl
theorem zbqc : T F.zls = some zbli := rfl
theorem zbqd : T F.zlt = some zblz := rfl
theorem zbqe : T F.zod = some zbmm := rfl
theorem zbqf : T F.zlu = some zbmx := rfl
theorem zbqg : T F.zoe = some zbm8 := rfl
theorem zbqh : T F.zof = some zbnd := rfl
theorem zbqi : T F.zog = some zbni := rfl
def rg {P : Prop} {c c' : List MO} (h : c = c') (p : P) := ra (T := T) h p
def xg {P : Prop} {c c' : MC} (h : c = c') (p : P) := xa (T := T) h p
def zbqj := rg o_3_1.eq_1 <| rg o_3_2.eq_1 <| rg o_3_3.eq_1 <| rg o_3_4.eq_1 <| xg c_3_5.eq_1 <| rg o_3_6.eq_1 <| rg o_3_7.eq_1 <| rg o_3_8.eq_1 <| xg c_3_9.eq_1 <| xg c_3_10.eq_1 <| xg c_3_11.eq_1 <| xg c_3_12.eq_1 <| @ex_of T _ _ c_3_13.eq_1
def zbqk := @vd T F.zn4 zoi [0, 0] zbnj rfl rfl
theorem zbql : zoi.res = [.tmp 4] ∧ zoi.rets = [[]] ∧ zoi.body = (.seq (.reg o_3_1) c_3_13) := ⟨rfl, rfl, rfl⟩
def zbqm := rg o_5_1.eq_1 <| rg o_5_2.eq_1 <| rg o_5_3.eq_1 <| xg c_5_4.eq_1 <| @ex_of T _ _ c_5_5.eq_1
def zbqn := @vd T F.zk3 zok [] zbnk rfl rfl
theorem zbqo : zok.res = [.tmp 0] ∧ zok.rets = [[]] ∧ zok.body = (.seq (.reg o_5_1) c_5_5) := ⟨rfl, rfl, rfl⟩
def zbqp := rg o_6_1.eq_1 <| rg o_6_2.eq_1 <| rg o_6_3.eq_1 <| rg o_6_4.eq_1 <| rg o_6_5.eq_1 <| rg o_6_6.eq_1 <| xg c_6_7.eq_1 <| xg c_6_8.eq_1 <| rg o_6_9.eq_1 <| rg o_6_10.eq_1 <| rg o_6_11.eq_1 <| rg o_6_12.eq_1 <| rg o_6_13.eq_1 <| xg c_6_14.eq_1 <| rg o_6_15.eq_1 <| xg c_6_16.eq_1 <| xg c_6_17.eq_1 <| xg c_6_18.eq_1 <| xg c_6_19.eq_1 <| xg c_6_20.eq_1 <| rg o_6_21.eq_1 <| xg c_6_22.eq_1 <| xg c_6_23.eq_1 <| xg c_6_24.eq_1 <| xg c_6_25.eq_1 <| @ex_of T _ _ c_6_26.eq_1
def zbqq := @vd T F.zmf zom [0, 0] zbnl rfl rfl
theorem zbqr : zom.res = [.tmp 4, .tmp 5] ∧ zom.rets = [[], []] ∧ zom.body = (.seq (.reg o_6_1) c_6_26) := ⟨rfl, rfl, rfl⟩
def zbqs := rg o_7_1.eq_1 <| rg o_7_2.eq_1 <| rg o_7_3.eq_1 <| rg o_7_4.eq_1 <| xg c_7_5.eq_1 <| rg o_7_6.eq_1 <| rg o_7_7.eq_1 <| xg c_7_8.eq_1 <| rg o_7_9.eq_1 <| rg o_7_10.eq_1 <| rg o_7_11.eq_1 <| xg c_7_12.eq_1 <| xg c_7_13.eq_1 <| xg c_7_14.eq_1 <| xg c_7_15.eq_1 <| xg c_7_16.eq_1 <| @ex_of T _ _ c_7_17.eq_1
def zbqt := @vd T F.zn3 zoo [0, 0] zbnm rfl rfl
theorem zbqu : zoo.res = [.tmp 4, .tmp 5] ∧ zoo.rets = [[], []] ∧ zoo.body = (.seq (.reg o_7_1) c_7_17) := ⟨rfl, rfl, rfl⟩
def zbqv := rg o_9_1.eq_1 <| rg o_9_2.eq_1 <| rg o_9_3.eq_1 <| rg o_9_4.eq_1 <| xg c_9_5.eq_1 <| rg o_9_6.eq_1 <| rg o_9_7.eq_1 <| xg c_9_8.eq_1 <| rg o_9_9.eq_1 <| rg o_9_10.eq_1 <| rg o_9_11.eq_1 <| rg o_9_12.eq_1 <| xg c_9_13.eq_1 <| rg o_9_14.eq_1 <| rg o_9_15.eq_1 <| And.intro (@df_of T _ _ [(9, 5), (10, 5), (11, 5)] o_9_15.eq_1) <| rg o_9_16.eq_1 <| xg c_9_17.eq_1 <| rg o_9_18.eq_1 <| xg c_9_19.eq_1 <| xg c_9_20.eq_1 <| xg c_9_21.eq_1 <| xg c_9_22.eq_1 <| xg c_9_23.eq_1 <| xg c_9_24.eq_1 <| xg c_9_25.eq_1 <| xg c_9_26.eq_1 <| @ex_of T _ _ c_9_27.eq_1
def zbqw := @vd T F.zn0 zoq [0] zbnn rfl rfl
theorem zbqx : zoq.res = [.cell 2 3 true, .tmp 3] ∧ zoq.rets = [[], []] ∧ zoq.body = (.seq (.reg o_9_1) c_9_27) := ⟨rfl, rfl, rfl⟩
def zbqy := rg o_13_1.eq_1 <| rg o_13_2.eq_1 <| rg o_13_3.eq_1 <| rg o_13_4.eq_1 <| rg o_13_5.eq_1 <| rg o_13_6.eq_1 <| xg c_13_7.eq_1 <| xg c_13_8.eq_1 <| rg o_13_9.eq_1 <| rg zor.eq_1 <| xg zos.eq_1 <| xg zot.eq_1 <| xg zou.eq_1 <| @ex_of T _ _ zov.eq_1
def zbqz := @vd T F.zk2 zox [0, 0] zbno rfl rfl
theorem zbq0 : zox.res = [.tmp 4, .tmp 5] ∧ zox.rets = [[2], []] ∧ zox.body = (.seq (.reg o_13_1) zov) := ⟨rfl, rfl, rfl⟩
def zbq1 := rg o_14_1.eq_1 <| rg o_14_2.eq_1 <| rg o_14_3.eq_1 <| rg o_14_4.eq_1 <| rg o_14_5.eq_1 <| rg o_14_6.eq_1 <| xg c_14_7.eq_1 <| xg c_14_8.eq_1 <| rg o_14_9.eq_1 <| rg zoy.eq_1 <| rg zoz.eq_1 <| rg zo0.eq_1 <| rg zo1.eq_1 <| xg zo2.eq_1 <| xg zo3.eq_1 <| rg zo4.eq_1 <| rg zo5.eq_1 <| And.intro (@df_of T _ _ [(4, 1), (5, 1)] zo5.eq_1) <| rg zo6.eq_1 <| xg zo7.eq_1 <| rg zo8.eq_1 <| xg zo9.eq_1 <| xg zpa.eq_1 <| xg zpb.eq_1 <| xg zpc.eq_1 <| xg zpd.eq_1 <| xg zpe.eq_1 <| xg zpf.eq_1 <| @ex_of T _ _ zpg.eq_1
def zbq2 := @vd T F.zmc zpi [0] zbnp rfl rfl
theorem zbq3 : zpi.res = [.cell 2 3 true, .tmp 3, .tmp 4] ∧ zpi.rets = [[], [2], []] ∧ zpi.body = (.seq (.reg o_14_1) zpg) := ⟨rfl, rfl, rfl⟩
def zbq4 := rg o_15_1.eq_1 <| rg o_15_2.eq_1 <| rg o_15_3.eq_1 <| rg o_15_4.eq_1 <| xg c_15_5.eq_1 <| rg o_15_6.eq_1 <| xg c_15_7.eq_1 <| xg c_15_8.eq_1 <| @ex_of T _ _ c_15_9.eq_1
def zbq5 := @vd T F.zmv zpk [0] zbnq rfl rfl
theorem zbq6 : zpk.res = [.tmp 2, .tmp 3] ∧ zpk.rets = [[2], []] ∧ zpk.body = (.seq (.reg o_15_1) c_15_9) := ⟨rfl, rfl, rfl⟩
def zbq7 := rg o_16_1.eq_1 <| rg o_16_2.eq_1 <| rg o_16_3.eq_1 <| rg o_16_4.eq_1 <| xg c_16_5.eq_1 <| rg o_16_6.eq_1 <| rg o_16_7.eq_1 <| xg c_16_8.eq_1 <| rg o_16_9.eq_1 <| xg zpl.eq_1 <| xg zpm.eq_1 <| xg zpn.eq_1 <| xg zpo.eq_1 <| rg zpp.eq_1 <| xg zpq.eq_1 <| xg zpr.eq_1 <| @ex_of T _ _ zps.eq_1
def zbq8 := @vd T F.znx zpu [0] zbnr rfl rfl
theorem zbq9 : zpu.res = [.tmp 2] ∧ zpu.rets = [[2]] ∧ zpu.body = (.seq (.reg o_16_1) zps) := ⟨rfl, rfl, rfl⟩
def zbra := rg o_17_1.eq_1 <| rg o_17_2.eq_1 <| rg o_17_3.eq_1 <| rg o_17_4.eq_1 <| xg c_17_5.eq_1 <| rg o_17_6.eq_1 <| rg o_17_7.eq_1 <| xg c_17_8.eq_1 <| xg c_17_9.eq_1 <| xg zpv.eq_1 <| xg zpw.eq_1 <| rg zpx.eq_1 <| xg zpy.eq_1 <| xg zpz.eq_1 <| @ex_of T _ _ zp0.eq_1
def zbrb := @vd T F.zn2 zp2 [0] zbns rfl rfl
theorem zbrc : zp2.res = [.tmp 2] ∧ zp2.rets = [[2]] ∧ zp2.body = (.seq (.reg o_17_1) zp0) := ⟨rfl, rfl, rfl⟩
def zbrd := rg o_18_1.eq_1 <| rg o_18_2.eq_1 <| rg o_18_3.eq_1 <| rg o_18_4.eq_1 <| xg c_18_5.eq_1 <| rg o_18_6.eq_1 <| rg o_18_7.eq_1 <| rg o_18_8.eq_1 <| xg c_18_9.eq_1 <| rg zp3.eq_1 <| rg zp4.eq_1 <| rg zp5.eq_1 <| xg zp6.eq_1 <| rg zp7.eq_1 <| rg zp8.eq_1 <| xg zp9.eq_1 <| rg zqa.eq_1 <| rg zqb.eq_1 <| xg zqc.eq_1 <| xg zqd.eq_1 <| xg zqe.eq_1 <| xg zqf.eq_1 <| rg zqg.eq_1 <| xg zqh.eq_1 <| xg zqi.eq_1 <| xg zqj.eq_1 <| xg zqk.eq_1 <| rg zql.eq_1 <| And.intro (@df_of T _ _ [(3, 5)] zql.eq_1) <| xg zqm.eq_1 <| xg zqn.eq_1 <| xg zqo.eq_1 <| xg zqp.eq_1 <| @ex_of T _ _ zqq.eq_1
def zbre := @vd T F.zns zqs [0] zbnt rfl rfl
theorem zbrf : zqs.res = [.tmp 2, .cell 3 3 true, .tmp 4, .tmp 5] ∧ zqs.rets = [[], [], [], []] ∧ zqs.body = (.seq (.reg o_18_1) zqq) := ⟨rfl, rfl, rfl⟩
def zbrg := rg o_19_1.eq_1 <| rg o_19_2.eq_1 <| rg o_19_3.eq_1 <| rg o_19_4.eq_1 <| rg o_19_5.eq_1 <| xg c_19_6.eq_1 <| rg o_19_7.eq_1 <| rg o_19_8.eq_1 <| xg c_19_9.eq_1 <| rg zqt.eq_1 <| xg zqu.eq_1 <| xg zqv.eq_1 <| xg zqw.eq_1 <| xg zqx.eq_1 <| rg zqy.eq_1 <| xg zqz.eq_1 <| xg zq0.eq_1 <| xg zq1.eq_1 <| @ex_of T _ _ zq2.eq_1
def zbrh := @vd T F.znz zq4 [0, 0] zbnu rfl rfl
theorem zbri : zq4.res = [.tmp 4] ∧ zq4.rets = [[2]] ∧ zq4.body = (.seq (.reg o_19_1) zq2) := ⟨rfl, rfl, rfl⟩
def zbrj := rg o_21_1.eq_1 <| rg o_21_2.eq_1 <| rg o_21_3.eq_1 <| rg o_21_4.eq_1 <| xg c_21_5.eq_1 <| xg c_21_6.eq_1 <| rg o_21_7.eq_1 <| rg o_21_8.eq_1 <| rg o_21_9.eq_1 <| rg zq5.eq_1 <| rg zq6.eq_1 <| rg zq7.eq_1 <| xg zq8.eq_1 <| xg zq9.eq_1 <| xg zra.eq_1 <| rg zrb.eq_1 <| xg zrc.eq_1 <| xg zrd.eq_1 <| xg zre.eq_1 <| xg zrf.eq_1 <| xg zrg.eq_1 <| rg zrh.eq_1 <| xg zri.eq_1 <| xg zrj.eq_1 <| @ex_of T _ _ zrk.eq_1
def zbrk := @vi T F.zn5 zrm zbnv rfl
theorem zbrl {n : Nat} {H : Hp} {vs : List V} : (orc T (n + 1)).inl F.zn5 vs H = finI H.length false [.tmp 4, .tmp 5] (unw T (orc T n) n H.length [] (exec T (orc T n) n H.length (.seq (.reg o_21_1) zrk) (params 0 vs) H)) := by rw [zh4, zbnv, y4, zh2]; rfl
def zbrm := rg o_23_1.eq_1 <| rg o_23_2.eq_1 <| rg o_23_3.eq_1 <| rg o_23_4.eq_1 <| xg c_23_5.eq_1 <| rg o_23_6.eq_1 <| rg o_23_7.eq_1 <| rg o_23_8.eq_1 <| xg c_23_9.eq_1 <| rg zrn.eq_1 <| rg zro.eq_1 <| xg zrp.eq_1 <| xg zrq.eq_1 <| xg zrr.eq_1 <| xg zrs.eq_1 <| xg zrt.eq_1 <| rg zru.eq_1 <| xg zrv.eq_1 <| xg zrw.eq_1 <| xg zrx.eq_1 <| @ex_of T _ _ zry.eq_1
def zbrn := @vd T F.zmu zr0 [0] zbnw rfl rfl
theorem zbro : zr0.res = [.tmp 2, .tmp 3, .tmp 4] ∧ zr0.rets = [[2], [], []] ∧ zr0.body = (.seq (.reg o_23_1) zry) := ⟨rfl, rfl, rfl⟩
def zbrp := rg o_25_1.eq_1 <| rg o_25_2.eq_1 <| rg o_25_3.eq_1 <| rg o_25_4.eq_1 <| rg o_25_5.eq_1 <| xg c_25_6.eq_1 <| xg c_25_7.eq_1 <| rg o_25_8.eq_1 <| xg c_25_9.eq_1 <| @ex_of T _ _ zr1.eq_1
def zbrq := @vd T F.zkf zr3 [0, 0, 0] zbnx rfl rfl
theorem zbrr : zr3.res = [.tmp 6, .tmp 7] ∧ zr3.rets = [[2], []] ∧ zr3.body = (.seq (.reg o_25_1) zr1) := ⟨rfl, rfl, rfl⟩
def zbrs := rg o_26_1.eq_1 <| rg o_26_2.eq_1 <| rg o_26_3.eq_1 <| rg o_26_4.eq_1 <| rg o_26_5.eq_1 <| rg o_26_6.eq_1 <| xg c_26_7.eq_1 <| xg c_26_8.eq_1 <| rg o_26_9.eq_1 <| xg zr4.eq_1 <| xg zr5.eq_1 <| xg zr6.eq_1 <| xg zr7.eq_1 <| xg zr8.eq_1 <| rg zr9.eq_1 <| xg zsa.eq_1 <| @ex_of T _ _ zsb.eq_1
def zbrt := @vd T F.zkk zsd [0, 0] zbny rfl rfl
theorem zbru : zsd.res = [.tmp 4] ∧ zsd.rets = [[]] ∧ zsd.body = (.seq (.reg o_26_1) zsb) := ⟨rfl, rfl, rfl⟩
def zbrv := rg o_27_1.eq_1 <| rg o_27_2.eq_1 <| rg o_27_3.eq_1 <| xg c_27_4.eq_1 <| rg o_27_5.eq_1 <| rg o_27_6.eq_1 <| rg o_27_7.eq_1 <| xg c_27_8.eq_1 <| xg c_27_9.eq_1 <| xg zse.eq_1 <| xg zsf.eq_1 <| rg zsg.eq_1 <| xg zsh.eq_1 <| xg zsi.eq_1 <| @ex_of T _ _ zsj.eq_1
def zbrw := @vd T F.zkz zsl [0, 0] zbnz rfl rfl
theorem zbrx : zsl.res = [.tmp 4] ∧ zsl.rets = [[2]] ∧ zsl.body = (.seq (.reg o_27_1) zsj) := ⟨rfl, rfl, rfl⟩
def zbry := rg o_28_1.eq_1 <| rg o_28_2.eq_1 <| rg o_28_3.eq_1 <| rg o_28_4.eq_1 <| rg o_28_5.eq_1 <| rg o_28_6.eq_1 <| rg o_28_7.eq_1 <| xg c_28_8.eq_1 <| xg c_28_9.eq_1 <| xg zsm.eq_1 <| rg zsn.eq_1 <| xg zso.eq_1 <| xg zsp.eq_1 <| xg zsq.eq_1 <| xg zsr.eq_1 <| xg zss.eq_1 <| rg zst.eq_1 <| rg zsu.eq_1 <| rg zsv.eq_1 <| rg zsw.eq_1 <| rg zsx.eq_1 <| xg zsy.eq_1 <| rg zsz.eq_1 <| xg zs0.eq_1 <| xg zs1.eq_1 <| xg zs2.eq_1 <| xg zs3.eq_1 <| xg zs4.eq_1 <| rg zs5.eq_1 <| xg zs6.eq_1 <| xg zs7.eq_1 <| xg zs8.eq_1 <| xg zs9.eq_1 <| @ex_of T _ _ zta.eq_1
def zbrz := @vd T F.zkc ztc [0] zbn0 rfl rfl
theorem zbr0 : ztc.res = [.tmp 2] ∧ ztc.rets = [[2]] ∧ ztc.body = (.seq (.reg o_28_1) zta) := ⟨rfl, rfl, rfl⟩
def zbr1 := rg o_29_1.eq_1 <| rg o_29_2.eq_1 <| rg o_29_3.eq_1 <| rg o_29_4.eq_1 <| rg o_29_5.eq_1 <| rg o_29_6.eq_1 <| xg c_29_7.eq_1 <| rg o_29_8.eq_1 <| xg c_29_9.eq_1 <| xg ztd.eq_1 <| xg zte.eq_1 <| xg ztf.eq_1 <| xg ztg.eq_1 <| rg zth.eq_1 <| xg zti.eq_1 <| xg ztj.eq_1 <| @ex_of T _ _ ztk.eq_1
def zbr2 := @vd T F.zk1 ztm [0] zbn1 rfl rfl
theorem zbr3 : ztm.res = [.tmp 2] ∧ ztm.rets = [[2]] ∧ ztm.body = (.seq (.reg o_29_1) ztk) := ⟨rfl, rfl, rfl⟩
def zbr4 := rg o_30_1.eq_1 <| rg o_30_2.eq_1 <| rg o_30_3.eq_1 <| rg o_30_4.eq_1 <| xg c_30_5.eq_1 <| rg o_30_6.eq_1 <| xg c_30_7.eq_1 <| xg c_30_8.eq_1 <| @ex_of T _ _ c_30_9.eq_1
def zbr5 := @vd T F.zlh zto [0] zbn2 rfl rfl
theorem zbr6 : zto.res = [.tmp 2, .tmp 3] ∧ zto.rets = [[2], []] ∧ zto.body = (.seq (.reg o_30_1) c_30_9) := ⟨rfl, rfl, rfl⟩
def zbr7 := rg o_31_1.eq_1 <| rg o_31_2.eq_1 <| rg o_31_3.eq_1 <| rg o_31_4.eq_1 <| rg o_31_5.eq_1 <| rg o_31_6.eq_1 <| xg c_31_7.eq_1 <| rg o_31_8.eq_1 <| xg c_31_9.eq_1 <| xg ztp.eq_1 <| xg ztq.eq_1 <| xg ztr.eq_1 <| xg zts.eq_1 <| rg ztt.eq_1 <| xg ztu.eq_1 <| xg ztv.eq_1 <| @ex_of T _ _ ztw.eq_1
def zbr8 := @vd T F.zl1 zty [0] zbn3 rfl rfl
theorem zbr9 : zty.res = [.tmp 2] ∧ zty.rets = [[2]] ∧ zty.body = (.seq (.reg o_31_1) ztw) := ⟨rfl, rfl, rfl⟩
def zbsa := rg o_32_1.eq_1 <| rg o_32_2.eq_1 <| @ex_of T _ _ c_32_3.eq_1
def zbsb := @vd T F.zln zt0 [0, 0] zbn4 rfl rfl
theorem zbsc : zt0.res = [.tmp 4] ∧ zt0.rets = [[]] ∧ zt0.body = (.seq (.reg o_32_1) c_32_3) := ⟨rfl, rfl, rfl⟩
def zbsd := rg o_33_1.eq_1 <| rg o_33_2.eq_1 <| rg o_33_3.eq_1 <| xg c_33_4.eq_1 <| @ex_of T _ _ c_33_5.eq_1
def zbse := @vd T F.zke zt2 [0] zbn5 rfl rfl
theorem zbsf : zt2.res = [.tmp 2] ∧ zt2.rets = [[2]] ∧ zt2.body = (.seq (.reg o_33_1) c_33_5) := ⟨rfl, rfl, rfl⟩
def zbsg := rg o_34_1.eq_1 <| rg o_34_2.eq_1 <| rg o_34_3.eq_1 <| xg c_34_4.eq_1 <| rg o_34_5.eq_1 <| rg o_34_6.eq_1 <| rg o_34_7.eq_1 <| rg o_34_8.eq_1 <| rg o_34_9.eq_1 <| xg zt3.eq_1 <| xg zt4.eq_1 <| xg zt5.eq_1 <| xg zt6.eq_1 <| xg zt7.eq_1 <| @ex_of T _ _ zt8.eq_1
def zbsh := @vd T F.znv zua [0] zbn6 rfl rfl
theorem zbsi : zua.res = [.tmp 2, .tmp 3] ∧ zua.rets = [[2], []] ∧ zua.body = (.seq (.reg o_34_1) zt8) := ⟨rfl, rfl, rfl⟩
def zbsj := rg o_35_1.eq_1 <| rg o_35_2.eq_1 <| rg o_35_3.eq_1 <| rg o_35_4.eq_1 <| xg c_35_5.eq_1 <| rg o_35_6.eq_1 <| rg o_35_7.eq_1 <| rg o_35_8.eq_1 <| rg o_35_9.eq_1 <| rg zub.eq_1 <| xg zuc.eq_1 <| rg zud.eq_1 <| rg zue.eq_1 <| xg zuf.eq_1 <| rg zug.eq_1 <| rg zuh.eq_1 <| xg zui.eq_1 <| rg zuj.eq_1 <| xg zuk.eq_1 <| xg zul.eq_1 <| xg zum.eq_1 <| xg zun.eq_1 <| xg zuo.eq_1 <| xg zup.eq_1 <| xg zuq.eq_1 <| xg zur.eq_1 <| @ex_of T _ _ zus.eq_1
def zbsk := @vi T F.zn6 zuu zbn7 rfl
theorem zbsl {n : Nat} {H : Hp} {vs : List V} : (orc T (n + 1)).inl F.zn6 vs H = finI H.length false [.tmp 2, .cell 3 3 true, .tmp 4] (unw T (orc T n) n H.length [] (exec T (orc T n) n H.length (.seq (.reg o_35_1) zus) (params 0 vs) H)) := by rw [zh4, zbn7, y4, zh2]; rfl
def zbsm := rg o_36_1.eq_1 <| rg o_36_2.eq_1 <| rg o_36_3.eq_1 <| rg o_36_4.eq_1 <| rg o_36_5.eq_1 <| rg o_36_6.eq_1 <| xg c_36_7.eq_1 <| rg o_36_8.eq_1 <| xg c_36_9.eq_1 <| xg zuv.eq_1 <| rg zuw.eq_1 <| rg zux.eq_1 <| rg zuy.eq_1 <| xg zuz.eq_1 <| rg zu0.eq_1 <| xg zu1.eq_1 <| xg zu2.eq_1 <| xg zu3.eq_1 <| rg zu4.eq_1 <| rg zu5.eq_1 <| xg zu6.eq_1 <| rg zu7.eq_1 <| rg zu8.eq_1 <| xg zu9.eq_1 <| xg zva.eq_1 <| xg zvb.eq_1 <| xg zvc.eq_1 <| @ex_of T _ _ zvd.eq_1
def zbsn := @vd T F.znp zvf [0, 0, 0] zbn8 rfl rfl
theorem zbso : zvf.res = [.tmp 6, .tmp 7] ∧ zvf.rets = [[8], []] ∧ zvf.body = (.seq (.reg o_36_1) zvd) := ⟨rfl, rfl, rfl⟩
def zbsp := rg o_37_1.eq_1 <| rg o_37_2.eq_1 <| rg o_37_3.eq_1 <| rg o_37_4.eq_1 <| xg c_37_5.eq_1 <| rg o_37_6.eq_1 <| xg c_37_7.eq_1 <| xg c_37_8.eq_1 <| @ex_of T _ _ c_37_9.eq_1
def zbsq := @vd T F.znh zvh [0, 0] zbn9 rfl rfl
theorem zbsr : zvh.res = [.tmp 4] ∧ zvh.rets = [[2]] ∧ zvh.body = (.seq (.reg o_37_1) c_37_9) := ⟨rfl, rfl, rfl⟩
def zbss := rg o_38_1.eq_1 <| rg o_38_2.eq_1 <| xg c_38_3.eq_1 <| rg o_38_4.eq_1 <| rg o_38_5.eq_1 <| rg o_38_6.eq_1 <| xg c_38_7.eq_1 <| rg o_38_8.eq_1 <| rg o_38_9.eq_1 <| xg zvi.eq_1 <| xg zvj.eq_1 <| xg zvk.eq_1 <| xg zvl.eq_1 <| xg zvm.eq_1 <| rg zvn.eq_1 <| xg zvo.eq_1 <| @ex_of T _ _ zvp.eq_1
def zbst := @vd T F.zlg zvr [0] zboa rfl rfl
theorem zbsu : zvr.res = [.tmp 2, .tmp 3, .tmp 4] ∧ zvr.rets = [[2], [], []] ∧ zvr.body = (.seq (.reg o_38_1) zvp) := ⟨rfl, rfl, rfl⟩
def zbsv := rg o_39_1.eq_1 <| rg o_39_2.eq_1 <| rg o_39_3.eq_1 <| xg c_39_4.eq_1 <| rg o_39_5.eq_1 <| rg o_39_6.eq_1 <| rg o_39_7.eq_1 <| rg o_39_8.eq_1 <| rg o_39_9.eq_1 <| rg zvs.eq_1 <| rg zvt.eq_1 <| rg zvu.eq_1 <| rg zvv.eq_1 <| xg zvw.eq_1 <| xg zvx.eq_1 <| rg zvy.eq_1 <| xg zvz.eq_1 <| xg zv0.eq_1 <| xg zv1.eq_1 <| rg zv2.eq_1 <| xg zv3.eq_1 <| xg zv4.eq_1 <| xg zv5.eq_1 <| xg zv6.eq_1 <| xg zv7.eq_1 <| rg zv8.eq_1 <| rg zv9.eq_1 <| rg zwa.eq_1 <| rg zwb.eq_1 <| rg zwc.eq_1 <| rg zwd.eq_1 <| xg zwe.eq_1 <| xg zwf.eq_1 <| xg zwg.eq_1 <| rg zwh.eq_1 <| And.intro (@df_of T _ _ [(6, 12), (8, 12)] zwh.eq_1) <| rg zwi.eq_1 <| xg zwj.eq_1 <| xg zwk.eq_1 <| xg zwl.eq_1 <| xg zwm.eq_1 <| xg zwn.eq_1 <| xg zwo.eq_1 <| @ex_of T _ _ zwp.eq_1
def zbsw := @vi T F.zn7 zwr zbob rfl
theorem zbsx {n : Nat} {H : Hp} {vs : List V} : (orc T (n + 1)).inl F.zn7 vs H = finI H.length false [.tmp 4] (unw T (orc T n) n H.length [] (exec T (orc T n) n H.length (.seq (.reg o_39_1) zwp) (params 0 vs) H)) := by rw [zh4, zbob, y4, zh2]; rfl
def zbsy := rg o_40_1.eq_1 <| rg o_40_2.eq_1 <| rg o_40_3.eq_1 <| rg o_40_4.eq_1 <| rg o_40_5.eq_1 <| rg o_40_6.eq_1 <| xg c_40_7.eq_1 <| rg o_40_8.eq_1 <| xg c_40_9.eq_1 <| rg zws.eq_1 <| rg zwt.eq_1 <| rg zwu.eq_1 <| rg zwv.eq_1 <| rg zww.eq_1 <| xg zwx.eq_1 <| xg zwy.eq_1 <| rg zwz.eq_1 <| rg zw0.eq_1 <| xg zw1.eq_1 <| xg zw2.eq_1 <| xg zw3.eq_1 <| xg zw4.eq_1 <| xg zw5.eq_1 <| xg zw6.eq_1 <| @ex_of T _ _ zw7.eq_1
def zbsz := @vi T F.zn8 zw9 zboc rfl
theorem zbs0 {n : Nat} {H : Hp} {vs : List V} : (orc T (n + 1)).inl F.zn8 vs H = finI H.length false [.tmp 4] (unw T (orc T n) n H.length [] (exec T (orc T n) n H.length (.seq (.reg o_40_1) zw7) (params 0 vs) H)) := by rw [zh4, zboc, y4, zh2]; rfl
def zbs1 := rg o_41_1.eq_1 <| rg o_41_2.eq_1 <| rg o_41_3.eq_1 <| xg c_41_4.eq_1 <| rg o_41_5.eq_1 <| xg c_41_6.eq_1 <| @ex_of T _ _ c_41_7.eq_1
def zbs2 := @vd T F.zjx zxb [2, 0] zbod rfl rfl
theorem zbs3 : zxb.res = [.tmp 4] ∧ zxb.rets = [[2]] ∧ zxb.body = (.seq (.reg o_41_1) c_41_7) := ⟨rfl, rfl, rfl⟩
def zbs4 := rg o_42_1.eq_1 <| rg o_42_2.eq_1 <| rg o_42_3.eq_1 <| rg o_42_4.eq_1 <| xg c_42_5.eq_1 <| rg o_42_6.eq_1 <| rg o_42_7.eq_1 <| rg o_42_8.eq_1 <| xg c_42_9.eq_1 <| rg zxc.eq_1 <| rg zxd.eq_1 <| xg zxe.eq_1 <| rg zxf.eq_1 <| rg zxg.eq_1 <| xg zxh.eq_1 <| rg zxi.eq_1 <| rg zxj.eq_1 <| rg zxk.eq_1 <| rg zxl.eq_1 <| xg zxm.eq_1 <| rg zxn.eq_1 <| xg zxo.eq_1 <| xg zxp.eq_1 <| xg zxq.eq_1 <| xg zxr.eq_1 <| xg zxs.eq_1 <| xg zxt.eq_1 <| xg zxu.eq_1 <| xg zxv.eq_1 <| xg zxw.eq_1 <| @ex_of T _ _ zxx.eq_1
def zbs5 := @vd T F.zms zxz [0] zboe rfl rfl
theorem zbs6 : zxz.res = [.tmp 2, .tmp 3, .tmp 4] ∧ zxz.rets = [[2], [], []] ∧ zxz.body = (.seq (.reg o_42_1) zxx) := ⟨rfl, rfl, rfl⟩
def zbs7 := rg o_43_1.eq_1 <| rg o_43_2.eq_1 <| @ex_of T _ _ c_43_3.eq_1
def zbs8 := @vd T F.zju zx1 [0] zbof rfl rfl
theorem zbs9 : zx1.res = [.tmp 2] ∧ zx1.rets = [[]] ∧ zx1.body = (.seq (.reg o_43_1) c_43_3) := ⟨rfl, rfl, rfl⟩
def zbta := rg o_44_1.eq_1 <| rg o_44_2.eq_1 <| @ex_of T _ _ c_44_3.eq_1
def zbtb := @vd T F.zki zx3 [0] zbog rfl rfl
theorem zbtc : zx3.res = [.tmp 2] ∧ zx3.rets = [[]] ∧ zx3.body = (.seq (.reg o_44_1) c_44_3) := ⟨rfl, rfl, rfl⟩
def zbtd := rg o_45_1.eq_1 <| rg o_45_2.eq_1 <| rg o_45_3.eq_1 <| rg o_45_4.eq_1 <| xg c_45_5.eq_1 <| xg c_45_6.eq_1 <| rg o_45_7.eq_1 <| rg o_45_8.eq_1 <| rg o_45_9.eq_1 <| rg zx4.eq_1 <| rg zx5.eq_1 <| rg zx6.eq_1 <| xg zx7.eq_1 <| xg zx8.eq_1 <| rg zx9.eq_1 <| xg zya.eq_1 <| xg zyb.eq_1 <| xg zyc.eq_1 <| xg zyd.eq_1 <| xg zye.eq_1 <| rg zyf.eq_1 <| xg zyg.eq_1 <| xg zyh.eq_1 <| xg zyi.eq_1 <| @ex_of T _ _ zyj.eq_1
def zbte := @vd T F.zkx zyl [0, 0] zboh rfl rfl
theorem zbtf : zyl.res = [.tmp 4] ∧ zyl.rets = [[2]] ∧ zyl.body = (.seq (.reg o_45_1) zyj) := ⟨rfl, rfl, rfl⟩
def zbtg := rg o_46_1.eq_1 <| rg o_46_2.eq_1 <| xg c_46_3.eq_1 <| rg o_46_4.eq_1 <| rg o_46_5.eq_1 <| rg o_46_6.eq_1 <| xg c_46_7.eq_1 <| xg c_46_8.eq_1 <| rg o_46_9.eq_1 <| xg zym.eq_1 <| xg zyn.eq_1 <| @ex_of T _ _ zyo.eq_1
def zbth := @vi T F.zn9 zyq zboi rfl
theorem zbti {n : Nat} {H : Hp} {vs : List V} : (orc T (n + 1)).inl F.zn9 vs H = finI H.length false [.tmp 4] (unw T (orc T n) n H.length [] (exec T (orc T n) n H.length (.seq (.reg o_46_1) zyo) (params 0 vs) H)) := by rw [zh4, zboi, y4, zh2]; rfl
def zbtj := rg o_47_1.eq_1 <| rg o_47_2.eq_1 <| rg o_47_3.eq_1 <| xg c_47_4.eq_1 <| rg o_47_5.eq_1 <| rg o_47_6.eq_1 <| xg c_47_7.eq_1 <| xg c_47_8.eq_1 <| @ex_of T _ _ c_47_9.eq_1
def zbtk := @vd T F.zkd zys [0] zboj rfl rfl
theorem zbtl : zys.res = [.tmp 2, .tmp 3] ∧ zys.rets = [[2], []] ∧ zys.body = (.seq (.reg o_47_1) c_47_9) := ⟨rfl, rfl, rfl⟩
def zbtm := rg o_48_1.eq_1 <| rg o_48_2.eq_1 <| rg o_48_3.eq_1 <| rg o_48_4.eq_1 <| xg c_48_5.eq_1 <| rg o_48_6.eq_1 <| rg o_48_7.eq_1 <| xg c_48_8.eq_1 <| xg c_48_9.eq_1 <| xg zyt.eq_1 <| xg zyu.eq_1 <| rg zyv.eq_1 <| xg zyw.eq_1 <| xg zyx.eq_1 <| @ex_of T _ _ zyy.eq_1
def zbtn := @vd T F.zmo zy0 [0, 0] zbok rfl rfl
theorem zbto : zy0.res = [.tmp 4] ∧ zy0.rets = [[]] ∧ zy0.body = (.seq (.reg o_48_1) zyy) := ⟨rfl, rfl, rfl⟩
def zbtp := rg o_49_1.eq_1 <| rg o_49_2.eq_1 <| @ex_of T _ _ c_49_3.eq_1
def zbtq := @vd T F.zmp zy2 [0] zbol rfl rfl
theorem zbtr : zy2.res = [.tmp 2] ∧ zy2.rets = [[]] ∧ zy2.body = (.seq (.reg o_49_1) c_49_3) := ⟨rfl, rfl, rfl⟩
def zbts := rg o_50_1.eq_1 <| rg o_50_2.eq_1 <| rg o_50_3.eq_1 <| rg o_50_4.eq_1 <| xg c_50_5.eq_1 <| rg o_50_6.eq_1 <| rg o_50_7.eq_1 <| xg c_50_8.eq_1 <| rg o_50_9.eq_1 <| xg zy3.eq_1 <| xg zy4.eq_1 <| xg zy5.eq_1 <| xg zy6.eq_1 <| rg zy7.eq_1 <| xg zy8.eq_1 <| xg zy9.eq_1 <| @ex_of T _ _ zza.eq_1
def zbtt := @vd T F.znu zzc [0, 0] zbom rfl rfl
theorem zbtu : zzc.res = [.tmp 4] ∧ zzc.rets = [[2]] ∧ zzc.body = (.seq (.reg o_50_1) zza) := ⟨rfl, rfl, rfl⟩
def zbtv := rg o_51_1.eq_1 <| rg o_51_2.eq_1 <| rg o_51_3.eq_1 <| rg o_51_4.eq_1 <| xg c_51_5.eq_1 <| rg o_51_6.eq_1 <| xg c_51_7.eq_1 <| xg c_51_8.eq_1 <| @ex_of T _ _ c_51_9.eq_1
def zbtw := @vd T F.zmk zze [0] zbon rfl rfl
theorem zbtx : zze.res = [.tmp 2, .tmp 3] ∧ zze.rets = [[], []] ∧ zze.body = (.seq (.reg o_51_1) c_51_9) := ⟨rfl, rfl, rfl⟩
def zbty := rg o_52_1.eq_1 <| rg o_52_2.eq_1 <| rg o_52_3.eq_1 <| xg c_52_4.eq_1 <| rg o_52_5.eq_1 <| rg o_52_6.eq_1 <| rg o_52_7.eq_1 <| xg c_52_8.eq_1 <| rg o_52_9.eq_1 <| rg zzf.eq_1 <| rg zzg.eq_1 <| xg zzh.eq_1 <| rg zzi.eq_1 <| rg zzj.eq_1 <| xg zzk.eq_1 <| xg zzl.eq_1 <| xg zzm.eq_1 <| xg zzn.eq_1 <| xg zzo.eq_1 <| xg zzp.eq_1 <| xg zzq.eq_1 <| rg zzr.eq_1 <| xg zzs.eq_1 <| xg zzt.eq_1 <| @ex_of T _ _ zzu.eq_1
def zbtz := @vd T F.zm7 zzw [0, 0] zboo rfl rfl
theorem zbt0 : zzw.res = [.tmp 4, .tmp 5] ∧ zzw.rets = [[8], []] ∧ zzw.body = (.seq (.reg o_52_1) zzu) := ⟨rfl, rfl, rfl⟩
def zbt1 := rg o_53_1.eq_1 <| rg o_53_2.eq_1 <| rg o_53_3.eq_1 <| rg o_53_4.eq_1 <| rg o_53_5.eq_1 <| xg c_53_6.eq_1 <| rg o_53_7.eq_1 <| rg o_53_8.eq_1 <| rg o_53_9.eq_1 <| rg zzx.eq_1 <| xg zzy.eq_1 <| rg zzz.eq_1 <| rg zz0.eq_1 <| rg zz1.eq_1 <| xg zz2.eq_1 <| rg zz3.eq_1 <| rg zz4.eq_1 <| rg zz5.eq_1 <| xg zz6.eq_1 <| xg zz7.eq_1 <| xg zz8.eq_1 <| xg zz9.eq_1 <| rg z0a.eq_1 <| xg z0b.eq_1 <| xg z0c.eq_1 <| xg z0d.eq_1 <| xg z0e.eq_1 <| rg z0f.eq_1 <| rg z0g.eq_1 <| rg z0h.eq_1 <| xg z0i.eq_1 <| rg z0j.eq_1 <| xg z0k.eq_1 <| xg z0l.eq_1 <| xg z0m.eq_1 <| xg z0n.eq_1 <| xg z0o.eq_1 <| xg z0p.eq_1 <| xg z0q.eq_1 <| xg z0r.eq_1 <| @ex_of T _ _ z0s.eq_1
def zbt2 := @vd T F.zno z0u [0] zbop rfl rfl
theorem zbt3 : z0u.res = [.tmp 2, .tmp 3] ∧ z0u.rets = [[8], []] ∧ z0u.body = (.seq (.reg o_53_1) z0s) := ⟨rfl, rfl, rfl⟩
def zbt4 := rg o_54_1.eq_1 <| rg o_54_2.eq_1 <| rg o_54_3.eq_1 <| xg c_54_4.eq_1 <| rg o_54_5.eq_1 <| rg o_54_6.eq_1 <| xg c_54_7.eq_1 <| rg o_54_8.eq_1 <| rg o_54_9.eq_1 <| rg z0v.eq_1 <| xg z0w.eq_1 <| xg z0x.eq_1 <| rg z0y.eq_1 <| xg z0z.eq_1 <| xg z00.eq_1 <| xg z01.eq_1 <| xg z02.eq_1 <| rg z03.eq_1 <| xg z04.eq_1 <| xg z05.eq_1 <| @ex_of T _ _ z06.eq_1
def zbt5 := @vd T F.zm9 z08 [0, 0] zboq rfl rfl
theorem zbt6 : z08.res = [.tmp 4] ∧ z08.rets = [[]] ∧ z08.body = (.seq (.reg o_54_1) z06) := ⟨rfl, rfl, rfl⟩
def zbt7 := rg o_55_1.eq_1 <| rg o_55_2.eq_1 <| rg o_55_3.eq_1 <| xg c_55_4.eq_1 <| rg o_55_5.eq_1 <| rg o_55_6.eq_1 <| xg c_55_7.eq_1 <| xg c_55_8.eq_1 <| xg c_55_9.eq_1 <| rg z09.eq_1 <| xg z1a.eq_1 <| xg z1b.eq_1 <| @ex_of T _ _ z1c.eq_1
def zbt8 := @vd T F.zng z1e [0] zbor rfl rfl
theorem zbt9 : z1e.res = [.tmp 2] ∧ z1e.rets = [[2]] ∧ z1e.body = (.seq (.reg o_55_1) z1c) := ⟨rfl, rfl, rfl⟩
def zbua := rg o_56_1.eq_1 <| rg o_56_2.eq_1 <| rg o_56_3.eq_1 <| xg c_56_4.eq_1 <| rg o_56_5.eq_1 <| rg o_56_6.eq_1 <| rg o_56_7.eq_1 <| rg o_56_8.eq_1 <| rg o_56_9.eq_1 <| rg z1f.eq_1 <| rg z1g.eq_1 <| xg z1h.eq_1 <| xg z1i.eq_1 <| xg z1j.eq_1 <| rg z1k.eq_1 <| rg z1l.eq_1 <| And.intro (@df_of T _ _ [(5, 8)] z1l.eq_1) <| rg z1m.eq_1 <| xg z1n.eq_1 <| rg z1o.eq_1 <| xg z1p.eq_1 <| xg z1q.eq_1 <| xg z1r.eq_1 <| xg z1s.eq_1 <| xg z1t.eq_1 <| @ex_of T _ _ z1u.eq_1
def zbub := @vd T F.zle z1w [0] zbos rfl rfl
theorem zbuc : z1w.res = [.tmp 2, .tmp 3, .tmp 4] ∧ z1w.rets = [[2], [], []] ∧ z1w.body = (.seq (.reg o_56_1) z1u) := ⟨rfl, rfl, rfl⟩
def zbud := rg o_57_1.eq_1 <| rg o_57_2.eq_1 <| rg o_57_3.eq_1 <| rg o_57_4.eq_1 <| xg c_57_5.eq_1 <| rg o_57_6.eq_1 <| xg c_57_7.eq_1 <| xg c_57_8.eq_1 <| @ex_of T _ _ c_57_9.eq_1
def zbue := @vd T F.zla z1y [0] zbot rfl rfl
theorem zbuf : z1y.res = [.tmp 2, .tmp 3] ∧ z1y.rets = [[], []] ∧ z1y.body = (.seq (.reg o_57_1) c_57_9) := ⟨rfl, rfl, rfl⟩
def zbug := rg o_58_1.eq_1 <| rg o_58_2.eq_1 <| rg o_58_3.eq_1 <| rg o_58_4.eq_1 <| rg o_58_5.eq_1 <| xg c_58_6.eq_1 <| rg o_58_7.eq_1 <| rg o_58_8.eq_1 <| rg o_58_9.eq_1 <| rg z1z.eq_1 <| rg z10.eq_1 <| rg z11.eq_1 <| rg z12.eq_1 <| rg z13.eq_1 <| rg z14.eq_1 <| xg z15.eq_1 <| rg z16.eq_1 <| rg z17.eq_1 <| rg z18.eq_1 <| rg z19.eq_1 <| And.intro (@df_of T _ _ [(6, 2), (6, 3)] z19.eq_1) <| xg z2a.eq_1 <| xg z2b.eq_1 <| xg z2c.eq_1 <| xg z2d.eq_1 <| xg z2e.eq_1 <| xg z2f.eq_1 <| rg z2g.eq_1 <| xg z2h.eq_1 <| xg z2i.eq_1 <| xg z2j.eq_1 <| xg z2k.eq_1 <| xg z2l.eq_1 <| rg z2m.eq_1 <| rg z2n.eq_1 <| rg z2o.eq_1 <| xg z2p.eq_1 <| xg z2q.eq_1 <| rg z2r.eq_1 <| xg z2s.eq_1 <| xg z2t.eq_1 <| xg z2u.eq_1 <| xg z2v.eq_1 <| xg z2w.eq_1 <| xg z2x.eq_1 <| xg z2y.eq_1 <| xg z2z.eq_1 <| @ex_of T _ _ z20.eq_1
def zbuh := @vd T F.zlp z22 [0] zbou rfl rfl
theorem zbui : z22.res = [.tmp 2, .tmp 3] ∧ z22.rets = [[8], []] ∧ z22.body = (.seq (.reg o_58_1) z20) := ⟨rfl, rfl, rfl⟩
def zbuj := rg o_59_1.eq_1 <| rg o_59_2.eq_1 <| rg o_59_3.eq_1 <| xg c_59_4.eq_1 <| rg o_59_5.eq_1 <| rg o_59_6.eq_1 <| rg o_59_7.eq_1 <| xg c_59_8.eq_1 <| rg o_59_9.eq_1 <| rg z23.eq_1 <| rg z24.eq_1 <| xg z25.eq_1 <| rg z26.eq_1 <| And.intro (@df_of T _ _ [(8, 2), (8, 3)] z26.eq_1) <| xg z27.eq_1 <| xg z28.eq_1 <| xg z29.eq_1 <| xg z3a.eq_1 <| xg z3b.eq_1 <| xg z3c.eq_1 <| rg z3d.eq_1 <| xg z3e.eq_1 <| xg z3f.eq_1 <| @ex_of T _ _ z3g.eq_1
def zbuk := @vd T F.zlz z3i [0, 0] zbov rfl rfl
theorem zbul : z3i.res = [.tmp 4, .tmp 5] ∧ z3i.rets = [[8], []] ∧ z3i.body = (.seq (.reg o_59_1) z3g) := ⟨rfl, rfl, rfl⟩
def zbum := rg o_60_1.eq_1 <| rg o_60_2.eq_1 <| xg c_60_3.eq_1 <| rg o_60_4.eq_1 <| rg o_60_5.eq_1 <| xg c_60_6.eq_1 <| xg c_60_7.eq_1 <| xg c_60_8.eq_1 <| rg o_60_9.eq_1 <| xg z3j.eq_1 <| @ex_of T _ _ z3k.eq_1
def zbun := @vd T F.zjw z3m [2, 0] zbow rfl rfl
theorem zbuo : z3m.res = [.tmp 4] ∧ z3m.rets = [[2]] ∧ z3m.body = (.seq (.reg o_60_1) z3k) := ⟨rfl, rfl, rfl⟩
def zbup := rg o_61_1.eq_1 <| rg o_61_2.eq_1 <| rg o_61_3.eq_1 <| xg c_61_4.eq_1 <| rg o_61_5.eq_1 <| rg o_61_6.eq_1 <| xg c_61_7.eq_1 <| rg o_61_8.eq_1 <| xg c_61_9.eq_1 <| xg z3n.eq_1 <| xg z3o.eq_1 <| xg z3p.eq_1 <| rg z3q.eq_1 <| xg z3r.eq_1 <| @ex_of T _ _ z3s.eq_1
def zbuq := @vd T F.zmh z3u [0] zbox rfl rfl
theorem zbur : z3u.res = [.tmp 2] ∧ z3u.rets = [[]] ∧ z3u.body = (.seq (.reg o_61_1) z3s) := ⟨rfl, rfl, rfl⟩
def zbus := rg o_62_1.eq_1 <| rg o_62_2.eq_1 <| rg o_62_3.eq_1 <| rg o_62_4.eq_1 <| xg c_62_5.eq_1 <| rg o_62_6.eq_1 <| rg o_62_7.eq_1 <| xg c_62_8.eq_1 <| rg o_62_9.eq_1 <| xg z3v.eq_1 <| xg z3w.eq_1 <| xg z3x.eq_1 <| xg z3y.eq_1 <| rg z3z.eq_1 <| xg z30.eq_1 <| xg z31.eq_1 <| @ex_of T _ _ z32.eq_1
def zbut := @vd T F.zmr z34 [0] zboy rfl rfl
theorem zbuu : z34.res = [.tmp 2] ∧ z34.rets = [[]] ∧ z34.body = (.seq (.reg o_62_1) z32) := ⟨rfl, rfl, rfl⟩
def zbuv := rg o_63_1.eq_1 <| rg o_63_2.eq_1 <| And.intro (@dr_of T _ _ [(10, 13), (18, 21)] o_63_2.eq_1 (by decide)) <| @ex_of T _ _ c_63_3.eq_1
def zbuw := @vd T F.zkh z36 [0] zboz rfl rfl
theorem zbux : z36.res = [.tmp 2] ∧ z36.rets = [[]] ∧ z36.body = (.seq (.reg o_63_1) c_63_3) := ⟨rfl, rfl, rfl⟩
def zbuy := rg o_64_1.eq_1 <| rg o_64_2.eq_1 <| rg o_64_3.eq_1 <| xg c_64_4.eq_1 <| rg o_64_5.eq_1 <| rg o_64_6.eq_1 <| rg o_64_7.eq_1 <| rg o_64_8.eq_1 <| rg o_64_9.eq_1 <| rg z37.eq_1 <| And.intro (@df_of T _ _ [(5, 3), (8, 3), (9, 3)] z37.eq_1) <| rg z38.eq_1 <| rg z39.eq_1 <| rg z4a.eq_1 <| xg z4b.eq_1 <| xg z4c.eq_1 <| xg z4d.eq_1 <| xg z4e.eq_1 <| rg z4f.eq_1 <| xg z4g.eq_1 <| xg z4h.eq_1 <| xg z4i.eq_1 <| xg z4j.eq_1 <| xg z4k.eq_1 <| rg z4l.eq_1 <| xg z4m.eq_1 <| xg z4n.eq_1 <| xg z4o.eq_1 <| xg z4p.eq_1 <| @ex_of T _ _ z4q.eq_1
def zbuz := @vd T F.zkr z4s [0] zbo0 rfl rfl
theorem zbu0 : z4s.res = [.tmp 2, .tmp 3] ∧ z4s.rets = [[2], []] ∧ z4s.body = (.seq (.reg o_64_1) z4q) := ⟨rfl, rfl, rfl⟩
def zbu1 := rg o_65_1.eq_1 <| rg o_65_2.eq_1 <| rg o_65_3.eq_1 <| rg o_65_4.eq_1 <| rg o_65_5.eq_1 <| rg o_65_6.eq_1 <| xg c_65_7.eq_1 <| xg c_65_8.eq_1 <| rg o_65_9.eq_1 <| rg z4t.eq_1 <| rg z4u.eq_1 <| rg z4v.eq_1 <| rg z4w.eq_1 <| xg z4x.eq_1 <| rg z4y.eq_1 <| xg z4z.eq_1 <| xg z40.eq_1 <| xg z41.eq_1 <| xg z42.eq_1 <| xg z43.eq_1 <| rg z44.eq_1 <| xg z45.eq_1 <| xg z46.eq_1 <| xg z47.eq_1 <| xg z48.eq_1 <| @ex_of T _ _ z49.eq_1
def zbu2 := @vd T F.zkv z5b [0, 0] zbo1 rfl rfl
theorem zbu3 : z5b.res = [.tmp 4, .tmp 5] ∧ z5b.rets = [[2], []] ∧ z5b.body = (.seq (.reg o_65_1) z49) := ⟨rfl, rfl, rfl⟩
def zbu4 := rg o_66_1.eq_1 <| rg o_66_2.eq_1 <| @ex_of T _ _ c_66_3.eq_1
def zbu5 := @vd T F.zj7 z5d [0, 0] zbo2 rfl rfl
theorem zbu6 : z5d.res = [.tmp 4] ∧ z5d.rets = [[2]] ∧ z5d.body = (.seq (.reg o_66_1) c_66_3) := ⟨rfl, rfl, rfl⟩
def zbu7 := rg o_67_1.eq_1 <| rg o_67_2.eq_1 <| rg o_67_3.eq_1 <| rg o_67_4.eq_1 <| xg c_67_5.eq_1 <| rg o_67_6.eq_1 <| rg o_67_7.eq_1 <| rg o_67_8.eq_1 <| rg o_67_9.eq_1 <| xg z5e.eq_1 <| xg z5f.eq_1 <| xg z5g.eq_1 <| rg z5h.eq_1 <| xg z5i.eq_1 <| xg z5j.eq_1 <| xg z5k.eq_1 <| xg z5l.eq_1 <| rg z5m.eq_1 <| xg z5n.eq_1 <| xg z5o.eq_1 <| @ex_of T _ _ z5p.eq_1
def zbu8 := @vd T F.zmm z5r [0] zbo3 rfl rfl
theorem zbu9 : z5r.res = [.tmp 2] ∧ z5r.rets = [[]] ∧ z5r.body = (.seq (.reg o_67_1) z5p) := ⟨rfl, rfl, rfl⟩
def zbva := rg o_68_1.eq_1 <| rg o_68_2.eq_1 <| rg o_68_3.eq_1 <| rg o_68_4.eq_1 <| rg o_68_5.eq_1 <| xg c_68_6.eq_1 <| rg o_68_7.eq_1 <| rg o_68_8.eq_1 <| rg o_68_9.eq_1 <| xg z5s.eq_1 <| rg z5t.eq_1 <| rg z5u.eq_1 <| rg z5v.eq_1 <| rg z5w.eq_1 <| rg z5x.eq_1 <| xg z5y.eq_1 <| rg z5z.eq_1 <| xg z50.eq_1 <| xg z51.eq_1 <| xg z52.eq_1 <| xg z53.eq_1 <| xg z54.eq_1 <| xg z55.eq_1 <| rg z56.eq_1 <| xg z57.eq_1 <| xg z58.eq_1 <| xg z59.eq_1 <| xg z6a.eq_1 <| rg z6b.eq_1 <| xg z6c.eq_1 <| xg z6d.eq_1 <| xg z6e.eq_1 <| @ex_of T _ _ z6f.eq_1
def zbvb := @vd T F.zmj z6h [0] zbo4 rfl rfl
theorem zbvc : z6h.res = [.tmp 2, .tmp 3] ∧ z6h.rets = [[], []] ∧ z6h.body = (.seq (.reg o_68_1) z6f) := ⟨rfl, rfl, rfl⟩
def zbvd := rg o_69_1.eq_1 <| rg o_69_2.eq_1 <| rg o_69_3.eq_1 <| rg o_69_4.eq_1 <| xg c_69_5.eq_1 <| rg o_69_6.eq_1 <| rg o_69_7.eq_1 <| rg o_69_8.eq_1 <| xg c_69_9.eq_1 <| rg z6i.eq_1 <| rg z6j.eq_1 <| xg z6k.eq_1 <| rg z6l.eq_1 <| rg z6m.eq_1 <| rg z6n.eq_1 <| rg z6o.eq_1 <| xg z6p.eq_1 <| rg z6q.eq_1 <| rg z6r.eq_1 <| rg z6s.eq_1 <| xg z6t.eq_1 <| rg z6u.eq_1 <| rg z6v.eq_1 <| rg z6w.eq_1 <| rg z6x.eq_1 <| rg z6y.eq_1 <| And.intro (@df_of T _ _ [(0, 9), (4, 9)] z6y.eq_1) <| rg z6z.eq_1 <| rg z60.eq_1 <| xg z61.eq_1 <| rg z62.eq_1 <| rg z63.eq_1 <| rg z64.eq_1 <| xg z65.eq_1 <| xg z66.eq_1 <| xg z67.eq_1 <| xg z68.eq_1 <| xg z69.eq_1 <| rg z7a.eq_1 <| rg z7b.eq_1 <| xg z7c.eq_1 <| rg z7d.eq_1 <| rg z7e.eq_1 <| rg z7f.eq_1 <| xg z7g.eq_1 <| rg z7h.eq_1 <| xg z7i.eq_1 <| xg z7j.eq_1 <| xg z7k.eq_1 <| xg z7l.eq_1 <| xg z7m.eq_1 <| xg z7n.eq_1 <| xg z7o.eq_1 <| xg z7p.eq_1 <| xg z7q.eq_1 <| xg z7r.eq_1 <| xg z7s.eq_1 <| rg z7t.eq_1 <| rg z7u.eq_1 <| xg z7v.eq_1 <| rg z7w.eq_1 <| rg z7x.eq_1 <| rg z7y.eq_1 <| xg z7z.eq_1 <| rg z70.eq_1 <| xg z71.eq_1 <| xg z72.eq_1 <| xg z73.eq_1 <| xg z74.eq_1 <| xg z75.eq_1 <| xg z76.eq_1 <| xg z77.eq_1 <| xg z78.eq_1 <| xg z79.eq_1 <| xg z8a.eq_1 <| xg z8b.eq_1 <| xg z8c.eq_1 <| @ex_of T _ _ z8d.eq_1
def zbve := @vd T F.zm5 z8f [0] zbo5 rfl rfl
theorem zbvf : z8f.res = [.cell 2 7 true, .tmp 3] ∧ z8f.rets = [[], []] ∧ z8f.body = (.seq (.reg o_69_1) z8d) := ⟨rfl, rfl, rfl⟩
def zbvg := rg o_70_1.eq_1 <| rg o_70_2.eq_1 <| rg o_70_3.eq_1 <| rg o_70_4.eq_1 <| rg o_70_5.eq_1 <| rg o_70_6.eq_1 <| rg o_70_7.eq_1 <| rg o_70_8.eq_1 <| xg c_70_9.eq_1 <| rg z8g.eq_1 <| rg z8h.eq_1 <| rg z8i.eq_1 <| rg z8j.eq_1 <| rg z8k.eq_1 <| xg z8l.eq_1 <| xg z8m.eq_1 <| xg z8n.eq_1 <| xg z8o.eq_1 <| xg z8p.eq_1 <| xg z8q.eq_1 <| xg z8r.eq_1 <| xg z8s.eq_1 <| xg z8t.eq_1 <| xg z8u.eq_1 <| @ex_of T _ _ z8v.eq_1
def zbvh := @vd T F.znc z8x [0, 0] zbo6 rfl rfl
theorem zbvi : z8x.res = [.cell 4 7 true, .tmp 5] ∧ z8x.rets = [[], []] ∧ z8x.body = (.seq (.reg o_70_1) z8v) := ⟨rfl, rfl, rfl⟩
def zbvj := rg o_71_1.eq_1 <| rg o_71_2.eq_1 <| rg o_71_3.eq_1 <| rg o_71_4.eq_1 <| xg c_71_5.eq_1 <| rg o_71_6.eq_1 <| rg o_71_7.eq_1 <| rg o_71_8.eq_1 <| rg o_71_9.eq_1 <| xg z8y.eq_1 <| rg z8z.eq_1 <| rg z80.eq_1 <| And.intro (@df_of T _ _ [(3, 14), (5, 14)] z80.eq_1) <| rg z81.eq_1 <| rg z82.eq_1 <| xg z83.eq_1 <| xg z84.eq_1 <| xg z85.eq_1 <| rg z86.eq_1 <| xg z87.eq_1 <| xg z88.eq_1 <| xg z89.eq_1 <| xg z9a.eq_1 <| rg z9b.eq_1 <| xg z9c.eq_1 <| xg z9d.eq_1 <| xg z9e.eq_1 <| xg z9f.eq_1 <| xg z9g.eq_1 <| @ex_of T _ _ z9h.eq_1
def zbvk := @vd T F.znm z9j [0] zbo7 rfl rfl
theorem zbvl : z9j.res = [.tmp 2, .tmp 3] ∧ z9j.rets = [[2], []] ∧ z9j.body = (.seq (.reg o_71_1) z9h) := ⟨rfl, rfl, rfl⟩
def zbvm := rg o_72_1.eq_1 <| rg o_72_2.eq_1 <| rg o_72_3.eq_1 <| xg c_72_4.eq_1 <| @ex_of T _ _ c_72_5.eq_1
def zbvn := @vd T F.zm3 z9l [0] zbo8 rfl rfl
theorem zbvo : z9l.res = [.tmp 2] ∧ z9l.rets = [[]] ∧ z9l.body = (.seq (.reg o_72_1) c_72_5) := ⟨rfl, rfl, rfl⟩
def zbvp := rg o_73_1.eq_1 <| rg o_73_2.eq_1 <| @ex_of T _ _ c_73_3.eq_1
def zbvq := @vd T F.zk7 z9n [0] zbo9 rfl rfl
theorem zbvr : z9n.res = [.tmp 2] ∧ z9n.rets = [[]] ∧ z9n.body = (.seq (.reg o_73_1) c_73_3) := ⟨rfl, rfl, rfl⟩
def zbvs := rg o_74_1.eq_1 <| rg o_74_2.eq_1 <| rg o_74_3.eq_1 <| xg c_74_4.eq_1 <| rg o_74_5.eq_1 <| rg o_74_6.eq_1 <| rg o_74_7.eq_1 <| rg o_74_8.eq_1 <| rg o_74_9.eq_1 <| xg z9o.eq_1 <| xg z9p.eq_1 <| rg z9q.eq_1 <| xg z9r.eq_1 <| xg z9s.eq_1 <| xg z9t.eq_1 <| xg z9u.eq_1 <| xg z9v.eq_1 <| rg z9w.eq_1 <| xg z9x.eq_1 <| xg z9y.eq_1 <| @ex_of T _ _ z9z.eq_1
def zbvt := @vd T F.zlc z91 [0, 0] zbpa rfl rfl
theorem zbvu : z91.res = [.tmp 4] ∧ z91.rets = [[]] ∧ z91.body = (.seq (.reg o_74_1) z9z) := ⟨rfl, rfl, rfl⟩
def zbvv := rg o_75_1.eq_1 <| rg o_75_2.eq_1 <| rg o_75_3.eq_1 <| xg c_75_4.eq_1 <| rg o_75_5.eq_1 <| xg c_75_6.eq_1 <| @ex_of T _ _ c_75_7.eq_1
def zbvw := @vd T F.zld z93 [0] zbpb rfl rfl
theorem zbvx : z93.res = [.tmp 2] ∧ z93.rets = [[2]] ∧ z93.body = (.seq (.reg o_75_1) c_75_7) := ⟨rfl, rfl, rfl⟩
def zbvy := rg o_76_1.eq_1 <| rg o_76_2.eq_1 <| rg o_76_3.eq_1 <| rg o_76_4.eq_1 <| rg o_76_5.eq_1 <| rg o_76_6.eq_1 <| rg o_76_7.eq_1 <| rg o_76_8.eq_1 <| xg c_76_9.eq_1 <| rg z94.eq_1 <| xg z95.eq_1 <| rg z96.eq_1 <| xg z97.eq_1 <| xg z98.eq_1 <| xg z99.eq_1 <| rg zbaa.eq_1 <| xg zbab.eq_1 <| rg zbac.eq_1 <| xg zbad.eq_1 <| xg zbae.eq_1 <| xg zbaf.eq_1 <| xg zbag.eq_1 <| rg zbah.eq_1 <| xg zbai.eq_1 <| xg zbaj.eq_1 <| xg zbak.eq_1 <| xg zbal.eq_1 <| xg zbam.eq_1 <| rg zban.eq_1 <| xg zbao.eq_1 <| xg zbap.eq_1 <| @ex_of T _ _ zbaq.eq_1
def zbvz := @vd T F.zk9 zbas [0] zbpc rfl rfl
theorem zbv0 : zbas.res = [.tmp 2, .tmp 3] ∧ zbas.rets = [[], []] ∧ zbas.body = (.seq (.reg o_76_1) zbaq) := ⟨rfl, rfl, rfl⟩
def zbv1 := rg o_77_1.eq_1 <| rg o_77_2.eq_1 <| rg o_77_3.eq_1 <| rg o_77_4.eq_1 <| rg o_77_5.eq_1 <| rg o_77_6.eq_1 <| rg o_77_7.eq_1 <| rg o_77_8.eq_1 <| rg o_77_9.eq_1 <| rg zbat.eq_1 <| rg zbau.eq_1 <| rg zbav.eq_1 <| rg zbaw.eq_1 <| rg zbax.eq_1 <| xg zbay.eq_1 <| rg zbaz.eq_1 <| xg zba0.eq_1 <| xg zba1.eq_1 <| rg zba2.eq_1 <| xg zba3.eq_1 <| xg zba4.eq_1 <| xg zba5.eq_1 <| xg zba6.eq_1 <| xg zba7.eq_1 <| rg zba8.eq_1 <| xg zba9.eq_1 <| xg zbba.eq_1 <| xg zbbb.eq_1 <| xg zbbc.eq_1 <| xg zbbd.eq_1 <| xg zbbe.eq_1 <| xg zbbf.eq_1 <| xg zbbg.eq_1 <| xg zbbh.eq_1 <| @ex_of T _ _ zbbi.eq_1
def zbv2 := @vd T F.zlm zbbk [0] zbpd rfl rfl
theorem zbv3 : zbbk.res = [.cell 2 7 true, .tmp 3] ∧ zbbk.rets = [[], []] ∧ zbbk.body = (.seq (.reg o_77_1) zbbi) := ⟨rfl, rfl, rfl⟩
def zbv4 := rg o_78_1.eq_1 <| rg o_78_2.eq_1 <| rg o_78_3.eq_1 <| xg c_78_4.eq_1 <| rg o_78_5.eq_1 <| rg o_78_6.eq_1 <| rg o_78_7.eq_1 <| rg o_78_8.eq_1 <| rg o_78_9.eq_1 <| xg zbbl.eq_1 <| xg zbbm.eq_1 <| rg zbbn.eq_1 <| rg zbbo.eq_1 <| rg zbbp.eq_1 <| xg zbbq.eq_1 <| rg zbbr.eq_1 <| xg zbbs.eq_1 <| xg zbbt.eq_1 <| xg zbbu.eq_1 <| xg zbbv.eq_1 <| xg zbbw.eq_1 <| @ex_of T _ _ zbbx.eq_1
def zbv5 := @vd T F.zlx zbbz [0] zbpe rfl rfl
theorem zbv6 : zbbz.res = [.cell 2 7 true, .tmp 3] ∧ zbbz.rets = [[], []] ∧ zbbz.body = (.seq (.reg o_78_1) zbbx) := ⟨rfl, rfl, rfl⟩
def zbv7 := rg o_79_1.eq_1 <| rg o_79_2.eq_1 <| @ex_of T _ _ c_79_3.eq_1
def zbv8 := @vd T F.zkg zbb1 [0] zbpf rfl rfl
theorem zbv9 : zbb1.res = [.tmp 2] ∧ zbb1.rets = [[]] ∧ zbb1.body = (.seq (.reg o_79_1) c_79_3) := ⟨rfl, rfl, rfl⟩
def zbwa := rg o_80_1.eq_1 <| rg o_80_2.eq_1 <| rg o_80_3.eq_1 <| rg o_80_4.eq_1 <| rg o_80_5.eq_1 <| rg o_80_6.eq_1 <| xg c_80_7.eq_1 <| xg c_80_8.eq_1 <| rg o_80_9.eq_1 <| xg zbb2.eq_1 <| xg zbb3.eq_1 <| xg zbb4.eq_1 <| xg zbb5.eq_1 <| xg zbb6.eq_1 <| rg zbb7.eq_1 <| xg zbb8.eq_1 <| @ex_of T _ _ zbb9.eq_1
def zbwb := @vd T F.zkm zbcb [0] zbpg rfl rfl
theorem zbwc : zbcb.res = [.tmp 2] ∧ zbcb.rets = [[]] ∧ zbcb.body = (.seq (.reg o_80_1) zbb9) := ⟨rfl, rfl, rfl⟩
def zbwd := rg o_81_1.eq_1 <| rg o_81_2.eq_1 <| @ex_of T _ _ c_81_3.eq_1
def zbwe := @vd T F.zko zbcd [2, 0] zbph rfl rfl
theorem zbwf : zbcd.res = [.tmp 4] ∧ zbcd.rets = [[2]] ∧ zbcd.body = (.seq (.reg o_81_1) c_81_3) := ⟨rfl, rfl, rfl⟩
def zbwg := rg o_82_1.eq_1 <| rg o_82_2.eq_1 <| rg o_82_3.eq_1 <| xg c_82_4.eq_1 <| rg o_82_5.eq_1 <| And.intro (@df_of T _ _ [(5, 3), (8, 3), (8, 6)] o_82_5.eq_1) <| xg c_82_6.eq_1 <| @ex_of T _ _ c_82_7.eq_1
def zbwh := @vd T F.zkp zbcf [2, 0] zbpi rfl rfl
theorem zbwi : zbcf.res = [.tmp 4, .tmp 5] ∧ zbcf.rets = [[2], []] ∧ zbcf.body = (.seq (.reg o_82_1) c_82_7) := ⟨rfl, rfl, rfl⟩
def zbwj := rg o_83_1.eq_1 <| rg o_83_2.eq_1 <| rg o_83_3.eq_1 <| rg o_83_4.eq_1 <| xg c_83_5.eq_1 <| rg o_83_6.eq_1 <| xg c_83_7.eq_1 <| xg c_83_8.eq_1 <| @ex_of T _ _ c_83_9.eq_1
def zbwk := @vd T F.zks zbch [0] zbpj rfl rfl
theorem zbwl : zbch.res = [.tmp 2] ∧ zbch.rets = [[2]] ∧ zbch.body = (.seq (.reg o_83_1) c_83_9) := ⟨rfl, rfl, rfl⟩
def zbwm := rg o_84_1.eq_1 <| rg o_84_2.eq_1 <| rg o_84_3.eq_1 <| rg o_84_4.eq_1 <| rg o_84_5.eq_1 <| rg o_84_6.eq_1 <| rg o_84_7.eq_1 <| rg o_84_8.eq_1 <| rg o_84_9.eq_1 <| rg zbci.eq_1 <| rg zbcj.eq_1 <| rg zbck.eq_1 <| xg zbcl.eq_1 <| xg zbcm.eq_1 <| xg zbcn.eq_1 <| xg zbco.eq_1 <| xg zbcp.eq_1 <| xg zbcq.eq_1 <| rg zbcr.eq_1 <| xg zbcs.eq_1 <| xg zbct.eq_1 <| @ex_of T _ _ zbcu.eq_1
def zbwn := @vd T F.zkt zbcw [2, 0, 0] zbpk rfl rfl
theorem zbwo : zbcw.res = [.tmp 6] ∧ zbcw.rets = [[2]] ∧ zbcw.body = (.seq (.reg o_84_1) zbcu) := ⟨rfl, rfl, rfl⟩
def zbwp := rg o_85_1.eq_1 <| rg o_85_2.eq_1 <| @ex_of T _ _ c_85_3.eq_1
def zbwq := @vd T F.zj6 zbcy [0] zbpl rfl rfl
theorem zbwr : zbcy.res = [.tmp 2] ∧ zbcy.rets = [[2]] ∧ zbcy.body = (.seq (.reg o_85_1) c_85_3) := ⟨rfl, rfl, rfl⟩
def zbws := rg o_86_1.eq_1 <| rg o_86_2.eq_1 <| rg o_86_3.eq_1 <| rg o_86_4.eq_1 <| rg o_86_5.eq_1 <| rg o_86_6.eq_1 <| rg o_86_7.eq_1 <| xg c_86_8.eq_1 <| rg o_86_9.eq_1 <| xg zbcz.eq_1 <| xg zbc0.eq_1 <| xg zbc1.eq_1 <| xg zbc2.eq_1 <| xg zbc3.eq_1 <| rg zbc4.eq_1 <| xg zbc5.eq_1 <| xg zbc6.eq_1 <| xg zbc7.eq_1 <| @ex_of T _ _ zbc8.eq_1
def zbwt := @vd T F.zj2 zbda [0, 0] zbpm rfl rfl
theorem zbwu : zbda.res = [.tmp 4] ∧ zbda.rets = [[]] ∧ zbda.body = (.seq (.reg o_86_1) zbc8) := ⟨rfl, rfl, rfl⟩
def zbwv := rg o_87_1.eq_1 <| rg o_87_2.eq_1 <| @ex_of T _ _ c_87_3.eq_1
def zbww := @vd T F.zj3 zbdc [0] zbpn rfl rfl
theorem zbwx : zbdc.res = [.tmp 2] ∧ zbdc.rets = [[]] ∧ zbdc.body = (.seq (.reg o_87_1) c_87_3) := ⟨rfl, rfl, rfl⟩
def zbwy := rg o_88_1.eq_1 <| rg o_88_2.eq_1 <| @ex_of T _ _ c_88_3.eq_1
def zbwz := @vd T F.zmw zbde [0, 0] zbpo rfl rfl
theorem zbw0 : zbde.res = [.tmp 4] ∧ zbde.rets = [[]] ∧ zbde.body = (.seq (.reg o_88_1) c_88_3) := ⟨rfl, rfl, rfl⟩
def zbw1 := rg o_89_1.eq_1 <| rg o_89_2.eq_1 <| rg o_89_3.eq_1 <| rg o_89_4.eq_1 <| rg o_89_5.eq_1 <| rg o_89_6.eq_1 <| rg o_89_7.eq_1 <| rg o_89_8.eq_1 <| rg o_89_9.eq_1 <| rg zbdf.eq_1 <| rg zbdg.eq_1 <| rg zbdh.eq_1 <| rg zbdi.eq_1 <| xg zbdj.eq_1 <| xg zbdk.eq_1 <| rg zbdl.eq_1 <| rg zbdm.eq_1 <| rg zbdn.eq_1 <| rg zbdo.eq_1 <| xg zbdp.eq_1 <| xg zbdq.eq_1 <| xg zbdr.eq_1 <| xg zbds.eq_1 <| xg zbdt.eq_1 <| xg zbdu.eq_1 <| xg zbdv.eq_1 <| xg zbdw.eq_1 <| rg zbdx.eq_1 <| xg zbdy.eq_1 <| xg zbdz.eq_1 <| @ex_of T _ _ zbd0.eq_1
def zbw2 := @vd T F.zm2 zbd2 [0, 0, 0] zbpp rfl rfl
theorem zbw3 : zbd2.res = [.cell 6 7 true, .tmp 7] ∧ zbd2.rets = [[], []] ∧ zbd2.body = (.seq (.reg o_89_1) zbd0) := ⟨rfl, rfl, rfl⟩
def zbw4 := rg o_90_1.eq_1 <| rg o_90_2.eq_1 <| rg o_90_3.eq_1 <| rg o_90_4.eq_1 <| xg c_90_5.eq_1 <| rg o_90_6.eq_1 <| xg c_90_7.eq_1 <| xg c_90_8.eq_1 <| @ex_of T _ _ c_90_9.eq_1
def zbw5 := @vd T F.zmy zbd4 [0] zbpq rfl rfl
theorem zbw6 : zbd4.res = [.tmp 2, .tmp 3] ∧ zbd4.rets = [[], []] ∧ zbd4.body = (.seq (.reg o_90_1) c_90_9) := ⟨rfl, rfl, rfl⟩
def zbw7 := rg o_91_1.eq_1 <| rg o_91_2.eq_1 <| rg o_91_3.eq_1 <| rg o_91_4.eq_1 <| rg o_91_5.eq_1 <| rg o_91_6.eq_1 <| rg o_91_7.eq_1 <| rg o_91_8.eq_1 <| xg c_91_9.eq_1 <| rg zbd5.eq_1 <| xg zbd6.eq_1 <| xg zbd7.eq_1 <| xg zbd8.eq_1 <| xg zbd9.eq_1 <| xg zbea.eq_1 <| xg zbeb.eq_1 <| @ex_of T _ _ zbec.eq_1
def zbw8 := @vd T F.zm1 zbee [0] zbpr rfl rfl
theorem zbw9 : zbee.res = [.cell 2 3 true, .tmp 3] ∧ zbee.rets = [[], []] ∧ zbee.body = (.seq (.reg o_91_1) zbec) := ⟨rfl, rfl, rfl⟩
def zbxa := rg o_92_1.eq_1 <| rg o_92_2.eq_1 <| rg o_92_3.eq_1 <| xg c_92_4.eq_1 <| rg o_92_5.eq_1 <| rg o_92_6.eq_1 <| xg c_92_7.eq_1 <| rg o_92_8.eq_1 <| xg c_92_9.eq_1 <| xg zbef.eq_1 <| xg zbeg.eq_1 <| xg zbeh.eq_1 <| rg zbei.eq_1 <| xg zbej.eq_1 <| @ex_of T _ _ zbek.eq_1
def zbxb := @vd T F.znb zbem [0, 0] zbps rfl rfl
theorem zbxc : zbem.res = [.tmp 4] ∧ zbem.rets = [[]] ∧ zbem.body = (.seq (.reg o_92_1) zbek) := ⟨rfl, rfl, rfl⟩
def zbxd := rg o_93_1.eq_1 <| rg o_93_2.eq_1 <| rg o_93_3.eq_1 <| xg c_93_4.eq_1 <| rg o_93_5.eq_1 <| rg o_93_6.eq_1 <| xg c_93_7.eq_1 <| rg o_93_8.eq_1 <| rg o_93_9.eq_1 <| rg zben.eq_1 <| xg zbeo.eq_1 <| xg zbep.eq_1 <| rg zbeq.eq_1 <| xg zber.eq_1 <| xg zbes.eq_1 <| xg zbet.eq_1 <| xg zbeu.eq_1 <| rg zbev.eq_1 <| xg zbew.eq_1 <| xg zbex.eq_1 <| @ex_of T _ _ zbey.eq_1
def zbxe := @vd T F.zne zbe0 [0] zbpt rfl rfl
theorem zbxf : zbe0.res = [.tmp 2] ∧ zbe0.rets = [[]] ∧ zbe0.body = (.seq (.reg o_93_1) zbey) := ⟨rfl, rfl, rfl⟩
def zbxg := rg o_94_1.eq_1 <| rg o_94_2.eq_1 <| rg o_94_3.eq_1 <| xg c_94_4.eq_1 <| @ex_of T _ _ c_94_5.eq_1
def zbxh := @vd T F.znj zbe2 [0, 0] zbpu rfl rfl
theorem zbxi : zbe2.res = [.tmp 4] ∧ zbe2.rets = [[2]] ∧ zbe2.body = (.seq (.reg o_94_1) c_94_5) := ⟨rfl, rfl, rfl⟩
def zbxj := rg o_95_1.eq_1 <| rg o_95_2.eq_1 <| rg o_95_3.eq_1 <| rg o_95_4.eq_1 <| rg o_95_5.eq_1 <| xg c_95_6.eq_1 <| rg o_95_7.eq_1 <| rg o_95_8.eq_1 <| rg o_95_9.eq_1 <| xg zbe3.eq_1 <| xg zbe4.eq_1 <| xg zbe5.eq_1 <| xg zbe6.eq_1 <| xg zbe7.eq_1 <| @ex_of T _ _ zbe8.eq_1
def zbxk := @vd T F.znk zbfa [0, 0] zbpv rfl rfl
theorem zbxl : zbfa.res = [.tmp 4, .tmp 5] ∧ zbfa.rets = [[2], []] ∧ zbfa.body = (.seq (.reg o_95_1) zbe8) := ⟨rfl, rfl, rfl⟩
def zbxm := rg o_96_1.eq_1 <| rg o_96_2.eq_1 <| And.intro (@dr_of T _ _ [(10, 13), (18, 21)] o_96_2.eq_1 (by decide)) <| @ex_of T _ _ c_96_3.eq_1
def zbxn := @vd T F.zm0 zbfc [0] zbpw rfl rfl
theorem zbxo : zbfc.res = [.tmp 2] ∧ zbfc.rets = [[]] ∧ zbfc.body = (.seq (.reg o_96_1) c_96_3) := ⟨rfl, rfl, rfl⟩
def zbxp := rg o_97_1.eq_1 <| rg o_97_2.eq_1 <| @ex_of T _ _ c_97_3.eq_1
def zbxq := @vi T F.zoa zbfe zbpx rfl
theorem zbxr {n : Nat} {H : Hp} {vs : List V} : (orc T (n + 1)).inl F.zoa vs H = finI H.length false [.tmp 4] (unw T (orc T n) n H.length [] (exec T (orc T n) n H.length (.seq (.reg o_97_1) c_97_3) (params 0 vs) H)) := by rw [zh4, zbpx, y4, zh2]; rfl
def zbxs := rg o_98_1.eq_1 <| rg o_98_2.eq_1 <| @ex_of T _ _ c_98_3.eq_1
def zbxt := @vd T F.zk4 zbfg [0] zbpy rfl rfl
theorem zbxu : zbfg.res = [.tmp 2] ∧ zbfg.rets = [[]] ∧ zbfg.body = (.seq (.reg o_98_1) c_98_3) := ⟨rfl, rfl, rfl⟩
def zbxv := rg o_99_1.eq_1 <| rg o_99_2.eq_1 <| rg o_99_3.eq_1 <| rg o_99_4.eq_1 <| xg c_99_5.eq_1 <| rg o_99_6.eq_1 <| xg c_99_7.eq_1 <| xg c_99_8.eq_1 <| @ex_of T _ _ c_99_9.eq_1
def zbxw := @vd T F.zlj zbfi [0] zbpz rfl rfl
theorem zbxx : zbfi.res = [.tmp 2, .tmp 3] ∧ zbfi.rets = [[], []] ∧ zbfi.body = (.seq (.reg o_99_1) c_99_9) := ⟨rfl, rfl, rfl⟩
def zbxy := rg zbfj.eq_1 <| rg zbfk.eq_1 <| rg zbfl.eq_1 <| rg zbfm.eq_1 <| rg zbfn.eq_1 <| rg zbfo.eq_1 <| rg zbfp.eq_1 <| rg zbfq.eq_1 <| xg zbfr.eq_1 <| rg zbfs.eq_1 <| And.intro (@df_of T _ _ [(0, 4), (2, 4), (2, 6)] zbfs.eq_1) <| xg zbft.eq_1 <| xg zbfu.eq_1 <| xg zbfv.eq_1 <| xg zbfw.eq_1 <| xg zbfx.eq_1 <| xg zbfy.eq_1 <| @ex_of T _ _ zbfz.eq_1
def zbxz := @vd T F.zlk zbf1 [0] zbp0 rfl rfl
theorem zbx0 : zbf1.res = [.cell 2 3 true, .tmp 3] ∧ zbf1.rets = [[], []] ∧ zbf1.body = (.seq (.reg zbfj) zbfz) := ⟨rfl, rfl, rfl⟩
def zbx1 := rg zbf2.eq_1 <| rg zbf3.eq_1 <| rg zbf4.eq_1 <| rg zbf5.eq_1 <| xg zbf6.eq_1 <| rg zbf7.eq_1 <| rg zbf8.eq_1 <| rg zbf9.eq_1 <| xg zbga.eq_1 <| rg zbgb.eq_1 <| rg zbgc.eq_1 <| rg zbgd.eq_1 <| rg zbge.eq_1 <| rg zbgf.eq_1 <| rg zbgg.eq_1 <| xg zbgh.eq_1 <| rg zbgi.eq_1 <| rg zbgj.eq_1 <| rg zbgk.eq_1 <| xg zbgl.eq_1 <| xg zbgm.eq_1 <| xg zbgn.eq_1 <| rg zbgo.eq_1 <| rg zbgp.eq_1 <| xg zbgq.eq_1 <| rg zbgr.eq_1 <| xg zbgs.eq_1 <| xg zbgt.eq_1 <| xg zbgu.eq_1 <| xg zbgv.eq_1 <| xg zbgw.eq_1 <| xg zbgx.eq_1 <| xg zbgy.eq_1 <| xg zbgz.eq_1 <| xg zbg0.eq_1 <| rg zbg1.eq_1 <| rg zbg2.eq_1 <| rg zbg3.eq_1 <| rg zbg4.eq_1 <| xg zbg5.eq_1 <| xg zbg6.eq_1 <| rg zbg7.eq_1 <| xg zbg8.eq_1 <| xg zbg9.eq_1 <| xg zbha.eq_1 <| @ex_of T _ _ zbhb.eq_1
def zbx2 := @vd T F.zlw zbhd [0, 0] zbp1 rfl rfl
theorem zbx3 : zbhd.res = [.cell 4 7 true, .tmp 5] ∧ zbhd.rets = [[], []] ∧ zbhd.body = (.seq (.reg zbf2) zbhb) := ⟨rfl, rfl, rfl⟩
def zbx4 := rg zbhe.eq_1 <| rg zbhf.eq_1 <| @ex_of T _ _ zbhg.eq_1
def zbx5 := @vd T F.zkn zbhi [0] zbp2 rfl rfl
theorem zbx6 : zbhi.res = [.tmp 2] ∧ zbhi.rets = [[]] ∧ zbhi.body = (.seq (.reg zbhe) zbhg) := ⟨rfl, rfl, rfl⟩
def zbx7 := rg zbhj.eq_1 <| rg zbhk.eq_1 <| rg zbhl.eq_1 <| rg zbhm.eq_1 <| rg zbhn.eq_1 <| rg zbho.eq_1 <| xg zbhp.eq_1 <| rg zbhq.eq_1 <| xg zbhr.eq_1 <| xg zbhs.eq_1 <| xg zbht.eq_1 <| xg zbhu.eq_1 <| xg zbhv.eq_1 <| rg zbhw.eq_1 <| xg zbhx.eq_1 <| xg zbhy.eq_1 <| @ex_of T _ _ zbhz.eq_1
def zbx8 := @vd T F.zj5 zbh1 [0, 0] zbp3 rfl rfl
theorem zbx9 : zbh1.res = [.tmp 4] ∧ zbh1.rets = [[2]] ∧ zbh1.body = (.seq (.reg zbhj) zbhz) := ⟨rfl, rfl, rfl⟩
def zbya := rg zbh2.eq_1 <| rg zbh3.eq_1 <| rg zbh4.eq_1 <| rg zbh5.eq_1 <| rg zbh6.eq_1 <| rg zbh7.eq_1 <| rg zbh8.eq_1 <| rg zbh9.eq_1 <| rg zbia.eq_1 <| rg zbib.eq_1 <| xg zbic.eq_1 <| rg zbid.eq_1 <| xg zbie.eq_1 <| xg zbif.eq_1 <| xg zbig.eq_1 <| xg zbih.eq_1 <| xg zbii.eq_1 <| rg zbij.eq_1 <| xg zbik.eq_1 <| xg zbil.eq_1 <| xg zbim.eq_1 <| rg zbin.eq_1 <| xg zbio.eq_1 <| xg zbip.eq_1 <| xg zbiq.eq_1 <| xg zbir.eq_1 <| xg zbis.eq_1 <| rg zbit.eq_1 <| xg zbiu.eq_1 <| xg zbiv.eq_1 <| @ex_of T _ _ zbiw.eq_1
def zbyb := @vd T F.zj0 zbiy [] zbp4 rfl rfl
theorem zbyc : zbiy.res = [.cell 0 256 true] ∧ zbiy.rets = [[]] ∧ zbiy.body = (.seq (.reg zbh2) zbiw) := ⟨rfl, rfl, rfl⟩
def zbyd := rg zbiz.eq_1 <| rg zbi0.eq_1 <| rg zbi1.eq_1 <| xg zbi2.eq_1 <| rg zbi3.eq_1 <| xg zbi4.eq_1 <| @ex_of T _ _ zbi5.eq_1
def zbye := @vd T F.zmx zbi7 [0] zbp5 rfl rfl
theorem zbyf : zbi7.res = [.tmp 2] ∧ zbi7.rets = [[]] ∧ zbi7.body = (.seq (.reg zbiz) zbi5) := ⟨rfl, rfl, rfl⟩
def zbyg := rg zbi8.eq_1 <| rg zbi9.eq_1 <| rg zbja.eq_1 <| xg zbjb.eq_1 <| rg zbjc.eq_1 <| xg zbjd.eq_1 <| @ex_of T _ _ zbje.eq_1
def zbyh := @vd T F.zni zbjg [0] zbp6 rfl rfl
theorem zbyi : zbjg.res = [.tmp 2] ∧ zbjg.rets = [[]] ∧ zbjg.body = (.seq (.reg zbi8) zbje) := ⟨rfl, rfl, rfl⟩
def zbyj := rg zbjh.eq_1 <| rg zbji.eq_1 <| rg zbjj.eq_1 <| xg zbjk.eq_1 <| rg zbjl.eq_1 <| rg zbjm.eq_1 <| xg zbjn.eq_1 <| rg zbjo.eq_1 <| xg zbjp.eq_1 <| xg zbjq.eq_1 <| @ex_of T _ _ zbjr.eq_1
def zbyk := @vd T F.zmz zbjt [0] zbp7 rfl rfl
theorem zbyl : zbjt.res = [.tmp 2] ∧ zbjt.rets = [[]] ∧ zbjt.body = (.seq (.reg zbjh) zbjr) := ⟨rfl, rfl, rfl⟩
def zbym := rg zbju.eq_1 <| rg zbjv.eq_1 <| rg zbjw.eq_1 <| rg zbjx.eq_1 <| rg zbjy.eq_1 <| rg zbjz.eq_1 <| xg zbj0.eq_1 <| xg zbj1.eq_1 <| rg zbj2.eq_1 <| xg zbj3.eq_1 <| xg zbj4.eq_1 <| xg zbj5.eq_1 <| xg zbj6.eq_1 <| xg zbj7.eq_1 <| rg zbj8.eq_1 <| xg zbj9.eq_1 <| @ex_of T _ _ zbka.eq_1
def zbyn := @vi T F.zob zbkc zbp8 rfl
theorem zbyo {n : Nat} {H : Hp} {vs : List V} : (orc T (n + 1)).inl F.zob vs H = finI H.length false [.tmp 4] (unw T (orc T n) n H.length [] (exec T (orc T n) n H.length (.seq (.reg zbju) zbka) (params 0 vs) H)) := by rw [zh4, zbp8, y4, zh2]; rfl
def zbyp := rg zbkd.eq_1 <| rg zbke.eq_1 <| @ex_of T _ _ zbkf.eq_1
def zbyq := @vd T F.zli zbkh [0] zbp9 rfl rfl
theorem zbyr : zbkh.res = [.tmp 2] ∧ zbkh.rets = [[]] ∧ zbkh.body = (.seq (.reg zbkd) zbkf) := ⟨rfl, rfl, rfl⟩
def zbys := rg zbki.eq_1 <| rg zbkj.eq_1 <| rg zbkk.eq_1 <| rg zbkl.eq_1 <| xg zbkm.eq_1 <| xg zbkn.eq_1 <| @ex_of T _ _ zbko.eq_1
def zbyt := @vi T F.zoc zbkq zbqa rfl
theorem zbyu {n : Nat} {H : Hp} {vs : List V} : (orc T (n + 1)).inl F.zoc vs H = finI H.length false [.tmp 2, .tmp 3, .tmp 4] (unw T (orc T n) n H.length [] (exec T (orc T n) n H.length (.seq (.reg zbki) zbko) (params 0 vs) H)) := by rw [zh4, zbqa, y4, zh2]; rfl
def zbyv := rg zbkr.eq_1 <| rg zbks.eq_1 <| rg zbkt.eq_1 <| xg zbku.eq_1 <| rg zbkv.eq_1 <| xg zbkw.eq_1 <| @ex_of T _ _ zbkx.eq_1
def zbyw := @vd T F.zlq zbkz [0] zbqb rfl rfl
theorem zbyx : zbkz.res = [.tmp 2] ∧ zbkz.rets = [[2]] ∧ zbkz.body = (.seq (.reg zbkr) zbkx) := ⟨rfl, rfl, rfl⟩
def zbyy := rg zbk0.eq_1 <| rg zbk1.eq_1 <| rg zbk2.eq_1 <| rg zbk3.eq_1 <| rg zbk4.eq_1 <| rg zbk5.eq_1 <| xg zbk6.eq_1 <| xg zbk7.eq_1 <| rg zbk8.eq_1 <| xg zbk9.eq_1 <| xg zbla.eq_1 <| xg zblb.eq_1 <| xg zblc.eq_1 <| xg zbld.eq_1 <| rg zble.eq_1 <| xg zblf.eq_1 <| @ex_of T _ _ zblg.eq_1
def zbyz := @vd T F.zls zbli [0, 0] zbqc rfl rfl
theorem zby0 : zbli.res = [.tmp 4] ∧ zbli.rets = [[]] ∧ zbli.body = (.seq (.reg zbk0) zblg) := ⟨rfl, rfl, rfl⟩
def zby1 := rg zblj.eq_1 <| rg zblk.eq_1 <| rg zbll.eq_1 <| rg zblm.eq_1 <| xg zbln.eq_1 <| rg zblo.eq_1 <| rg zblp.eq_1 <| rg zblq.eq_1 <| rg zblr.eq_1 <| xg zbls.eq_1 <| xg zblt.eq_1 <| xg zblu.eq_1 <| xg zblv.eq_1 <| xg zblw.eq_1 <| @ex_of T _ _ zblx.eq_1
def zby2 := @vd T F.zlt zblz [2, 0, 0] zbqd rfl rfl
theorem zby3 : zblz.res = [.tmp 6] ∧ zblz.rets = [[2]] ∧ zblz.body = (.seq (.reg zblj) zblx) := ⟨rfl, rfl, rfl⟩
def zby4 := rg zbl0.eq_1 <| rg zbl1.eq_1 <| rg zbl2.eq_1 <| rg zbl3.eq_1 <| rg zbl4.eq_1 <| rg zbl5.eq_1 <| rg zbl6.eq_1 <| rg zbl7.eq_1 <| rg zbl8.eq_1 <| rg zbl9.eq_1 <| rg zbma.eq_1 <| rg zbmb.eq_1 <| xg zbmc.eq_1 <| xg zbmd.eq_1 <| xg zbme.eq_1 <| xg zbmf.eq_1 <| xg zbmg.eq_1 <| xg zbmh.eq_1 <| rg zbmi.eq_1 <| xg zbmj.eq_1 <| @ex_of T _ _ zbmk.eq_1
def zby5 := @vi T F.zod zbmm zbqe rfl
theorem zby6 {n : Nat} {H : Hp} {vs : List V} : (orc T (n + 1)).inl F.zod vs H = finI H.length false [.tmp 6] (unw T (orc T n) n H.length [] (exec T (orc T n) n H.length (.seq (.reg zbl0) zbmk) (params 0 vs) H)) := by rw [zh4, zbqe, y4, zh2]; rfl
def zby7 := rg zbmn.eq_1 <| rg zbmo.eq_1 <| rg zbmp.eq_1 <| rg zbmq.eq_1 <| xg zbmr.eq_1 <| rg zbms.eq_1 <| xg zbmt.eq_1 <| xg zbmu.eq_1 <| @ex_of T _ _ zbmv.eq_1
def zby8 := @vd T F.zlu zbmx [0] zbqf rfl rfl
theorem zby9 : zbmx.res = [.tmp 2] ∧ zbmx.rets = [[]] ∧ zbmx.body = (.seq (.reg zbmn) zbmv) := ⟨rfl, rfl, rfl⟩
def zbza := rg zbmy.eq_1 <| rg zbmz.eq_1 <| rg zbm0.eq_1 <| rg zbm1.eq_1 <| rg zbm2.eq_1 <| xg zbm3.eq_1 <| xg zbm4.eq_1 <| xg zbm5.eq_1 <| @ex_of T _ _ zbm6.eq_1
def zbzb := @vi T F.zoe zbm8 zbqg rfl
theorem zbzc {n : Nat} {H : Hp} {vs : List V} : (orc T (n + 1)).inl F.zoe vs H = finI H.length false [.tmp 4] (unw T (orc T n) n H.length [] (exec T (orc T n) n H.length (.seq (.reg zbmy) zbm6) (params 0 vs) H)) := by rw [zh4, zbqg, y4, zh2]; rfl
def zbzd := rg zbm9.eq_1 <| rg zbna.eq_1 <| @ex_of T _ _ zbnb.eq_1
def zbze := @vi T F.zof zbnd zbqh rfl
theorem zbzf {n : Nat} {H : Hp} {vs : List V} : (orc T (n + 1)).inl F.zof vs H = finI H.length false [.tmp 1] (unw T (orc T n) n H.length [] (exec T (orc T n) n H.length (.seq (.reg zbm9) zbnb) (params 0 vs) H)) := by rw [zh4, zbqh, y4, zh2]; rfl
def zbzg := rg zbne.eq_1 <| rg zbnf.eq_1 <| @ex_of T _ _ zbng.eq_1
def zbzh := @vi T F.zog zbni zbqi rfl
theorem zbzi {n : Nat} {H : Hp} {vs : List V} : (orc T (n + 1)).inl F.zog vs H = finI H.length false [.tmp 1] (unw T (orc T n) n H.length [] (exec T (orc T n) n H.length (.seq (.reg zbne) zbng) (params 0 vs) H)) := by rw [zh4, zbqi, y4, zh2]; rfl
end Go.Dvm.C
