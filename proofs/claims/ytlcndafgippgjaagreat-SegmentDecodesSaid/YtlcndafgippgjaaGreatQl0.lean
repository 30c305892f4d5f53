/- What each piece of the code comes to: part 1. -/
import Derived.Test.YtlcndafgippgjaaGreatQc0
set_option linter.all false
set_option maxRecDepth 100000
set_option maxHeartbeats 4000000
namespace Go.Dvm.C
open Go Go.Dvm
def ke := And.intro @Ow.enc.eq_1 <| And.intro @Sl.enc.eq_1 <| And.intro @arrEnc.eq_1 <| And.intro @I.zjr.enc.eq_1 <| And.intro @I.zjs.enc.eq_1 <| @I.zjt.enc.eq_1
def kf := And.intro @ke @kn
def tab : List (Nat × MFun) := [(4, zov), (5, zox), (8, zoz), (9, zo1), (10, zpp), (11, zpx), (12, zpz), (13, zp6), (14, zqr), (15, zqt), (16, zq3), (17, zrb), (18, zr1), (19, zsd), (20, zsf), (21, zsx), (22, zsz), (23, ztd), (24, ztp), (25, zts), (26, zt2), (27, zua), (28, zu1), (29, zvb), (30, zvd), (31, zvn), (32, zvp), (33, zvr), (34, zvz), (35, zwj), (36, zw4), (37, zw6), (38, zxg), (39, zyg), (40, zyy), (41, zy0), (42, zzo), (43, zzq), (44, zzs), (45, z0a), (46, z0f), (47, z0h), (48, z0p), (49, z0r), (50, z01), (51, z03), (52, z1l), (53, z2j), (54, z2x), (55, z23), (56, z3l), (57, z3n), (58, z4r), (59, z47), (60, z5b), (61, z5j), (62, z5t), (63, z5v), (64, z6h), (65, z60), (66, z62), (67, z7g), (68, z76), (69, z94), (70, zbam), (71, zba8), (72, zbba), (73, zbbc), (74, zbbq), (75, zbbs), (76, zbch), (77, zbc9), (78, zbdo), (79, zbdq), (80, zbd0), (81, zbd2), (82, zbd4), (83, zbd6), (84, zbel), (85, zben), (86, zbez), (87, zbe1), (88, zbe3), (89, zbfr), (90, zbft), (91, zbf3), (92, zbgb), (93, zbgp), (94, zbgr), (95, zbgz), (96, zbg1), (97, zbg3), (98, zbg5), (99, zbg7), (100, zbhq), (101, zbi2), (102, zbi7), (103, zbjq), (104, zbkn), (105, zbkw), (106, zbk5), (107, zbli), (108, zbl1), (109, zbl6), (110, zbmf), (111, zbmo), (112, zbm7), (113, zbno), (114, zbob), (115, zbom), (116, zbox), (117, zbo2), (118, zbo7)]
abbrev T : Nat → Option MFun := look tab
theorem zbo8 : T F.zoh = some zov := rfl
theorem zbo9 : T F.zk3 = some zox := rfl
theorem zbpa : T F.zn0 = some zoz := rfl
theorem zbpb : T F.znx = some zo1 := rfl
theorem zbpc : T F.zoc = some zpp := rfl
theorem zbpd : T F.zod = some zpx := rfl
theorem zbpe : T F.zog = some zpz := rfl
theorem zbpf : T F.zk2 = some zp6 := rfl
theorem zbpg : T F.zmc = some zqr := rfl
theorem zbph : T F.zms = some zqt := rfl
theorem zbpi : T F.znu = some zq3 := rfl
theorem zbpj : T F.znz = some zrb := rfl
theorem zbpk : T F.znp = some zr1 := rfl
theorem zbpl : T F.znw = some zsd := rfl
theorem zbpm : T F.zn1 = some zsf := rfl
theorem zbpn : T F.zoi = some zsx := rfl
theorem zbpo : T F.zn2 = some zsz := rfl
theorem zbpp : T F.zmr = some ztd := rfl
theorem zbpq : T F.zof = some ztp := rfl
theorem zbpr : T F.zkf = some zts := rfl
theorem zbps : T F.zkk = some zt2 := rfl
theorem zbpt : T F.zkz = some zua := rfl
theorem zbpu : T F.zkc = some zu1 := rfl
theorem zbpv : T F.zk1 = some zvb := rfl
theorem zbpw : T F.zlh = some zvd := rfl
theorem zbpx : T F.zl1 = some zvn := rfl
theorem zbpy : T F.zln = some zvp := rfl
theorem zbpz : T F.zke = some zvr := rfl
theorem zbp0 : T F.zns = some zvz := rfl
theorem zbp1 : T F.zoj = some zwj := rfl
theorem zbp2 : T F.znm = some zw4 := rfl
theorem zbp3 : T F.zne = some zw6 := rfl
theorem zbp4 : T F.zlg = some zxg := rfl
theorem zbp5 : T F.zok = some zyg := rfl
theorem zbp6 : T F.zol = some zyy := rfl
theorem zbp7 : T F.zjx = some zy0 := rfl
theorem zbp8 : T F.zmp = some zzo := rfl
theorem zbp9 : T F.zju = some zzq := rfl
theorem zbqa : T F.zki = some zzs := rfl
theorem zbqb : T F.zkx = some z0a := rfl
theorem zbqc : T F.zom = some z0f := rfl
theorem zbqd : T F.zkd = some z0h := rfl
theorem zbqe : T F.zml = some z0p := rfl
theorem zbqf : T F.zmm = some z0r := rfl
theorem zbqg : T F.znr = some z01 := rfl
theorem zbqh : T F.zmh = some z03 := rfl
theorem zbqi : T F.zm4 = some z1l := rfl
theorem zbqj : T F.znl = some z2j := rfl
theorem zbqk : T F.zm6 = some z2x := rfl
theorem zbql : T F.znd = some z23 := rfl
theorem zbqm : T F.zle = some z3l := rfl
theorem zbqn : T F.zla = some z3n := rfl
theorem zbqo : T F.zlp = some z4r := rfl
theorem zbqp : T F.zlz = some z47 := rfl
theorem zbqq : T F.zjw = some z5b := rfl
theorem zbqr : T F.zme = some z5j := rfl
theorem zbqs : T F.zmo = some z5t := rfl
theorem zbqt : T F.zkh = some z5v := rfl
theorem zbqu : T F.zkr = some z6h := rfl
theorem zbqv : T F.zkv = some z60 := rfl
theorem zbqw : T F.zj7 = some z62 := rfl
theorem zbqx : T F.zmj = some z7g := rfl
theorem zbqy : T F.zmg = some z76 := rfl
theorem zbqz : T F.zm2 = some z94 := rfl
theorem zbq0 : T F.zm9 = some zbam := rfl
theorem zbq1 : T F.znj = some zba8 := rfl
theorem zbq2 : T F.zm0 = some zbba := rfl
theorem zbq3 : T F.zk7 = some zbbc := rfl
theorem zbq4 : T F.zlc = some zbbq := rfl
theorem zbq5 : T F.zld = some zbbs := rfl
theorem zbq6 : T F.zk9 = some zbch := rfl
theorem zbq7 : T F.zlm = some zbc9 := rfl
theorem zbq8 : T F.zlx = some zbdo := rfl
theorem zbq9 : T F.zkg = some zbdq := rfl
theorem zbra : T F.zkm = some zbd0 := rfl
theorem zbrb : T F.zko = some zbd2 := rfl
theorem zbrc : T F.zkp = some zbd4 := rfl
theorem zbrd : T F.zks = some zbd6 := rfl
theorem zbre : T F.zkt = some zbel := rfl
theorem zbrf : T F.zj6 = some zben := rfl
theorem zbrg : T F.zj2 = some zbez := rfl
theorem zbrh : T F.zj3 = some zbe1 := rfl
theorem zbri : T F.zmt = some zbe3 := rfl
theorem zbrj : T F.zmz = some zbfr := rfl
theorem zbrk : T F.zmv = some zbft := rfl
theorem zbrl : T F.zmy = some zbf3 := rfl
theorem zbrm : T F.zm8 = some zbgb := rfl
theorem zbrn : T F.znb = some zbgp := rfl
theorem zbro : T F.zng = some zbgr := rfl
theorem zbrp : T F.znh = some zbgz := rfl
theorem zbrq : T F.zmx = some zbg1 := rfl
theorem zbrr : T F.zon = some zbg3 := rfl
theorem zbrs : T F.zk4 = some zbg5 := rfl
theorem zbrt : T F.zlj = some zbg7 := rfl
theorem zbru : T F.zlk = some zbhq := rfl
theorem zbrv : T F.zlw = some zbi2 := rfl
theorem zbrw : T F.zkn = some zbi7 := rfl
theorem zbrx : T F.zj5 = some zbjq := rfl
theorem zbry : T F.zj0 = some zbkn := rfl
theorem zbrz : T F.zmu = some zbkw := rfl
theorem zbr0 : T F.znf = some zbk5 := rfl
theorem zbr1 : T F.zmw = some zbli := rfl
theorem zbr2 : T F.zoo = some zbl1 := rfl
theorem zbr3 : T F.zli = some zbl6 := rfl
theorem zbr4 : T F.zop = some zbmf := rfl
theorem zbr5 : T F.zlq = some zbmo := rfl
theorem zbr6 : T F.zls = some zbm7 := rfl
theorem zbr7 : T F.zlt = some zbno := rfl
theorem zbr8 : T F.zoq = some zbob := rfl
theorem zbr9 : T F.zlu = some zbom := rfl
theorem zbsa : T F.zor = some zbox := rfl
theorem zbsb : T F.zos = some zbo2 := rfl
theorem zbsc : T F.zot = some zbo7 := rfl
def rg {P : Prop} {c c' : List MO} (h : c = c') (p : P) := ra (T := T) h p
def xg {P : Prop} {c c' : MC} (h : c = c') (p : P) := xa (T := T) h p
def zbsd := rg o_4_1.eq_1 <| rg o_4_2.eq_1 <| rg o_4_3.eq_1 <| rg o_4_4.eq_1 <| xg c_4_5.eq_1 <| rg o_4_6.eq_1 <| rg o_4_7.eq_1 <| rg o_4_8.eq_1 <| rg o_4_9.eq_1 <| rg o_4_10.eq_1 <| rg o_4_11.eq_1 <| rg o_4_12.eq_1 <| xg c_4_13.eq_1 <| xg c_4_14.eq_1 <| xg c_4_15.eq_1 <| xg c_4_16.eq_1 <| xg c_4_17.eq_1 <| xg c_4_18.eq_1 <| xg c_4_19.eq_1 <| xg c_4_20.eq_1 <| @ex_of T _ _ c_4_21.eq_1
def zbse := @vd T F.zoh zov [0] zbo8 rfl rfl
theorem zbsf : zov.res = [.tmp 2] ∧ zov.rets = [[]] ∧ zov.body = (.seq (.reg o_4_1) c_4_21) := ⟨rfl, rfl, rfl⟩
def zbsg := rg o_5_1.eq_1 <| rg o_5_2.eq_1 <| rg o_5_3.eq_1 <| xg c_5_4.eq_1 <| @ex_of T _ _ c_5_5.eq_1
def zbsh := @vd T F.zk3 zox [] zbo9 rfl rfl
theorem zbsi : zox.res = [.tmp 0] ∧ zox.rets = [[]] ∧ zox.body = (.seq (.reg o_5_1) c_5_5) := ⟨rfl, rfl, rfl⟩
def zbsj := rg o_8_1.eq_1 <| rg o_8_2.eq_1 <| rg o_8_3.eq_1 <| xg c_8_4.eq_1 <| @ex_of T _ _ c_8_5.eq_1
def zbsk := @vd T F.zn0 zoz [0] zbpa rfl rfl
theorem zbsl : zoz.res = [.cell 2 3 true, .tmp 3] ∧ zoz.rets = [[], []] ∧ zoz.body = (.seq (.reg o_8_1) c_8_5) := ⟨rfl, rfl, rfl⟩
def zbsm := rg o_9_1.eq_1 <| rg o_9_2.eq_1 <| rg o_9_3.eq_1 <| rg o_9_4.eq_1 <| xg c_9_5.eq_1 <| rg o_9_6.eq_1 <| rg o_9_7.eq_1 <| xg c_9_8.eq_1 <| rg o_9_9.eq_1 <| rg o_9_10.eq_1 <| rg o_9_11.eq_1 <| rg o_9_12.eq_1 <| xg c_9_13.eq_1 <| rg o_9_14.eq_1 <| rg o_9_15.eq_1 <| And.intro (@df_of T _ _ [(9, 5), (10, 5), (11, 5)] o_9_15.eq_1) <| rg o_9_16.eq_1 <| xg c_9_17.eq_1 <| rg o_9_18.eq_1 <| xg c_9_19.eq_1 <| xg c_9_20.eq_1 <| xg c_9_21.eq_1 <| xg c_9_22.eq_1 <| xg c_9_23.eq_1 <| xg c_9_24.eq_1 <| xg c_9_25.eq_1 <| xg c_9_26.eq_1 <| @ex_of T _ _ c_9_27.eq_1
def zbsn := @vd T F.znx zo1 [0] zbpb rfl rfl
theorem zbso : zo1.res = [.cell 2 3 true, .tmp 3] ∧ zo1.rets = [[], []] ∧ zo1.body = (.seq (.reg o_9_1) c_9_27) := ⟨rfl, rfl, rfl⟩
def zbsp := rg o_10_1.eq_1 <| rg o_10_2.eq_1 <| rg o_10_3.eq_1 <| rg o_10_4.eq_1 <| xg c_10_5.eq_1 <| rg o_10_6.eq_1 <| rg o_10_7.eq_1 <| rg o_10_8.eq_1 <| rg o_10_9.eq_1 <| xg zo2.eq_1 <| rg zo3.eq_1 <| rg zo4.eq_1 <| rg zo5.eq_1 <| rg zo6.eq_1 <| rg zo7.eq_1 <| xg zo8.eq_1 <| rg zo9.eq_1 <| xg zpa.eq_1 <| xg zpb.eq_1 <| xg zpc.eq_1 <| xg zpd.eq_1 <| xg zpe.eq_1 <| rg zpf.eq_1 <| xg zpg.eq_1 <| xg zph.eq_1 <| xg zpi.eq_1 <| xg zpj.eq_1 <| xg zpk.eq_1 <| xg zpl.eq_1 <| xg zpm.eq_1 <| @ex_of T _ _ zpn.eq_1
def zbsq := @vd T F.zoc zpp [0] zbpc rfl rfl
theorem zbsr : zpp.res = [.cell 2 3 true, .tmp 3, .tmp 4] ∧ zpp.rets = [[], [], []] ∧ zpp.body = (.seq (.reg o_10_1) zpn) := ⟨rfl, rfl, rfl⟩
def zbss := rg o_11_1.eq_1 <| rg o_11_2.eq_1 <| rg o_11_3.eq_1 <| rg o_11_4.eq_1 <| xg c_11_5.eq_1 <| rg o_11_6.eq_1 <| rg o_11_7.eq_1 <| rg o_11_8.eq_1 <| xg c_11_9.eq_1 <| rg zpq.eq_1 <| And.intro (@df_of T _ _ [(0, 4), (0, 5), (6, 7)] zpq.eq_1) <| xg zpr.eq_1 <| xg zps.eq_1 <| xg zpt.eq_1 <| xg zpu.eq_1 <| @ex_of T _ _ zpv.eq_1
def zbst := @vd T F.zod zpx [0] zbpd rfl rfl
theorem zbsu : zpx.res = [.cell 2 3 true, .tmp 3, .tmp 4] ∧ zpx.rets = [[], [], []] ∧ zpx.body = (.seq (.reg o_11_1) zpv) := ⟨rfl, rfl, rfl⟩
def zbsv := rg o_12_1.eq_1 <| rg o_12_2.eq_1 <| rg o_12_3.eq_1 <| xg c_12_4.eq_1 <| @ex_of T _ _ c_12_5.eq_1
def zbsw := @vd T F.zog zpz [0, 0] zbpe rfl rfl
theorem zbsx : zpz.res = [.tmp 4] ∧ zpz.rets = [[]] ∧ zpz.body = (.seq (.reg o_12_1) c_12_5) := ⟨rfl, rfl, rfl⟩
def zbsy := rg o_13_1.eq_1 <| rg o_13_2.eq_1 <| rg o_13_3.eq_1 <| rg o_13_4.eq_1 <| rg o_13_5.eq_1 <| rg o_13_6.eq_1 <| xg c_13_7.eq_1 <| xg c_13_8.eq_1 <| rg o_13_9.eq_1 <| rg zp0.eq_1 <| xg zp1.eq_1 <| xg zp2.eq_1 <| xg zp3.eq_1 <| @ex_of T _ _ zp4.eq_1
def zbsz := @vd T F.zk2 zp6 [0, 0] zbpf rfl rfl
theorem zbs0 : zp6.res = [.tmp 4, .tmp 5] ∧ zp6.rets = [[2], []] ∧ zp6.body = (.seq (.reg o_13_1) zp4) := ⟨rfl, rfl, rfl⟩
def zbs1 := rg o_14_1.eq_1 <| rg o_14_2.eq_1 <| rg o_14_3.eq_1 <| rg o_14_4.eq_1 <| rg o_14_5.eq_1 <| rg o_14_6.eq_1 <| xg c_14_7.eq_1 <| xg c_14_8.eq_1 <| rg o_14_9.eq_1 <| rg zp7.eq_1 <| rg zp8.eq_1 <| rg zp9.eq_1 <| rg zqa.eq_1 <| xg zqb.eq_1 <| xg zqc.eq_1 <| rg zqd.eq_1 <| rg zqe.eq_1 <| And.intro (@df_of T _ _ [(4, 1), (5, 1)] zqe.eq_1) <| rg zqf.eq_1 <| xg zqg.eq_1 <| rg zqh.eq_1 <| xg zqi.eq_1 <| xg zqj.eq_1 <| xg zqk.eq_1 <| xg zql.eq_1 <| xg zqm.eq_1 <| xg zqn.eq_1 <| xg zqo.eq_1 <| @ex_of T _ _ zqp.eq_1
def zbs2 := @vd T F.zmc zqr [0] zbpg rfl rfl
theorem zbs3 : zqr.res = [.cell 2 3 true, .tmp 3, .tmp 4] ∧ zqr.rets = [[], [2], []] ∧ zqr.body = (.seq (.reg o_14_1) zqp) := ⟨rfl, rfl, rfl⟩
def zbs4 := rg o_15_1.eq_1 <| rg o_15_2.eq_1 <| rg o_15_3.eq_1 <| rg o_15_4.eq_1 <| xg c_15_5.eq_1 <| rg o_15_6.eq_1 <| xg c_15_7.eq_1 <| xg c_15_8.eq_1 <| @ex_of T _ _ c_15_9.eq_1
def zbs5 := @vd T F.zms zqt [0] zbph rfl rfl
theorem zbs6 : zqt.res = [.tmp 2, .tmp 3] ∧ zqt.rets = [[2], []] ∧ zqt.body = (.seq (.reg o_15_1) c_15_9) := ⟨rfl, rfl, rfl⟩
def zbs7 := rg o_16_1.eq_1 <| rg o_16_2.eq_1 <| rg o_16_3.eq_1 <| rg o_16_4.eq_1 <| xg c_16_5.eq_1 <| rg o_16_6.eq_1 <| rg o_16_7.eq_1 <| xg c_16_8.eq_1 <| rg o_16_9.eq_1 <| xg zqu.eq_1 <| xg zqv.eq_1 <| xg zqw.eq_1 <| xg zqx.eq_1 <| rg zqy.eq_1 <| xg zqz.eq_1 <| xg zq0.eq_1 <| @ex_of T _ _ zq1.eq_1
def zbs8 := @vd T F.znu zq3 [0] zbpi rfl rfl
theorem zbs9 : zq3.res = [.tmp 2] ∧ zq3.rets = [[2]] ∧ zq3.body = (.seq (.reg o_16_1) zq1) := ⟨rfl, rfl, rfl⟩
def zbta := rg o_17_1.eq_1 <| rg o_17_2.eq_1 <| rg o_17_3.eq_1 <| rg o_17_4.eq_1 <| xg c_17_5.eq_1 <| rg o_17_6.eq_1 <| rg o_17_7.eq_1 <| xg c_17_8.eq_1 <| xg c_17_9.eq_1 <| xg zq4.eq_1 <| xg zq5.eq_1 <| rg zq6.eq_1 <| xg zq7.eq_1 <| xg zq8.eq_1 <| @ex_of T _ _ zq9.eq_1
def zbtb := @vd T F.znz zrb [0] zbpj rfl rfl
theorem zbtc : zrb.res = [.tmp 2] ∧ zrb.rets = [[2]] ∧ zrb.body = (.seq (.reg o_17_1) zq9) := ⟨rfl, rfl, rfl⟩
def zbtd := rg o_18_1.eq_1 <| rg o_18_2.eq_1 <| rg o_18_3.eq_1 <| rg o_18_4.eq_1 <| xg c_18_5.eq_1 <| rg o_18_6.eq_1 <| rg o_18_7.eq_1 <| rg o_18_8.eq_1 <| xg c_18_9.eq_1 <| rg zrc.eq_1 <| rg zrd.eq_1 <| rg zre.eq_1 <| xg zrf.eq_1 <| rg zrg.eq_1 <| rg zrh.eq_1 <| xg zri.eq_1 <| rg zrj.eq_1 <| rg zrk.eq_1 <| xg zrl.eq_1 <| xg zrm.eq_1 <| xg zrn.eq_1 <| xg zro.eq_1 <| rg zrp.eq_1 <| xg zrq.eq_1 <| xg zrr.eq_1 <| xg zrs.eq_1 <| xg zrt.eq_1 <| rg zru.eq_1 <| And.intro (@df_of T _ _ [(3, 5)] zru.eq_1) <| xg zrv.eq_1 <| xg zrw.eq_1 <| xg zrx.eq_1 <| xg zry.eq_1 <| @ex_of T _ _ zrz.eq_1
def zbte := @vd T F.znp zr1 [0] zbpk rfl rfl
theorem zbtf : zr1.res = [.tmp 2, .cell 3 3 true, .tmp 4, .tmp 5] ∧ zr1.rets = [[], [], [], []] ∧ zr1.body = (.seq (.reg o_18_1) zrz) := ⟨rfl, rfl, rfl⟩
def zbtg := rg o_19_1.eq_1 <| rg o_19_2.eq_1 <| rg o_19_3.eq_1 <| rg o_19_4.eq_1 <| rg o_19_5.eq_1 <| xg c_19_6.eq_1 <| rg o_19_7.eq_1 <| rg o_19_8.eq_1 <| xg c_19_9.eq_1 <| rg zr2.eq_1 <| xg zr3.eq_1 <| xg zr4.eq_1 <| xg zr5.eq_1 <| xg zr6.eq_1 <| rg zr7.eq_1 <| xg zr8.eq_1 <| xg zr9.eq_1 <| xg zsa.eq_1 <| @ex_of T _ _ zsb.eq_1
def zbth := @vd T F.znw zsd [0, 0] zbpl rfl rfl
theorem zbti : zsd.res = [.tmp 4] ∧ zsd.rets = [[2]] ∧ zsd.body = (.seq (.reg o_19_1) zsb) := ⟨rfl, rfl, rfl⟩
def zbtj := rg o_20_1.eq_1 <| rg o_20_2.eq_1 <| rg o_20_3.eq_1 <| xg c_20_4.eq_1 <| @ex_of T _ _ c_20_5.eq_1
def zbtk := @vd T F.zn1 zsf [0] zbpm rfl rfl
theorem zbtl : zsf.res = [.tmp 2, .tmp 3] ∧ zsf.rets = [[2], []] ∧ zsf.body = (.seq (.reg o_20_1) c_20_5) := ⟨rfl, rfl, rfl⟩
def zbtm := rg o_21_1.eq_1 <| rg o_21_2.eq_1 <| rg o_21_3.eq_1 <| rg o_21_4.eq_1 <| xg c_21_5.eq_1 <| xg c_21_6.eq_1 <| rg o_21_7.eq_1 <| rg o_21_8.eq_1 <| rg o_21_9.eq_1 <| rg zsg.eq_1 <| rg zsh.eq_1 <| rg zsi.eq_1 <| xg zsj.eq_1 <| xg zsk.eq_1 <| xg zsl.eq_1 <| rg zsm.eq_1 <| xg zsn.eq_1 <| xg zso.eq_1 <| xg zsp.eq_1 <| xg zsq.eq_1 <| xg zsr.eq_1 <| rg zss.eq_1 <| xg zst.eq_1 <| xg zsu.eq_1 <| @ex_of T _ _ zsv.eq_1
def zbtn := @vi T F.zoi zsx zbpn rfl
theorem zbto {n : Nat} {H : Hp} {vs : List V} : (orc T (n + 1)).inl F.zoi vs H = finI H.length false [.tmp 4, .tmp 5] (unw T (orc T n) n H.length [] (exec T (orc T n) n H.length (.seq (.reg o_21_1) zsv) (params 0 vs) H)) := by rw [zh5, zbpn, y4, zh3]; rfl
def zbtp := rg o_22_1.eq_1 <| rg o_22_2.eq_1 <| rg o_22_3.eq_1 <| xg c_22_4.eq_1 <| rg o_22_5.eq_1 <| xg c_22_6.eq_1 <| @ex_of T _ _ c_22_7.eq_1
def zbtq := @vd T F.zn2 zsz [0] zbpo rfl rfl
theorem zbtr : zsz.res = [.tmp 2] ∧ zsz.rets = [[]] ∧ zsz.body = (.seq (.reg o_22_1) c_22_7) := ⟨rfl, rfl, rfl⟩
def zbts := rg o_23_1.eq_1 <| rg o_23_2.eq_1 <| rg o_23_3.eq_1 <| rg o_23_4.eq_1 <| xg c_23_5.eq_1 <| rg o_23_6.eq_1 <| rg o_23_7.eq_1 <| rg o_23_8.eq_1 <| xg c_23_9.eq_1 <| rg zs0.eq_1 <| rg zs1.eq_1 <| xg zs2.eq_1 <| xg zs3.eq_1 <| xg zs4.eq_1 <| xg zs5.eq_1 <| xg zs6.eq_1 <| rg zs7.eq_1 <| xg zs8.eq_1 <| xg zs9.eq_1 <| xg zta.eq_1 <| @ex_of T _ _ ztb.eq_1
def zbtt := @vd T F.zmr ztd [0] zbpp rfl rfl
theorem zbtu : ztd.res = [.tmp 2, .tmp 3, .tmp 4] ∧ ztd.rets = [[2], [], []] ∧ ztd.body = (.seq (.reg o_23_1) ztb) := ⟨rfl, rfl, rfl⟩
def zbtv := rg o_24_1.eq_1 <| rg o_24_2.eq_1 <| rg o_24_3.eq_1 <| xg c_24_4.eq_1 <| rg o_24_5.eq_1 <| rg o_24_6.eq_1 <| xg c_24_7.eq_1 <| rg o_24_8.eq_1 <| rg o_24_9.eq_1 <| xg zte.eq_1 <| rg ztf.eq_1 <| xg ztg.eq_1 <| xg zth.eq_1 <| xg zti.eq_1 <| xg ztj.eq_1 <| rg ztk.eq_1 <| xg ztl.eq_1 <| xg ztm.eq_1 <| @ex_of T _ _ ztn.eq_1
def zbtw := @vd T F.zof ztp [0, 0] zbpq rfl rfl
theorem zbtx : ztp.res = [.tmp 4] ∧ ztp.rets = [[]] ∧ ztp.body = (.seq (.reg o_24_1) ztn) := ⟨rfl, rfl, rfl⟩
def zbty := rg o_25_1.eq_1 <| rg o_25_2.eq_1 <| rg o_25_3.eq_1 <| rg o_25_4.eq_1 <| rg o_25_5.eq_1 <| xg c_25_6.eq_1 <| xg c_25_7.eq_1 <| rg o_25_8.eq_1 <| xg c_25_9.eq_1 <| @ex_of T _ _ ztq.eq_1
def zbtz := @vd T F.zkf zts [0, 0, 0] zbpr rfl rfl
theorem zbt0 : zts.res = [.tmp 6, .tmp 7] ∧ zts.rets = [[2], []] ∧ zts.body = (.seq (.reg o_25_1) ztq) := ⟨rfl, rfl, rfl⟩
def zbt1 := rg o_26_1.eq_1 <| rg o_26_2.eq_1 <| rg o_26_3.eq_1 <| rg o_26_4.eq_1 <| rg o_26_5.eq_1 <| rg o_26_6.eq_1 <| xg c_26_7.eq_1 <| xg c_26_8.eq_1 <| rg o_26_9.eq_1 <| xg ztt.eq_1 <| xg ztu.eq_1 <| xg ztv.eq_1 <| xg ztw.eq_1 <| xg ztx.eq_1 <| rg zty.eq_1 <| xg ztz.eq_1 <| @ex_of T _ _ zt0.eq_1
def zbt2 := @vd T F.zkk zt2 [0, 0] zbps rfl rfl
theorem zbt3 : zt2.res = [.tmp 4] ∧ zt2.rets = [[]] ∧ zt2.body = (.seq (.reg o_26_1) zt0) := ⟨rfl, rfl, rfl⟩
def zbt4 := rg o_27_1.eq_1 <| rg o_27_2.eq_1 <| rg o_27_3.eq_1 <| xg c_27_4.eq_1 <| rg o_27_5.eq_1 <| rg o_27_6.eq_1 <| rg o_27_7.eq_1 <| xg c_27_8.eq_1 <| xg c_27_9.eq_1 <| xg zt3.eq_1 <| xg zt4.eq_1 <| rg zt5.eq_1 <| xg zt6.eq_1 <| xg zt7.eq_1 <| @ex_of T _ _ zt8.eq_1
def zbt5 := @vd T F.zkz zua [0, 0] zbpt rfl rfl
theorem zbt6 : zua.res = [.tmp 4] ∧ zua.rets = [[2]] ∧ zua.body = (.seq (.reg o_27_1) zt8) := ⟨rfl, rfl, rfl⟩
def zbt7 := rg o_28_1.eq_1 <| rg o_28_2.eq_1 <| rg o_28_3.eq_1 <| rg o_28_4.eq_1 <| rg o_28_5.eq_1 <| rg o_28_6.eq_1 <| rg o_28_7.eq_1 <| xg c_28_8.eq_1 <| xg c_28_9.eq_1 <| xg zub.eq_1 <| rg zuc.eq_1 <| xg zud.eq_1 <| xg zue.eq_1 <| xg zuf.eq_1 <| xg zug.eq_1 <| xg zuh.eq_1 <| rg zui.eq_1 <| rg zuj.eq_1 <| rg zuk.eq_1 <| rg zul.eq_1 <| rg zum.eq_1 <| xg zun.eq_1 <| rg zuo.eq_1 <| xg zup.eq_1 <| xg zuq.eq_1 <| xg zur.eq_1 <| xg zus.eq_1 <| xg zut.eq_1 <| rg zuu.eq_1 <| xg zuv.eq_1 <| xg zuw.eq_1 <| xg zux.eq_1 <| xg zuy.eq_1 <| @ex_of T _ _ zuz.eq_1
def zbt8 := @vd T F.zkc zu1 [0] zbpu rfl rfl
theorem zbt9 : zu1.res = [.tmp 2] ∧ zu1.rets = [[2]] ∧ zu1.body = (.seq (.reg o_28_1) zuz) := ⟨rfl, rfl, rfl⟩
def zbua := rg o_29_1.eq_1 <| rg o_29_2.eq_1 <| rg o_29_3.eq_1 <| rg o_29_4.eq_1 <| rg o_29_5.eq_1 <| rg o_29_6.eq_1 <| xg c_29_7.eq_1 <| rg o_29_8.eq_1 <| xg c_29_9.eq_1 <| xg zu2.eq_1 <| xg zu3.eq_1 <| xg zu4.eq_1 <| xg zu5.eq_1 <| rg zu6.eq_1 <| xg zu7.eq_1 <| xg zu8.eq_1 <| @ex_of T _ _ zu9.eq_1
def zbub := @vd T F.zk1 zvb [0] zbpv rfl rfl
theorem zbuc : zvb.res = [.tmp 2] ∧ zvb.rets = [[2]] ∧ zvb.body = (.seq (.reg o_29_1) zu9) := ⟨rfl, rfl, rfl⟩
def zbud := rg o_30_1.eq_1 <| rg o_30_2.eq_1 <| rg o_30_3.eq_1 <| rg o_30_4.eq_1 <| xg c_30_5.eq_1 <| rg o_30_6.eq_1 <| xg c_30_7.eq_1 <| xg c_30_8.eq_1 <| @ex_of T _ _ c_30_9.eq_1
def zbue := @vd T F.zlh zvd [0] zbpw rfl rfl
theorem zbuf : zvd.res = [.tmp 2, .tmp 3] ∧ zvd.rets = [[2], []] ∧ zvd.body = (.seq (.reg o_30_1) c_30_9) := ⟨rfl, rfl, rfl⟩
def zbug := rg o_31_1.eq_1 <| rg o_31_2.eq_1 <| rg o_31_3.eq_1 <| rg o_31_4.eq_1 <| rg o_31_5.eq_1 <| rg o_31_6.eq_1 <| xg c_31_7.eq_1 <| rg o_31_8.eq_1 <| xg c_31_9.eq_1 <| xg zve.eq_1 <| xg zvf.eq_1 <| xg zvg.eq_1 <| xg zvh.eq_1 <| rg zvi.eq_1 <| xg zvj.eq_1 <| xg zvk.eq_1 <| @ex_of T _ _ zvl.eq_1
def zbuh := @vd T F.zl1 zvn [0] zbpx rfl rfl
theorem zbui : zvn.res = [.tmp 2] ∧ zvn.rets = [[2]] ∧ zvn.body = (.seq (.reg o_31_1) zvl) := ⟨rfl, rfl, rfl⟩
def zbuj := rg o_32_1.eq_1 <| rg o_32_2.eq_1 <| @ex_of T _ _ c_32_3.eq_1
def zbuk := @vd T F.zln zvp [0, 0] zbpy rfl rfl
theorem zbul : zvp.res = [.tmp 4] ∧ zvp.rets = [[]] ∧ zvp.body = (.seq (.reg o_32_1) c_32_3) := ⟨rfl, rfl, rfl⟩
def zbum := rg o_33_1.eq_1 <| rg o_33_2.eq_1 <| rg o_33_3.eq_1 <| xg c_33_4.eq_1 <| @ex_of T _ _ c_33_5.eq_1
def zbun := @vd T F.zke zvr [0] zbpz rfl rfl
theorem zbuo : zvr.res = [.tmp 2] ∧ zvr.rets = [[2]] ∧ zvr.body = (.seq (.reg o_33_1) c_33_5) := ⟨rfl, rfl, rfl⟩
def zbup := rg o_34_1.eq_1 <| rg o_34_2.eq_1 <| rg o_34_3.eq_1 <| xg c_34_4.eq_1 <| rg o_34_5.eq_1 <| rg o_34_6.eq_1 <| rg o_34_7.eq_1 <| rg o_34_8.eq_1 <| rg o_34_9.eq_1 <| xg zvs.eq_1 <| xg zvt.eq_1 <| xg zvu.eq_1 <| xg zvv.eq_1 <| xg zvw.eq_1 <| @ex_of T _ _ zvx.eq_1
def zbuq := @vd T F.zns zvz [0] zbp0 rfl rfl
theorem zbur : zvz.res = [.tmp 2, .tmp 3] ∧ zvz.rets = [[2], []] ∧ zvz.body = (.seq (.reg o_34_1) zvx) := ⟨rfl, rfl, rfl⟩
def zbus := rg o_35_1.eq_1 <| rg o_35_2.eq_1 <| rg o_35_3.eq_1 <| rg o_35_4.eq_1 <| xg c_35_5.eq_1 <| rg o_35_6.eq_1 <| rg o_35_7.eq_1 <| rg o_35_8.eq_1 <| rg o_35_9.eq_1 <| rg zv0.eq_1 <| xg zv1.eq_1 <| rg zv2.eq_1 <| rg zv3.eq_1 <| xg zv4.eq_1 <| rg zv5.eq_1 <| rg zv6.eq_1 <| xg zv7.eq_1 <| rg zv8.eq_1 <| xg zv9.eq_1 <| xg zwa.eq_1 <| xg zwb.eq_1 <| xg zwc.eq_1 <| xg zwd.eq_1 <| xg zwe.eq_1 <| xg zwf.eq_1 <| xg zwg.eq_1 <| @ex_of T _ _ zwh.eq_1
def zbut := @vi T F.zoj zwj zbp1 rfl
theorem zbuu {n : Nat} {H : Hp} {vs : List V} : (orc T (n + 1)).inl F.zoj vs H = finI H.length false [.tmp 2, .cell 3 3 true, .tmp 4] (unw T (orc T n) n H.length [] (exec T (orc T n) n H.length (.seq (.reg o_35_1) zwh) (params 0 vs) H)) := by rw [zh5, zbp1, y4, zh3]; rfl
def zbuv := rg o_36_1.eq_1 <| rg o_36_2.eq_1 <| rg o_36_3.eq_1 <| rg o_36_4.eq_1 <| rg o_36_5.eq_1 <| rg o_36_6.eq_1 <| xg c_36_7.eq_1 <| rg o_36_8.eq_1 <| xg c_36_9.eq_1 <| xg zwk.eq_1 <| rg zwl.eq_1 <| rg zwm.eq_1 <| rg zwn.eq_1 <| xg zwo.eq_1 <| rg zwp.eq_1 <| xg zwq.eq_1 <| xg zwr.eq_1 <| xg zws.eq_1 <| rg zwt.eq_1 <| rg zwu.eq_1 <| xg zwv.eq_1 <| rg zww.eq_1 <| rg zwx.eq_1 <| xg zwy.eq_1 <| xg zwz.eq_1 <| xg zw0.eq_1 <| xg zw1.eq_1 <| @ex_of T _ _ zw2.eq_1
def zbuw := @vd T F.znm zw4 [0, 0, 0] zbp2 rfl rfl
theorem zbux : zw4.res = [.tmp 6, .tmp 7] ∧ zw4.rets = [[8], []] ∧ zw4.body = (.seq (.reg o_36_1) zw2) := ⟨rfl, rfl, rfl⟩
def zbuy := rg o_37_1.eq_1 <| rg o_37_2.eq_1 <| rg o_37_3.eq_1 <| rg o_37_4.eq_1 <| xg c_37_5.eq_1 <| rg o_37_6.eq_1 <| xg c_37_7.eq_1 <| xg c_37_8.eq_1 <| @ex_of T _ _ c_37_9.eq_1
def zbuz := @vd T F.zne zw6 [0, 0] zbp3 rfl rfl
theorem zbu0 : zw6.res = [.tmp 4] ∧ zw6.rets = [[2]] ∧ zw6.body = (.seq (.reg o_37_1) c_37_9) := ⟨rfl, rfl, rfl⟩
def zbu1 := rg o_38_1.eq_1 <| rg o_38_2.eq_1 <| xg c_38_3.eq_1 <| rg o_38_4.eq_1 <| rg o_38_5.eq_1 <| rg o_38_6.eq_1 <| xg c_38_7.eq_1 <| rg o_38_8.eq_1 <| rg o_38_9.eq_1 <| xg zw7.eq_1 <| xg zw8.eq_1 <| xg zw9.eq_1 <| xg zxa.eq_1 <| xg zxb.eq_1 <| rg zxc.eq_1 <| xg zxd.eq_1 <| @ex_of T _ _ zxe.eq_1
def zbu2 := @vd T F.zlg zxg [0] zbp4 rfl rfl
theorem zbu3 : zxg.res = [.tmp 2, .tmp 3, .tmp 4] ∧ zxg.rets = [[2], [], []] ∧ zxg.body = (.seq (.reg o_38_1) zxe) := ⟨rfl, rfl, rfl⟩
def zbu4 := rg o_39_1.eq_1 <| rg o_39_2.eq_1 <| rg o_39_3.eq_1 <| xg c_39_4.eq_1 <| rg o_39_5.eq_1 <| rg o_39_6.eq_1 <| rg o_39_7.eq_1 <| rg o_39_8.eq_1 <| rg o_39_9.eq_1 <| rg zxh.eq_1 <| rg zxi.eq_1 <| rg zxj.eq_1 <| rg zxk.eq_1 <| xg zxl.eq_1 <| xg zxm.eq_1 <| rg zxn.eq_1 <| xg zxo.eq_1 <| xg zxp.eq_1 <| xg zxq.eq_1 <| rg zxr.eq_1 <| xg zxs.eq_1 <| xg zxt.eq_1 <| xg zxu.eq_1 <| xg zxv.eq_1 <| xg zxw.eq_1 <| rg zxx.eq_1 <| rg zxy.eq_1 <| rg zxz.eq_1 <| rg zx0.eq_1 <| rg zx1.eq_1 <| rg zx2.eq_1 <| xg zx3.eq_1 <| xg zx4.eq_1 <| xg zx5.eq_1 <| rg zx6.eq_1 <| And.intro (@df_of T _ _ [(6, 12), (8, 12)] zx6.eq_1) <| rg zx7.eq_1 <| xg zx8.eq_1 <| xg zx9.eq_1 <| xg zya.eq_1 <| xg zyb.eq_1 <| xg zyc.eq_1 <| xg zyd.eq_1 <| @ex_of T _ _ zye.eq_1
def zbu5 := @vi T F.zok zyg zbp5 rfl
theorem zbu6 {n : Nat} {H : Hp} {vs : List V} : (orc T (n + 1)).inl F.zok vs H = finI H.length false [.tmp 4] (unw T (orc T n) n H.length [] (exec T (orc T n) n H.length (.seq (.reg o_39_1) zye) (params 0 vs) H)) := by rw [zh5, zbp5, y4, zh3]; rfl
def zbu7 := rg o_40_1.eq_1 <| rg o_40_2.eq_1 <| rg o_40_3.eq_1 <| rg o_40_4.eq_1 <| rg o_40_5.eq_1 <| rg o_40_6.eq_1 <| xg c_40_7.eq_1 <| rg o_40_8.eq_1 <| xg c_40_9.eq_1 <| rg zyh.eq_1 <| rg zyi.eq_1 <| rg zyj.eq_1 <| rg zyk.eq_1 <| rg zyl.eq_1 <| xg zym.eq_1 <| xg zyn.eq_1 <| rg zyo.eq_1 <| rg zyp.eq_1 <| xg zyq.eq_1 <| xg zyr.eq_1 <| xg zys.eq_1 <| xg zyt.eq_1 <| xg zyu.eq_1 <| xg zyv.eq_1 <| @ex_of T _ _ zyw.eq_1
def zbu8 := @vi T F.zol zyy zbp6 rfl
theorem zbu9 {n : Nat} {H : Hp} {vs : List V} : (orc T (n + 1)).inl F.zol vs H = finI H.length false [.tmp 4] (unw T (orc T n) n H.length [] (exec T (orc T n) n H.length (.seq (.reg o_40_1) zyw) (params 0 vs) H)) := by rw [zh5, zbp6, y4, zh3]; rfl
def zbva := rg o_41_1.eq_1 <| rg o_41_2.eq_1 <| rg o_41_3.eq_1 <| xg c_41_4.eq_1 <| rg o_41_5.eq_1 <| xg c_41_6.eq_1 <| @ex_of T _ _ c_41_7.eq_1
def zbvb := @vd T F.zjx zy0 [2, 0] zbp7 rfl rfl
theorem zbvc : zy0.res = [.tmp 4] ∧ zy0.rets = [[2]] ∧ zy0.body = (.seq (.reg o_41_1) c_41_7) := ⟨rfl, rfl, rfl⟩
def zbvd := rg o_42_1.eq_1 <| rg o_42_2.eq_1 <| rg o_42_3.eq_1 <| rg o_42_4.eq_1 <| xg c_42_5.eq_1 <| rg o_42_6.eq_1 <| rg o_42_7.eq_1 <| rg o_42_8.eq_1 <| xg c_42_9.eq_1 <| rg zy1.eq_1 <| rg zy2.eq_1 <| xg zy3.eq_1 <| rg zy4.eq_1 <| rg zy5.eq_1 <| xg zy6.eq_1 <| rg zy7.eq_1 <| rg zy8.eq_1 <| rg zy9.eq_1 <| rg zza.eq_1 <| xg zzb.eq_1 <| rg zzc.eq_1 <| xg zzd.eq_1 <| xg zze.eq_1 <| xg zzf.eq_1 <| xg zzg.eq_1 <| xg zzh.eq_1 <| xg zzi.eq_1 <| xg zzj.eq_1 <| xg zzk.eq_1 <| xg zzl.eq_1 <| @ex_of T _ _ zzm.eq_1
def zbve := @vd T F.zmp zzo [0] zbp8 rfl rfl
theorem zbvf : zzo.res = [.tmp 2, .tmp 3, .tmp 4] ∧ zzo.rets = [[2], [], []] ∧ zzo.body = (.seq (.reg o_42_1) zzm) := ⟨rfl, rfl, rfl⟩
def zbvg := rg o_43_1.eq_1 <| rg o_43_2.eq_1 <| @ex_of T _ _ c_43_3.eq_1
def zbvh := @vd T F.zju zzq [0] zbp9 rfl rfl
theorem zbvi : zzq.res = [.tmp 2] ∧ zzq.rets = [[]] ∧ zzq.body = (.seq (.reg o_43_1) c_43_3) := ⟨rfl, rfl, rfl⟩
def zbvj := rg o_44_1.eq_1 <| rg o_44_2.eq_1 <| @ex_of T _ _ c_44_3.eq_1
def zbvk := @vd T F.zki zzs [0] zbqa rfl rfl
theorem zbvl : zzs.res = [.tmp 2] ∧ zzs.rets = [[]] ∧ zzs.body = (.seq (.reg o_44_1) c_44_3) := ⟨rfl, rfl, rfl⟩
def zbvm := rg o_45_1.eq_1 <| rg o_45_2.eq_1 <| rg o_45_3.eq_1 <| rg o_45_4.eq_1 <| xg c_45_5.eq_1 <| xg c_45_6.eq_1 <| rg o_45_7.eq_1 <| rg o_45_8.eq_1 <| rg o_45_9.eq_1 <| rg zzt.eq_1 <| rg zzu.eq_1 <| rg zzv.eq_1 <| xg zzw.eq_1 <| xg zzx.eq_1 <| rg zzy.eq_1 <| xg zzz.eq_1 <| xg zz0.eq_1 <| xg zz1.eq_1 <| xg zz2.eq_1 <| xg zz3.eq_1 <| rg zz4.eq_1 <| xg zz5.eq_1 <| xg zz6.eq_1 <| xg zz7.eq_1 <| @ex_of T _ _ zz8.eq_1
def zbvn := @vd T F.zkx z0a [0, 0] zbqb rfl rfl
theorem zbvo : z0a.res = [.tmp 4] ∧ z0a.rets = [[2]] ∧ z0a.body = (.seq (.reg o_45_1) zz8) := ⟨rfl, rfl, rfl⟩
def zbvp := rg o_46_1.eq_1 <| rg o_46_2.eq_1 <| xg c_46_3.eq_1 <| rg o_46_4.eq_1 <| rg o_46_5.eq_1 <| rg o_46_6.eq_1 <| xg c_46_7.eq_1 <| xg c_46_8.eq_1 <| rg o_46_9.eq_1 <| xg z0b.eq_1 <| xg z0c.eq_1 <| @ex_of T _ _ z0d.eq_1
def zbvq := @vi T F.zom z0f zbqc rfl
theorem zbvr {n : Nat} {H : Hp} {vs : List V} : (orc T (n + 1)).inl F.zom vs H = finI H.length false [.tmp 4] (unw T (orc T n) n H.length [] (exec T (orc T n) n H.length (.seq (.reg o_46_1) z0d) (params 0 vs) H)) := by rw [zh5, zbqc, y4, zh3]; rfl
def zbvs := rg o_47_1.eq_1 <| rg o_47_2.eq_1 <| rg o_47_3.eq_1 <| xg c_47_4.eq_1 <| rg o_47_5.eq_1 <| rg o_47_6.eq_1 <| xg c_47_7.eq_1 <| xg c_47_8.eq_1 <| @ex_of T _ _ c_47_9.eq_1
def zbvt := @vd T F.zkd z0h [0] zbqd rfl rfl
theorem zbvu : z0h.res = [.tmp 2, .tmp 3] ∧ z0h.rets = [[2], []] ∧ z0h.body = (.seq (.reg o_47_1) c_47_9) := ⟨rfl, rfl, rfl⟩
def zbvv := rg o_48_1.eq_1 <| rg o_48_2.eq_1 <| rg o_48_3.eq_1 <| rg o_48_4.eq_1 <| xg c_48_5.eq_1 <| rg o_48_6.eq_1 <| rg o_48_7.eq_1 <| xg c_48_8.eq_1 <| xg c_48_9.eq_1 <| xg z0i.eq_1 <| xg z0j.eq_1 <| rg z0k.eq_1 <| xg z0l.eq_1 <| xg z0m.eq_1 <| @ex_of T _ _ z0n.eq_1
def zbvw := @vd T F.zml z0p [0, 0] zbqe rfl rfl
theorem zbvx : z0p.res = [.tmp 4] ∧ z0p.rets = [[]] ∧ z0p.body = (.seq (.reg o_48_1) z0n) := ⟨rfl, rfl, rfl⟩
def zbvy := rg o_49_1.eq_1 <| rg o_49_2.eq_1 <| @ex_of T _ _ c_49_3.eq_1
def zbvz := @vd T F.zmm z0r [0] zbqf rfl rfl
theorem zbv0 : z0r.res = [.tmp 2] ∧ z0r.rets = [[]] ∧ z0r.body = (.seq (.reg o_49_1) c_49_3) := ⟨rfl, rfl, rfl⟩
def zbv1 := rg o_50_1.eq_1 <| rg o_50_2.eq_1 <| rg o_50_3.eq_1 <| rg o_50_4.eq_1 <| xg c_50_5.eq_1 <| rg o_50_6.eq_1 <| rg o_50_7.eq_1 <| xg c_50_8.eq_1 <| rg o_50_9.eq_1 <| xg z0s.eq_1 <| xg z0t.eq_1 <| xg z0u.eq_1 <| xg z0v.eq_1 <| rg z0w.eq_1 <| xg z0x.eq_1 <| xg z0y.eq_1 <| @ex_of T _ _ z0z.eq_1
def zbv2 := @vd T F.znr z01 [0, 0] zbqg rfl rfl
theorem zbv3 : z01.res = [.tmp 4] ∧ z01.rets = [[2]] ∧ z01.body = (.seq (.reg o_50_1) z0z) := ⟨rfl, rfl, rfl⟩
def zbv4 := rg o_51_1.eq_1 <| rg o_51_2.eq_1 <| rg o_51_3.eq_1 <| rg o_51_4.eq_1 <| xg c_51_5.eq_1 <| rg o_51_6.eq_1 <| xg c_51_7.eq_1 <| xg c_51_8.eq_1 <| @ex_of T _ _ c_51_9.eq_1
def zbv5 := @vd T F.zmh z03 [0] zbqh rfl rfl
theorem zbv6 : z03.res = [.tmp 2, .tmp 3] ∧ z03.rets = [[], []] ∧ z03.body = (.seq (.reg o_51_1) c_51_9) := ⟨rfl, rfl, rfl⟩
def zbv7 := rg o_52_1.eq_1 <| rg o_52_2.eq_1 <| rg o_52_3.eq_1 <| xg c_52_4.eq_1 <| rg o_52_5.eq_1 <| rg o_52_6.eq_1 <| rg o_52_7.eq_1 <| xg c_52_8.eq_1 <| rg o_52_9.eq_1 <| rg z04.eq_1 <| rg z05.eq_1 <| xg z06.eq_1 <| rg z07.eq_1 <| rg z08.eq_1 <| xg z09.eq_1 <| xg z1a.eq_1 <| xg z1b.eq_1 <| xg z1c.eq_1 <| xg z1d.eq_1 <| xg z1e.eq_1 <| xg z1f.eq_1 <| rg z1g.eq_1 <| xg z1h.eq_1 <| xg z1i.eq_1 <| @ex_of T _ _ z1j.eq_1
def zbv8 := @vd T F.zm4 z1l [0, 0] zbqi rfl rfl
theorem zbv9 : z1l.res = [.tmp 4, .tmp 5] ∧ z1l.rets = [[8], []] ∧ z1l.body = (.seq (.reg o_52_1) z1j) := ⟨rfl, rfl, rfl⟩
def zbwa := rg o_53_1.eq_1 <| rg o_53_2.eq_1 <| rg o_53_3.eq_1 <| rg o_53_4.eq_1 <| rg o_53_5.eq_1 <| xg c_53_6.eq_1 <| rg o_53_7.eq_1 <| rg o_53_8.eq_1 <| rg o_53_9.eq_1 <| rg z1m.eq_1 <| xg z1n.eq_1 <| rg z1o.eq_1 <| rg z1p.eq_1 <| rg z1q.eq_1 <| xg z1r.eq_1 <| rg z1s.eq_1 <| rg z1t.eq_1 <| rg z1u.eq_1 <| xg z1v.eq_1 <| xg z1w.eq_1 <| xg z1x.eq_1 <| xg z1y.eq_1 <| rg z1z.eq_1 <| xg z10.eq_1 <| xg z11.eq_1 <| xg z12.eq_1 <| xg z13.eq_1 <| rg z14.eq_1 <| rg z15.eq_1 <| rg z16.eq_1 <| xg z17.eq_1 <| rg z18.eq_1 <| xg z19.eq_1 <| xg z2a.eq_1 <| xg z2b.eq_1 <| xg z2c.eq_1 <| xg z2d.eq_1 <| xg z2e.eq_1 <| xg z2f.eq_1 <| xg z2g.eq_1 <| @ex_of T _ _ z2h.eq_1
def zbwb := @vd T F.znl z2j [0] zbqj rfl rfl
theorem zbwc : z2j.res = [.tmp 2, .tmp 3] ∧ z2j.rets = [[8], []] ∧ z2j.body = (.seq (.reg o_53_1) z2h) := ⟨rfl, rfl, rfl⟩
def zbwd := rg o_54_1.eq_1 <| rg o_54_2.eq_1 <| rg o_54_3.eq_1 <| xg c_54_4.eq_1 <| rg o_54_5.eq_1 <| rg o_54_6.eq_1 <| xg c_54_7.eq_1 <| rg o_54_8.eq_1 <| rg o_54_9.eq_1 <| rg z2k.eq_1 <| xg z2l.eq_1 <| xg z2m.eq_1 <| rg z2n.eq_1 <| xg z2o.eq_1 <| xg z2p.eq_1 <| xg z2q.eq_1 <| xg z2r.eq_1 <| rg z2s.eq_1 <| xg z2t.eq_1 <| xg z2u.eq_1 <| @ex_of T _ _ z2v.eq_1
def zbwe := @vd T F.zm6 z2x [0, 0] zbqk rfl rfl
theorem zbwf : z2x.res = [.tmp 4] ∧ z2x.rets = [[]] ∧ z2x.body = (.seq (.reg o_54_1) z2v) := ⟨rfl, rfl, rfl⟩
def zbwg := rg o_55_1.eq_1 <| rg o_55_2.eq_1 <| rg o_55_3.eq_1 <| xg c_55_4.eq_1 <| rg o_55_5.eq_1 <| rg o_55_6.eq_1 <| xg c_55_7.eq_1 <| xg c_55_8.eq_1 <| xg c_55_9.eq_1 <| rg z2y.eq_1 <| xg z2z.eq_1 <| xg z20.eq_1 <| @ex_of T _ _ z21.eq_1
def zbwh := @vd T F.znd z23 [0] zbql rfl rfl
theorem zbwi : z23.res = [.tmp 2] ∧ z23.rets = [[2]] ∧ z23.body = (.seq (.reg o_55_1) z21) := ⟨rfl, rfl, rfl⟩
def zbwj := rg o_56_1.eq_1 <| rg o_56_2.eq_1 <| rg o_56_3.eq_1 <| xg c_56_4.eq_1 <| rg o_56_5.eq_1 <| rg o_56_6.eq_1 <| rg o_56_7.eq_1 <| rg o_56_8.eq_1 <| rg o_56_9.eq_1 <| rg z24.eq_1 <| rg z25.eq_1 <| xg z26.eq_1 <| xg z27.eq_1 <| xg z28.eq_1 <| rg z29.eq_1 <| rg z3a.eq_1 <| And.intro (@df_of T _ _ [(5, 8)] z3a.eq_1) <| rg z3b.eq_1 <| xg z3c.eq_1 <| rg z3d.eq_1 <| xg z3e.eq_1 <| xg z3f.eq_1 <| xg z3g.eq_1 <| xg z3h.eq_1 <| xg z3i.eq_1 <| @ex_of T _ _ z3j.eq_1
def zbwk := @vd T F.zle z3l [0] zbqm rfl rfl
theorem zbwl : z3l.res = [.tmp 2, .tmp 3, .tmp 4] ∧ z3l.rets = [[2], [], []] ∧ z3l.body = (.seq (.reg o_56_1) z3j) := ⟨rfl, rfl, rfl⟩
def zbwm := rg o_57_1.eq_1 <| rg o_57_2.eq_1 <| rg o_57_3.eq_1 <| rg o_57_4.eq_1 <| xg c_57_5.eq_1 <| rg o_57_6.eq_1 <| xg c_57_7.eq_1 <| xg c_57_8.eq_1 <| @ex_of T _ _ c_57_9.eq_1
def zbwn := @vd T F.zla z3n [0] zbqn rfl rfl
theorem zbwo : z3n.res = [.tmp 2, .tmp 3] ∧ z3n.rets = [[], []] ∧ z3n.body = (.seq (.reg o_57_1) c_57_9) := ⟨rfl, rfl, rfl⟩
def zbwp := rg o_58_1.eq_1 <| rg o_58_2.eq_1 <| rg o_58_3.eq_1 <| rg o_58_4.eq_1 <| rg o_58_5.eq_1 <| xg c_58_6.eq_1 <| rg o_58_7.eq_1 <| rg o_58_8.eq_1 <| rg o_58_9.eq_1 <| rg z3o.eq_1 <| rg z3p.eq_1 <| rg z3q.eq_1 <| rg z3r.eq_1 <| rg z3s.eq_1 <| rg z3t.eq_1 <| xg z3u.eq_1 <| rg z3v.eq_1 <| rg z3w.eq_1 <| rg z3x.eq_1 <| rg z3y.eq_1 <| And.intro (@df_of T _ _ [(6, 2), (6, 3)] z3y.eq_1) <| xg z3z.eq_1 <| xg z30.eq_1 <| xg z31.eq_1 <| xg z32.eq_1 <| xg z33.eq_1 <| xg z34.eq_1 <| rg z35.eq_1 <| xg z36.eq_1 <| xg z37.eq_1 <| xg z38.eq_1 <| xg z39.eq_1 <| xg z4a.eq_1 <| rg z4b.eq_1 <| rg z4c.eq_1 <| rg z4d.eq_1 <| xg z4e.eq_1 <| xg z4f.eq_1 <| rg z4g.eq_1 <| xg z4h.eq_1 <| xg z4i.eq_1 <| xg z4j.eq_1 <| xg z4k.eq_1 <| xg z4l.eq_1 <| xg z4m.eq_1 <| xg z4n.eq_1 <| xg z4o.eq_1 <| @ex_of T _ _ z4p.eq_1
def zbwq := @vd T F.zlp z4r [0] zbqo rfl rfl
theorem zbwr : z4r.res = [.tmp 2, .tmp 3] ∧ z4r.rets = [[8], []] ∧ z4r.body = (.seq (.reg o_58_1) z4p) := ⟨rfl, rfl, rfl⟩
def zbws := rg o_59_1.eq_1 <| rg o_59_2.eq_1 <| rg o_59_3.eq_1 <| xg c_59_4.eq_1 <| rg o_59_5.eq_1 <| rg o_59_6.eq_1 <| rg o_59_7.eq_1 <| xg c_59_8.eq_1 <| rg o_59_9.eq_1 <| rg z4s.eq_1 <| rg z4t.eq_1 <| xg z4u.eq_1 <| rg z4v.eq_1 <| And.intro (@df_of T _ _ [(8, 2), (8, 3)] z4v.eq_1) <| xg z4w.eq_1 <| xg z4x.eq_1 <| xg z4y.eq_1 <| xg z4z.eq_1 <| xg z40.eq_1 <| xg z41.eq_1 <| rg z42.eq_1 <| xg z43.eq_1 <| xg z44.eq_1 <| @ex_of T _ _ z45.eq_1
def zbwt := @vd T F.zlz z47 [0, 0] zbqp rfl rfl
theorem zbwu : z47.res = [.tmp 4, .tmp 5] ∧ z47.rets = [[8], []] ∧ z47.body = (.seq (.reg o_59_1) z45) := ⟨rfl, rfl, rfl⟩
def zbwv := rg o_60_1.eq_1 <| rg o_60_2.eq_1 <| xg c_60_3.eq_1 <| rg o_60_4.eq_1 <| rg o_60_5.eq_1 <| xg c_60_6.eq_1 <| xg c_60_7.eq_1 <| xg c_60_8.eq_1 <| rg o_60_9.eq_1 <| xg z48.eq_1 <| @ex_of T _ _ z49.eq_1
def zbww := @vd T F.zjw z5b [2, 0] zbqq rfl rfl
theorem zbwx : z5b.res = [.tmp 4] ∧ z5b.rets = [[2]] ∧ z5b.body = (.seq (.reg o_60_1) z49) := ⟨rfl, rfl, rfl⟩
def zbwy := rg o_61_1.eq_1 <| rg o_61_2.eq_1 <| rg o_61_3.eq_1 <| xg c_61_4.eq_1 <| rg o_61_5.eq_1 <| rg o_61_6.eq_1 <| xg c_61_7.eq_1 <| rg o_61_8.eq_1 <| xg c_61_9.eq_1 <| xg z5c.eq_1 <| xg z5d.eq_1 <| xg z5e.eq_1 <| rg z5f.eq_1 <| xg z5g.eq_1 <| @ex_of T _ _ z5h.eq_1
def zbwz := @vd T F.zme z5j [0] zbqr rfl rfl
theorem zbw0 : z5j.res = [.tmp 2] ∧ z5j.rets = [[]] ∧ z5j.body = (.seq (.reg o_61_1) z5h) := ⟨rfl, rfl, rfl⟩
def zbw1 := rg o_62_1.eq_1 <| rg o_62_2.eq_1 <| rg o_62_3.eq_1 <| rg o_62_4.eq_1 <| xg c_62_5.eq_1 <| rg o_62_6.eq_1 <| rg o_62_7.eq_1 <| xg c_62_8.eq_1 <| rg o_62_9.eq_1 <| xg z5k.eq_1 <| xg z5l.eq_1 <| xg z5m.eq_1 <| xg z5n.eq_1 <| rg z5o.eq_1 <| xg z5p.eq_1 <| xg z5q.eq_1 <| @ex_of T _ _ z5r.eq_1
def zbw2 := @vd T F.zmo z5t [0] zbqs rfl rfl
theorem zbw3 : z5t.res = [.tmp 2] ∧ z5t.rets = [[]] ∧ z5t.body = (.seq (.reg o_62_1) z5r) := ⟨rfl, rfl, rfl⟩
def zbw4 := rg o_63_1.eq_1 <| rg o_63_2.eq_1 <| And.intro (@dr_of T _ _ [(10, 13), (18, 21)] o_63_2.eq_1 (by decide)) <| @ex_of T _ _ c_63_3.eq_1
def zbw5 := @vd T F.zkh z5v [0] zbqt rfl rfl
theorem zbw6 : z5v.res = [.tmp 2] ∧ z5v.rets = [[]] ∧ z5v.body = (.seq (.reg o_63_1) c_63_3) := ⟨rfl, rfl, rfl⟩
def zbw7 := rg o_64_1.eq_1 <| rg o_64_2.eq_1 <| rg o_64_3.eq_1 <| xg c_64_4.eq_1 <| rg o_64_5.eq_1 <| rg o_64_6.eq_1 <| rg o_64_7.eq_1 <| rg o_64_8.eq_1 <| rg o_64_9.eq_1 <| rg z5w.eq_1 <| And.intro (@df_of T _ _ [(5, 3), (8, 3), (9, 3)] z5w.eq_1) <| rg z5x.eq_1 <| rg z5y.eq_1 <| rg z5z.eq_1 <| xg z50.eq_1 <| xg z51.eq_1 <| xg z52.eq_1 <| xg z53.eq_1 <| rg z54.eq_1 <| xg z55.eq_1 <| xg z56.eq_1 <| xg z57.eq_1 <| xg z58.eq_1 <| xg z59.eq_1 <| rg z6a.eq_1 <| xg z6b.eq_1 <| xg z6c.eq_1 <| xg z6d.eq_1 <| xg z6e.eq_1 <| @ex_of T _ _ z6f.eq_1
def zbw8 := @vd T F.zkr z6h [0] zbqu rfl rfl
theorem zbw9 : z6h.res = [.tmp 2, .tmp 3] ∧ z6h.rets = [[2], []] ∧ z6h.body = (.seq (.reg o_64_1) z6f) := ⟨rfl, rfl, rfl⟩
def zbxa := rg o_65_1.eq_1 <| rg o_65_2.eq_1 <| rg o_65_3.eq_1 <| rg o_65_4.eq_1 <| rg o_65_5.eq_1 <| rg o_65_6.eq_1 <| xg c_65_7.eq_1 <| xg c_65_8.eq_1 <| rg o_65_9.eq_1 <| rg z6i.eq_1 <| rg z6j.eq_1 <| rg z6k.eq_1 <| rg z6l.eq_1 <| xg z6m.eq_1 <| rg z6n.eq_1 <| xg z6o.eq_1 <| xg z6p.eq_1 <| xg z6q.eq_1 <| xg z6r.eq_1 <| xg z6s.eq_1 <| rg z6t.eq_1 <| xg z6u.eq_1 <| xg z6v.eq_1 <| xg z6w.eq_1 <| xg z6x.eq_1 <| @ex_of T _ _ z6y.eq_1
def zbxb := @vd T F.zkv z60 [0, 0] zbqv rfl rfl
theorem zbxc : z60.res = [.tmp 4, .tmp 5] ∧ z60.rets = [[2], []] ∧ z60.body = (.seq (.reg o_65_1) z6y) := ⟨rfl, rfl, rfl⟩
def zbxd := rg o_66_1.eq_1 <| rg o_66_2.eq_1 <| @ex_of T _ _ c_66_3.eq_1
def zbxe := @vd T F.zj7 z62 [0, 0] zbqw rfl rfl
theorem zbxf : z62.res = [.tmp 4] ∧ z62.rets = [[2]] ∧ z62.body = (.seq (.reg o_66_1) c_66_3) := ⟨rfl, rfl, rfl⟩
def zbxg := rg o_67_1.eq_1 <| rg o_67_2.eq_1 <| rg o_67_3.eq_1 <| rg o_67_4.eq_1 <| xg c_67_5.eq_1 <| rg o_67_6.eq_1 <| rg o_67_7.eq_1 <| rg o_67_8.eq_1 <| rg o_67_9.eq_1 <| xg z63.eq_1 <| xg z64.eq_1 <| xg z65.eq_1 <| rg z66.eq_1 <| xg z67.eq_1 <| xg z68.eq_1 <| xg z69.eq_1 <| xg z7a.eq_1 <| rg z7b.eq_1 <| xg z7c.eq_1 <| xg z7d.eq_1 <| @ex_of T _ _ z7e.eq_1
def zbxh := @vd T F.zmj z7g [0] zbqx rfl rfl
theorem zbxi : z7g.res = [.tmp 2] ∧ z7g.rets = [[]] ∧ z7g.body = (.seq (.reg o_67_1) z7e) := ⟨rfl, rfl, rfl⟩
def zbxj := rg o_68_1.eq_1 <| rg o_68_2.eq_1 <| rg o_68_3.eq_1 <| rg o_68_4.eq_1 <| rg o_68_5.eq_1 <| xg c_68_6.eq_1 <| rg o_68_7.eq_1 <| rg o_68_8.eq_1 <| rg o_68_9.eq_1 <| xg z7h.eq_1 <| rg z7i.eq_1 <| rg z7j.eq_1 <| rg z7k.eq_1 <| rg z7l.eq_1 <| rg z7m.eq_1 <| xg z7n.eq_1 <| rg z7o.eq_1 <| xg z7p.eq_1 <| xg z7q.eq_1 <| xg z7r.eq_1 <| xg z7s.eq_1 <| xg z7t.eq_1 <| xg z7u.eq_1 <| rg z7v.eq_1 <| xg z7w.eq_1 <| xg z7x.eq_1 <| xg z7y.eq_1 <| xg z7z.eq_1 <| rg z70.eq_1 <| xg z71.eq_1 <| xg z72.eq_1 <| xg z73.eq_1 <| @ex_of T _ _ z74.eq_1
def zbxk := @vd T F.zmg z76 [0] zbqy rfl rfl
theorem zbxl : z76.res = [.tmp 2, .tmp 3] ∧ z76.rets = [[], []] ∧ z76.body = (.seq (.reg o_68_1) z74) := ⟨rfl, rfl, rfl⟩
def zbxm := rg o_69_1.eq_1 <| rg o_69_2.eq_1 <| rg o_69_3.eq_1 <| rg o_69_4.eq_1 <| xg c_69_5.eq_1 <| rg o_69_6.eq_1 <| rg o_69_7.eq_1 <| rg o_69_8.eq_1 <| xg c_69_9.eq_1 <| rg z77.eq_1 <| rg z78.eq_1 <| xg z79.eq_1 <| rg z8a.eq_1 <| rg z8b.eq_1 <| rg z8c.eq_1 <| rg z8d.eq_1 <| xg z8e.eq_1 <| rg z8f.eq_1 <| rg z8g.eq_1 <| rg z8h.eq_1 <| xg z8i.eq_1 <| rg z8j.eq_1 <| rg z8k.eq_1 <| rg z8l.eq_1 <| rg z8m.eq_1 <| rg z8n.eq_1 <| And.intro (@df_of T _ _ [(0, 9), (4, 9)] z8n.eq_1) <| rg z8o.eq_1 <| rg z8p.eq_1 <| xg z8q.eq_1 <| rg z8r.eq_1 <| rg z8s.eq_1 <| rg z8t.eq_1 <| xg z8u.eq_1 <| xg z8v.eq_1 <| xg z8w.eq_1 <| xg z8x.eq_1 <| xg z8y.eq_1 <| rg z8z.eq_1 <| rg z80.eq_1 <| xg z81.eq_1 <| rg z82.eq_1 <| rg z83.eq_1 <| rg z84.eq_1 <| xg z85.eq_1 <| rg z86.eq_1 <| xg z87.eq_1 <| xg z88.eq_1 <| xg z89.eq_1 <| xg z9a.eq_1 <| xg z9b.eq_1 <| xg z9c.eq_1 <| xg z9d.eq_1 <| xg z9e.eq_1 <| xg z9f.eq_1 <| xg z9g.eq_1 <| xg z9h.eq_1 <| rg z9i.eq_1 <| rg z9j.eq_1 <| xg z9k.eq_1 <| rg z9l.eq_1 <| rg z9m.eq_1 <| rg z9n.eq_1 <| xg z9o.eq_1 <| rg z9p.eq_1 <| xg z9q.eq_1 <| xg z9r.eq_1 <| xg z9s.eq_1 <| xg z9t.eq_1 <| xg z9u.eq_1 <| xg z9v.eq_1 <| xg z9w.eq_1 <| xg z9x.eq_1 <| xg z9y.eq_1 <| xg z9z.eq_1 <| xg z90.eq_1 <| xg z91.eq_1 <| @ex_of T _ _ z92.eq_1
def zbxn := @vd T F.zm2 z94 [0] zbqz rfl rfl
theorem zbxo : z94.res = [.cell 2 7 true, .tmp 3] ∧ z94.rets = [[], []] ∧ z94.body = (.seq (.reg o_69_1) z92) := ⟨rfl, rfl, rfl⟩
def zbxp := rg o_70_1.eq_1 <| rg o_70_2.eq_1 <| rg o_70_3.eq_1 <| rg o_70_4.eq_1 <| rg o_70_5.eq_1 <| rg o_70_6.eq_1 <| rg o_70_7.eq_1 <| rg o_70_8.eq_1 <| xg c_70_9.eq_1 <| rg z95.eq_1 <| rg z96.eq_1 <| rg z97.eq_1 <| rg z98.eq_1 <| rg z99.eq_1 <| xg zbaa.eq_1 <| xg zbab.eq_1 <| xg zbac.eq_1 <| xg zbad.eq_1 <| xg zbae.eq_1 <| xg zbaf.eq_1 <| xg zbag.eq_1 <| xg zbah.eq_1 <| xg zbai.eq_1 <| xg zbaj.eq_1 <| @ex_of T _ _ zbak.eq_1
def zbxq := @vd T F.zm9 zbam [0, 0] zbq0 rfl rfl
theorem zbxr : zbam.res = [.cell 4 7 true, .tmp 5] ∧ zbam.rets = [[], []] ∧ zbam.body = (.seq (.reg o_70_1) zbak) := ⟨rfl, rfl, rfl⟩
def zbxs := rg o_71_1.eq_1 <| rg o_71_2.eq_1 <| rg o_71_3.eq_1 <| rg o_71_4.eq_1 <| xg c_71_5.eq_1 <| rg o_71_6.eq_1 <| rg o_71_7.eq_1 <| rg o_71_8.eq_1 <| rg o_71_9.eq_1 <| xg zban.eq_1 <| rg zbao.eq_1 <| rg zbap.eq_1 <| And.intro (@df_of T _ _ [(3, 14), (5, 14)] zbap.eq_1) <| rg zbaq.eq_1 <| rg zbar.eq_1 <| xg zbas.eq_1 <| xg zbat.eq_1 <| xg zbau.eq_1 <| rg zbav.eq_1 <| xg zbaw.eq_1 <| xg zbax.eq_1 <| xg zbay.eq_1 <| xg zbaz.eq_1 <| rg zba0.eq_1 <| xg zba1.eq_1 <| xg zba2.eq_1 <| xg zba3.eq_1 <| xg zba4.eq_1 <| xg zba5.eq_1 <| @ex_of T _ _ zba6.eq_1
def zbxt := @vd T F.znj zba8 [0] zbq1 rfl rfl
theorem zbxu : zba8.res = [.tmp 2, .tmp 3] ∧ zba8.rets = [[2], []] ∧ zba8.body = (.seq (.reg o_71_1) zba6) := ⟨rfl, rfl, rfl⟩
def zbxv := rg o_72_1.eq_1 <| rg o_72_2.eq_1 <| rg o_72_3.eq_1 <| xg c_72_4.eq_1 <| @ex_of T _ _ c_72_5.eq_1
def zbxw := @vd T F.zm0 zbba [0] zbq2 rfl rfl
theorem zbxx : zbba.res = [.tmp 2] ∧ zbba.rets = [[]] ∧ zbba.body = (.seq (.reg o_72_1) c_72_5) := ⟨rfl, rfl, rfl⟩
def zbxy := rg o_73_1.eq_1 <| rg o_73_2.eq_1 <| @ex_of T _ _ c_73_3.eq_1
def zbxz := @vd T F.zk7 zbbc [0] zbq3 rfl rfl
theorem zbx0 : zbbc.res = [.tmp 2] ∧ zbbc.rets = [[]] ∧ zbbc.body = (.seq (.reg o_73_1) c_73_3) := ⟨rfl, rfl, rfl⟩
def zbx1 := rg o_74_1.eq_1 <| rg o_74_2.eq_1 <| rg o_74_3.eq_1 <| xg c_74_4.eq_1 <| rg o_74_5.eq_1 <| rg o_74_6.eq_1 <| rg o_74_7.eq_1 <| rg o_74_8.eq_1 <| rg o_74_9.eq_1 <| xg zbbd.eq_1 <| xg zbbe.eq_1 <| rg zbbf.eq_1 <| xg zbbg.eq_1 <| xg zbbh.eq_1 <| xg zbbi.eq_1 <| xg zbbj.eq_1 <| xg zbbk.eq_1 <| rg zbbl.eq_1 <| xg zbbm.eq_1 <| xg zbbn.eq_1 <| @ex_of T _ _ zbbo.eq_1
def zbx2 := @vd T F.zlc zbbq [0, 0] zbq4 rfl rfl
theorem zbx3 : zbbq.res = [.tmp 4] ∧ zbbq.rets = [[]] ∧ zbbq.body = (.seq (.reg o_74_1) zbbo) := ⟨rfl, rfl, rfl⟩
def zbx4 := rg o_75_1.eq_1 <| rg o_75_2.eq_1 <| rg o_75_3.eq_1 <| xg c_75_4.eq_1 <| rg o_75_5.eq_1 <| xg c_75_6.eq_1 <| @ex_of T _ _ c_75_7.eq_1
def zbx5 := @vd T F.zld zbbs [0] zbq5 rfl rfl
theorem zbx6 : zbbs.res = [.tmp 2] ∧ zbbs.rets = [[2]] ∧ zbbs.body = (.seq (.reg o_75_1) c_75_7) := ⟨rfl, rfl, rfl⟩
def zbx7 := rg o_76_1.eq_1 <| rg o_76_2.eq_1 <| rg o_76_3.eq_1 <| rg o_76_4.eq_1 <| rg o_76_5.eq_1 <| rg o_76_6.eq_1 <| rg o_76_7.eq_1 <| rg o_76_8.eq_1 <| xg c_76_9.eq_1 <| rg zbbt.eq_1 <| xg zbbu.eq_1 <| rg zbbv.eq_1 <| xg zbbw.eq_1 <| xg zbbx.eq_1 <| xg zbby.eq_1 <| rg zbbz.eq_1 <| xg zbb0.eq_1 <| rg zbb1.eq_1 <| xg zbb2.eq_1 <| xg zbb3.eq_1 <| xg zbb4.eq_1 <| xg zbb5.eq_1 <| rg zbb6.eq_1 <| xg zbb7.eq_1 <| xg zbb8.eq_1 <| xg zbb9.eq_1 <| xg zbca.eq_1 <| xg zbcb.eq_1 <| rg zbcc.eq_1 <| xg zbcd.eq_1 <| xg zbce.eq_1 <| @ex_of T _ _ zbcf.eq_1
def zbx8 := @vd T F.zk9 zbch [0] zbq6 rfl rfl
theorem zbx9 : zbch.res = [.tmp 2, .tmp 3] ∧ zbch.rets = [[], []] ∧ zbch.body = (.seq (.reg o_76_1) zbcf) := ⟨rfl, rfl, rfl⟩
def zbya := rg o_77_1.eq_1 <| rg o_77_2.eq_1 <| rg o_77_3.eq_1 <| rg o_77_4.eq_1 <| rg o_77_5.eq_1 <| rg o_77_6.eq_1 <| rg o_77_7.eq_1 <| rg o_77_8.eq_1 <| rg o_77_9.eq_1 <| rg zbci.eq_1 <| rg zbcj.eq_1 <| rg zbck.eq_1 <| rg zbcl.eq_1 <| rg zbcm.eq_1 <| xg zbcn.eq_1 <| rg zbco.eq_1 <| xg zbcp.eq_1 <| xg zbcq.eq_1 <| rg zbcr.eq_1 <| xg zbcs.eq_1 <| xg zbct.eq_1 <| xg zbcu.eq_1 <| xg zbcv.eq_1 <| xg zbcw.eq_1 <| rg zbcx.eq_1 <| xg zbcy.eq_1 <| xg zbcz.eq_1 <| xg zbc0.eq_1 <| xg zbc1.eq_1 <| xg zbc2.eq_1 <| xg zbc3.eq_1 <| xg zbc4.eq_1 <| xg zbc5.eq_1 <| xg zbc6.eq_1 <| @ex_of T _ _ zbc7.eq_1
def zbyb := @vd T F.zlm zbc9 [0] zbq7 rfl rfl
theorem zbyc : zbc9.res = [.cell 2 7 true, .tmp 3] ∧ zbc9.rets = [[], []] ∧ zbc9.body = (.seq (.reg o_77_1) zbc7) := ⟨rfl, rfl, rfl⟩
def zbyd := rg o_78_1.eq_1 <| rg o_78_2.eq_1 <| rg o_78_3.eq_1 <| xg c_78_4.eq_1 <| rg o_78_5.eq_1 <| rg o_78_6.eq_1 <| rg o_78_7.eq_1 <| rg o_78_8.eq_1 <| rg o_78_9.eq_1 <| xg zbda.eq_1 <| xg zbdb.eq_1 <| rg zbdc.eq_1 <| rg zbdd.eq_1 <| rg zbde.eq_1 <| xg zbdf.eq_1 <| rg zbdg.eq_1 <| xg zbdh.eq_1 <| xg zbdi.eq_1 <| xg zbdj.eq_1 <| xg zbdk.eq_1 <| xg zbdl.eq_1 <| @ex_of T _ _ zbdm.eq_1
def zbye := @vd T F.zlx zbdo [0] zbq8 rfl rfl
theorem zbyf : zbdo.res = [.cell 2 7 true, .tmp 3] ∧ zbdo.rets = [[], []] ∧ zbdo.body = (.seq (.reg o_78_1) zbdm) := ⟨rfl, rfl, rfl⟩
def zbyg := rg o_79_1.eq_1 <| rg o_79_2.eq_1 <| @ex_of T _ _ c_79_3.eq_1
def zbyh := @vd T F.zkg zbdq [0] zbq9 rfl rfl
theorem zbyi : zbdq.res = [.tmp 2] ∧ zbdq.rets = [[]] ∧ zbdq.body = (.seq (.reg o_79_1) c_79_3) := ⟨rfl, rfl, rfl⟩
def zbyj := rg o_80_1.eq_1 <| rg o_80_2.eq_1 <| rg o_80_3.eq_1 <| rg o_80_4.eq_1 <| rg o_80_5.eq_1 <| rg o_80_6.eq_1 <| xg c_80_7.eq_1 <| xg c_80_8.eq_1 <| rg o_80_9.eq_1 <| xg zbdr.eq_1 <| xg zbds.eq_1 <| xg zbdt.eq_1 <| xg zbdu.eq_1 <| xg zbdv.eq_1 <| rg zbdw.eq_1 <| xg zbdx.eq_1 <| @ex_of T _ _ zbdy.eq_1
def zbyk := @vd T F.zkm zbd0 [0] zbra rfl rfl
theorem zbyl : zbd0.res = [.tmp 2] ∧ zbd0.rets = [[]] ∧ zbd0.body = (.seq (.reg o_80_1) zbdy) := ⟨rfl, rfl, rfl⟩
def zbym := rg o_81_1.eq_1 <| rg o_81_2.eq_1 <| @ex_of T _ _ c_81_3.eq_1
def zbyn := @vd T F.zko zbd2 [2, 0] zbrb rfl rfl
theorem zbyo : zbd2.res = [.tmp 4] ∧ zbd2.rets = [[2]] ∧ zbd2.body = (.seq (.reg o_81_1) c_81_3) := ⟨rfl, rfl, rfl⟩
def zbyp := rg o_82_1.eq_1 <| rg o_82_2.eq_1 <| rg o_82_3.eq_1 <| xg c_82_4.eq_1 <| rg o_82_5.eq_1 <| And.intro (@df_of T _ _ [(5, 3), (8, 3), (8, 6)] o_82_5.eq_1) <| xg c_82_6.eq_1 <| @ex_of T _ _ c_82_7.eq_1
def zbyq := @vd T F.zkp zbd4 [2, 0] zbrc rfl rfl
theorem zbyr : zbd4.res = [.tmp 4, .tmp 5] ∧ zbd4.rets = [[2], []] ∧ zbd4.body = (.seq (.reg o_82_1) c_82_7) := ⟨rfl, rfl, rfl⟩
def zbys := rg o_83_1.eq_1 <| rg o_83_2.eq_1 <| rg o_83_3.eq_1 <| rg o_83_4.eq_1 <| xg c_83_5.eq_1 <| rg o_83_6.eq_1 <| xg c_83_7.eq_1 <| xg c_83_8.eq_1 <| @ex_of T _ _ c_83_9.eq_1
def zbyt := @vd T F.zks zbd6 [0] zbrd rfl rfl
theorem zbyu : zbd6.res = [.tmp 2] ∧ zbd6.rets = [[2]] ∧ zbd6.body = (.seq (.reg o_83_1) c_83_9) := ⟨rfl, rfl, rfl⟩
def zbyv := rg o_84_1.eq_1 <| rg o_84_2.eq_1 <| rg o_84_3.eq_1 <| rg o_84_4.eq_1 <| rg o_84_5.eq_1 <| rg o_84_6.eq_1 <| rg o_84_7.eq_1 <| rg o_84_8.eq_1 <| rg o_84_9.eq_1 <| rg zbd7.eq_1 <| rg zbd8.eq_1 <| rg zbd9.eq_1 <| xg zbea.eq_1 <| xg zbeb.eq_1 <| xg zbec.eq_1 <| xg zbed.eq_1 <| xg zbee.eq_1 <| xg zbef.eq_1 <| rg zbeg.eq_1 <| xg zbeh.eq_1 <| xg zbei.eq_1 <| @ex_of T _ _ zbej.eq_1
def zbyw := @vd T F.zkt zbel [2, 0, 0] zbre rfl rfl
theorem zbyx : zbel.res = [.tmp 6] ∧ zbel.rets = [[2]] ∧ zbel.body = (.seq (.reg o_84_1) zbej) := ⟨rfl, rfl, rfl⟩
def zbyy := rg o_85_1.eq_1 <| rg o_85_2.eq_1 <| @ex_of T _ _ c_85_3.eq_1
def zbyz := @vd T F.zj6 zben [0] zbrf rfl rfl
theorem zby0 : zben.res = [.tmp 2] ∧ zben.rets = [[2]] ∧ zben.body = (.seq (.reg o_85_1) c_85_3) := ⟨rfl, rfl, rfl⟩
def zby1 := rg o_86_1.eq_1 <| rg o_86_2.eq_1 <| rg o_86_3.eq_1 <| rg o_86_4.eq_1 <| rg o_86_5.eq_1 <| rg o_86_6.eq_1 <| rg o_86_7.eq_1 <| xg c_86_8.eq_1 <| rg o_86_9.eq_1 <| xg zbeo.eq_1 <| xg zbep.eq_1 <| xg zbeq.eq_1 <| xg zber.eq_1 <| xg zbes.eq_1 <| rg zbet.eq_1 <| xg zbeu.eq_1 <| xg zbev.eq_1 <| xg zbew.eq_1 <| @ex_of T _ _ zbex.eq_1
def zby2 := @vd T F.zj2 zbez [0, 0] zbrg rfl rfl
theorem zby3 : zbez.res = [.tmp 4] ∧ zbez.rets = [[]] ∧ zbez.body = (.seq (.reg o_86_1) zbex) := ⟨rfl, rfl, rfl⟩
def zby4 := rg o_87_1.eq_1 <| rg o_87_2.eq_1 <| @ex_of T _ _ c_87_3.eq_1
def zby5 := @vd T F.zj3 zbe1 [0] zbrh rfl rfl
theorem zby6 : zbe1.res = [.tmp 2] ∧ zbe1.rets = [[]] ∧ zbe1.body = (.seq (.reg o_87_1) c_87_3) := ⟨rfl, rfl, rfl⟩
def zby7 := rg o_88_1.eq_1 <| rg o_88_2.eq_1 <| @ex_of T _ _ c_88_3.eq_1
def zby8 := @vd T F.zmt zbe3 [0, 0] zbri rfl rfl
theorem zby9 : zbe3.res = [.tmp 4] ∧ zbe3.rets = [[]] ∧ zbe3.body = (.seq (.reg o_88_1) c_88_3) := ⟨rfl, rfl, rfl⟩
def zbza := rg o_89_1.eq_1 <| rg o_89_2.eq_1 <| rg o_89_3.eq_1 <| rg o_89_4.eq_1 <| rg o_89_5.eq_1 <| rg o_89_6.eq_1 <| rg o_89_7.eq_1 <| rg o_89_8.eq_1 <| rg o_89_9.eq_1 <| rg zbe4.eq_1 <| rg zbe5.eq_1 <| rg zbe6.eq_1 <| rg zbe7.eq_1 <| xg zbe8.eq_1 <| xg zbe9.eq_1 <| rg zbfa.eq_1 <| rg zbfb.eq_1 <| rg zbfc.eq_1 <| rg zbfd.eq_1 <| xg zbfe.eq_1 <| xg zbff.eq_1 <| xg zbfg.eq_1 <| xg zbfh.eq_1 <| xg zbfi.eq_1 <| xg zbfj.eq_1 <| xg zbfk.eq_1 <| xg zbfl.eq_1 <| rg zbfm.eq_1 <| xg zbfn.eq_1 <| xg zbfo.eq_1 <| @ex_of T _ _ zbfp.eq_1
def zbzb := @vd T F.zmz zbfr [0, 0, 0] zbrj rfl rfl
theorem zbzc : zbfr.res = [.cell 6 7 true, .tmp 7] ∧ zbfr.rets = [[], []] ∧ zbfr.body = (.seq (.reg o_89_1) zbfp) := ⟨rfl, rfl, rfl⟩
def zbzd := rg o_90_1.eq_1 <| rg o_90_2.eq_1 <| rg o_90_3.eq_1 <| rg o_90_4.eq_1 <| xg c_90_5.eq_1 <| rg o_90_6.eq_1 <| xg c_90_7.eq_1 <| xg c_90_8.eq_1 <| @ex_of T _ _ c_90_9.eq_1
def zbze := @vd T F.zmv zbft [0] zbrk rfl rfl
theorem zbzf : zbft.res = [.tmp 2, .tmp 3] ∧ zbft.rets = [[], []] ∧ zbft.body = (.seq (.reg o_90_1) c_90_9) := ⟨rfl, rfl, rfl⟩
def zbzg := rg o_91_1.eq_1 <| rg o_91_2.eq_1 <| rg o_91_3.eq_1 <| rg o_91_4.eq_1 <| rg o_91_5.eq_1 <| rg o_91_6.eq_1 <| rg o_91_7.eq_1 <| rg o_91_8.eq_1 <| xg c_91_9.eq_1 <| rg zbfu.eq_1 <| xg zbfv.eq_1 <| xg zbfw.eq_1 <| xg zbfx.eq_1 <| xg zbfy.eq_1 <| xg zbfz.eq_1 <| xg zbf0.eq_1 <| @ex_of T _ _ zbf1.eq_1
def zbzh := @vd T F.zmy zbf3 [0] zbrl rfl rfl
theorem zbzi : zbf3.res = [.cell 2 3 true, .tmp 3] ∧ zbf3.rets = [[], []] ∧ zbf3.body = (.seq (.reg o_91_1) zbf1) := ⟨rfl, rfl, rfl⟩
def zbzj := rg o_92_1.eq_1 <| rg o_92_2.eq_1 <| rg o_92_3.eq_1 <| xg c_92_4.eq_1 <| rg o_92_5.eq_1 <| rg o_92_6.eq_1 <| xg c_92_7.eq_1 <| rg o_92_8.eq_1 <| xg c_92_9.eq_1 <| xg zbf4.eq_1 <| xg zbf5.eq_1 <| xg zbf6.eq_1 <| rg zbf7.eq_1 <| xg zbf8.eq_1 <| @ex_of T _ _ zbf9.eq_1
def zbzk := @vd T F.zm8 zbgb [0, 0] zbrm rfl rfl
theorem zbzl : zbgb.res = [.tmp 4] ∧ zbgb.rets = [[]] ∧ zbgb.body = (.seq (.reg o_92_1) zbf9) := ⟨rfl, rfl, rfl⟩
def zbzm := rg o_93_1.eq_1 <| rg o_93_2.eq_1 <| rg o_93_3.eq_1 <| xg c_93_4.eq_1 <| rg o_93_5.eq_1 <| rg o_93_6.eq_1 <| xg c_93_7.eq_1 <| rg o_93_8.eq_1 <| rg o_93_9.eq_1 <| rg zbgc.eq_1 <| xg zbgd.eq_1 <| xg zbge.eq_1 <| rg zbgf.eq_1 <| xg zbgg.eq_1 <| xg zbgh.eq_1 <| xg zbgi.eq_1 <| xg zbgj.eq_1 <| rg zbgk.eq_1 <| xg zbgl.eq_1 <| xg zbgm.eq_1 <| @ex_of T _ _ zbgn.eq_1
def zbzn := @vd T F.znb zbgp [0] zbrn rfl rfl
theorem zbzo : zbgp.res = [.tmp 2] ∧ zbgp.rets = [[]] ∧ zbgp.body = (.seq (.reg o_93_1) zbgn) := ⟨rfl, rfl, rfl⟩
def zbzp := rg o_94_1.eq_1 <| rg o_94_2.eq_1 <| rg o_94_3.eq_1 <| xg c_94_4.eq_1 <| @ex_of T _ _ c_94_5.eq_1
def zbzq := @vd T F.zng zbgr [0, 0] zbro rfl rfl
theorem zbzr : zbgr.res = [.tmp 4] ∧ zbgr.rets = [[2]] ∧ zbgr.body = (.seq (.reg o_94_1) c_94_5) := ⟨rfl, rfl, rfl⟩
def zbzs := rg o_95_1.eq_1 <| rg o_95_2.eq_1 <| rg o_95_3.eq_1 <| rg o_95_4.eq_1 <| rg o_95_5.eq_1 <| xg c_95_6.eq_1 <| rg o_95_7.eq_1 <| rg o_95_8.eq_1 <| rg o_95_9.eq_1 <| xg zbgs.eq_1 <| xg zbgt.eq_1 <| xg zbgu.eq_1 <| xg zbgv.eq_1 <| xg zbgw.eq_1 <| @ex_of T _ _ zbgx.eq_1
def zbzt := @vd T F.znh zbgz [0, 0] zbrp rfl rfl
theorem zbzu : zbgz.res = [.tmp 4, .tmp 5] ∧ zbgz.rets = [[2], []] ∧ zbgz.body = (.seq (.reg o_95_1) zbgx) := ⟨rfl, rfl, rfl⟩
def zbzv := rg o_96_1.eq_1 <| rg o_96_2.eq_1 <| And.intro (@dr_of T _ _ [(10, 13), (18, 21)] o_96_2.eq_1 (by decide)) <| @ex_of T _ _ c_96_3.eq_1
def zbzw := @vd T F.zmx zbg1 [0] zbrq rfl rfl
theorem zbzx : zbg1.res = [.tmp 2] ∧ zbg1.rets = [[]] ∧ zbg1.body = (.seq (.reg o_96_1) c_96_3) := ⟨rfl, rfl, rfl⟩
def zbzy := rg o_97_1.eq_1 <| rg o_97_2.eq_1 <| @ex_of T _ _ c_97_3.eq_1
def zbzz := @vi T F.zon zbg3 zbrr rfl
theorem zbz0 {n : Nat} {H : Hp} {vs : List V} : (orc T (n + 1)).inl F.zon vs H = finI H.length false [.tmp 4] (unw T (orc T n) n H.length [] (exec T (orc T n) n H.length (.seq (.reg o_97_1) c_97_3) (params 0 vs) H)) := by rw [zh5, zbrr, y4, zh3]; rfl
def zbz1 := rg o_98_1.eq_1 <| rg o_98_2.eq_1 <| @ex_of T _ _ c_98_3.eq_1
def zbz2 := @vd T F.zk4 zbg5 [0] zbrs rfl rfl
theorem zbz3 : zbg5.res = [.tmp 2] ∧ zbg5.rets = [[]] ∧ zbg5.body = (.seq (.reg o_98_1) c_98_3) := ⟨rfl, rfl, rfl⟩
def zbz4 := rg o_99_1.eq_1 <| rg o_99_2.eq_1 <| rg o_99_3.eq_1 <| rg o_99_4.eq_1 <| xg c_99_5.eq_1 <| rg o_99_6.eq_1 <| xg c_99_7.eq_1 <| xg c_99_8.eq_1 <| @ex_of T _ _ c_99_9.eq_1
def zbz5 := @vd T F.zlj zbg7 [0] zbrt rfl rfl
theorem zbz6 : zbg7.res = [.tmp 2, .tmp 3] ∧ zbg7.rets = [[], []] ∧ zbg7.body = (.seq (.reg o_99_1) c_99_9) := ⟨rfl, rfl, rfl⟩
def zbz7 := rg zbg8.eq_1 <| rg zbg9.eq_1 <| rg zbha.eq_1 <| rg zbhb.eq_1 <| rg zbhc.eq_1 <| rg zbhd.eq_1 <| rg zbhe.eq_1 <| rg zbhf.eq_1 <| xg zbhg.eq_1 <| rg zbhh.eq_1 <| And.intro (@df_of T _ _ [(0, 4), (2, 4), (2, 6)] zbhh.eq_1) <| xg zbhi.eq_1 <| xg zbhj.eq_1 <| xg zbhk.eq_1 <| xg zbhl.eq_1 <| xg zbhm.eq_1 <| xg zbhn.eq_1 <| @ex_of T _ _ zbho.eq_1
def zbz8 := @vd T F.zlk zbhq [0] zbru rfl rfl
theorem zbz9 : zbhq.res = [.cell 2 3 true, .tmp 3] ∧ zbhq.rets = [[], []] ∧ zbhq.body = (.seq (.reg zbg8) zbho) := ⟨rfl, rfl, rfl⟩
def zb0a := rg zbhr.eq_1 <| rg zbhs.eq_1 <| rg zbht.eq_1 <| rg zbhu.eq_1 <| xg zbhv.eq_1 <| rg zbhw.eq_1 <| rg zbhx.eq_1 <| rg zbhy.eq_1 <| xg zbhz.eq_1 <| rg zbh0.eq_1 <| rg zbh1.eq_1 <| rg zbh2.eq_1 <| rg zbh3.eq_1 <| rg zbh4.eq_1 <| rg zbh5.eq_1 <| xg zbh6.eq_1 <| rg zbh7.eq_1 <| rg zbh8.eq_1 <| rg zbh9.eq_1 <| xg zbia.eq_1 <| xg zbib.eq_1 <| xg zbic.eq_1 <| rg zbid.eq_1 <| rg zbie.eq_1 <| xg zbif.eq_1 <| rg zbig.eq_1 <| xg zbih.eq_1 <| xg zbii.eq_1 <| xg zbij.eq_1 <| xg zbik.eq_1 <| xg zbil.eq_1 <| xg zbim.eq_1 <| xg zbin.eq_1 <| xg zbio.eq_1 <| xg zbip.eq_1 <| rg zbiq.eq_1 <| rg zbir.eq_1 <| rg zbis.eq_1 <| rg zbit.eq_1 <| xg zbiu.eq_1 <| xg zbiv.eq_1 <| rg zbiw.eq_1 <| xg zbix.eq_1 <| xg zbiy.eq_1 <| xg zbiz.eq_1 <| @ex_of T _ _ zbi0.eq_1
def zb0b := @vd T F.zlw zbi2 [0, 0] zbrv rfl rfl
theorem zb0c : zbi2.res = [.cell 4 7 true, .tmp 5] ∧ zbi2.rets = [[], []] ∧ zbi2.body = (.seq (.reg zbhr) zbi0) := ⟨rfl, rfl, rfl⟩
def zb0d := rg zbi3.eq_1 <| rg zbi4.eq_1 <| @ex_of T _ _ zbi5.eq_1
def zb0e := @vd T F.zkn zbi7 [0] zbrw rfl rfl
theorem zb0f : zbi7.res = [.tmp 2] ∧ zbi7.rets = [[]] ∧ zbi7.body = (.seq (.reg zbi3) zbi5) := ⟨rfl, rfl, rfl⟩
def zb0g := rg zbi8.eq_1 <| rg zbi9.eq_1 <| rg zbja.eq_1 <| rg zbjb.eq_1 <| rg zbjc.eq_1 <| rg zbjd.eq_1 <| xg zbje.eq_1 <| rg zbjf.eq_1 <| xg zbjg.eq_1 <| xg zbjh.eq_1 <| xg zbji.eq_1 <| xg zbjj.eq_1 <| xg zbjk.eq_1 <| rg zbjl.eq_1 <| xg zbjm.eq_1 <| xg zbjn.eq_1 <| @ex_of T _ _ zbjo.eq_1
def zb0h := @vd T F.zj5 zbjq [0, 0] zbrx rfl rfl
theorem zb0i : zbjq.res = [.tmp 4] ∧ zbjq.rets = [[2]] ∧ zbjq.body = (.seq (.reg zbi8) zbjo) := ⟨rfl, rfl, rfl⟩
def zb0j := rg zbjr.eq_1 <| rg zbjs.eq_1 <| rg zbjt.eq_1 <| rg zbju.eq_1 <| rg zbjv.eq_1 <| rg zbjw.eq_1 <| rg zbjx.eq_1 <| rg zbjy.eq_1 <| rg zbjz.eq_1 <| rg zbj0.eq_1 <| xg zbj1.eq_1 <| rg zbj2.eq_1 <| xg zbj3.eq_1 <| xg zbj4.eq_1 <| xg zbj5.eq_1 <| xg zbj6.eq_1 <| xg zbj7.eq_1 <| rg zbj8.eq_1 <| xg zbj9.eq_1 <| xg zbka.eq_1 <| xg zbkb.eq_1 <| rg zbkc.eq_1 <| xg zbkd.eq_1 <| xg zbke.eq_1 <| xg zbkf.eq_1 <| xg zbkg.eq_1 <| xg zbkh.eq_1 <| rg zbki.eq_1 <| xg zbkj.eq_1 <| xg zbkk.eq_1 <| @ex_of T _ _ zbkl.eq_1
def zb0k := @vd T F.zj0 zbkn [] zbry rfl rfl
theorem zb0l : zbkn.res = [.cell 0 256 true] ∧ zbkn.rets = [[]] ∧ zbkn.body = (.seq (.reg zbjr) zbkl) := ⟨rfl, rfl, rfl⟩
def zb0m := rg zbko.eq_1 <| rg zbkp.eq_1 <| rg zbkq.eq_1 <| xg zbkr.eq_1 <| rg zbks.eq_1 <| xg zbkt.eq_1 <| @ex_of T _ _ zbku.eq_1
def zb0n := @vd T F.zmu zbkw [0] zbrz rfl rfl
theorem zb0o : zbkw.res = [.tmp 2] ∧ zbkw.rets = [[]] ∧ zbkw.body = (.seq (.reg zbko) zbku) := ⟨rfl, rfl, rfl⟩
def zb0p := rg zbkx.eq_1 <| rg zbky.eq_1 <| rg zbkz.eq_1 <| xg zbk0.eq_1 <| rg zbk1.eq_1 <| xg zbk2.eq_1 <| @ex_of T _ _ zbk3.eq_1
def zb0q := @vd T F.znf zbk5 [0] zbr0 rfl rfl
theorem zb0r : zbk5.res = [.tmp 2] ∧ zbk5.rets = [[]] ∧ zbk5.body = (.seq (.reg zbkx) zbk3) := ⟨rfl, rfl, rfl⟩
def zb0s := rg zbk6.eq_1 <| rg zbk7.eq_1 <| rg zbk8.eq_1 <| xg zbk9.eq_1 <| rg zbla.eq_1 <| rg zblb.eq_1 <| xg zblc.eq_1 <| rg zbld.eq_1 <| xg zble.eq_1 <| xg zblf.eq_1 <| @ex_of T _ _ zblg.eq_1
def zb0t := @vd T F.zmw zbli [0] zbr1 rfl rfl
theorem zb0u : zbli.res = [.tmp 2] ∧ zbli.rets = [[]] ∧ zbli.body = (.seq (.reg zbk6) zblg) := ⟨rfl, rfl, rfl⟩
def zb0v := rg zblj.eq_1 <| rg zblk.eq_1 <| rg zbll.eq_1 <| rg zblm.eq_1 <| rg zbln.eq_1 <| rg zblo.eq_1 <| xg zblp.eq_1 <| xg zblq.eq_1 <| rg zblr.eq_1 <| xg zbls.eq_1 <| xg zblt.eq_1 <| xg zblu.eq_1 <| xg zblv.eq_1 <| xg zblw.eq_1 <| rg zblx.eq_1 <| xg zbly.eq_1 <| @ex_of T _ _ zblz.eq_1
def zb0w := @vi T F.zoo zbl1 zbr2 rfl
theorem zb0x {n : Nat} {H : Hp} {vs : List V} : (orc T (n + 1)).inl F.zoo vs H = finI H.length false [.tmp 4] (unw T (orc T n) n H.length [] (exec T (orc T n) n H.length (.seq (.reg zblj) zblz) (params 0 vs) H)) := by rw [zh5, zbr2, y4, zh3]; rfl
def zb0y := rg zbl2.eq_1 <| rg zbl3.eq_1 <| @ex_of T _ _ zbl4.eq_1
def zb0z := @vd T F.zli zbl6 [0] zbr3 rfl rfl
theorem zb00 : zbl6.res = [.tmp 2] ∧ zbl6.rets = [[]] ∧ zbl6.body = (.seq (.reg zbl2) zbl4) := ⟨rfl, rfl, rfl⟩
def zb01 := rg zbl7.eq_1 <| rg zbl8.eq_1 <| rg zbl9.eq_1 <| rg zbma.eq_1 <| xg zbmb.eq_1 <| xg zbmc.eq_1 <| @ex_of T _ _ zbmd.eq_1
def zb02 := @vi T F.zop zbmf zbr4 rfl
theorem zb03 {n : Nat} {H : Hp} {vs : List V} : (orc T (n + 1)).inl F.zop vs H = finI H.length false [.tmp 2, .tmp 3, .tmp 4] (unw T (orc T n) n H.length [] (exec T (orc T n) n H.length (.seq (.reg zbl7) zbmd) (params 0 vs) H)) := by rw [zh5, zbr4, y4, zh3]; rfl
def zb04 := rg zbmg.eq_1 <| rg zbmh.eq_1 <| rg zbmi.eq_1 <| xg zbmj.eq_1 <| rg zbmk.eq_1 <| xg zbml.eq_1 <| @ex_of T _ _ zbmm.eq_1
def zb05 := @vd T F.zlq zbmo [0] zbr5 rfl rfl
theorem zb06 : zbmo.res = [.tmp 2] ∧ zbmo.rets = [[2]] ∧ zbmo.body = (.seq (.reg zbmg) zbmm) := ⟨rfl, rfl, rfl⟩
def zb07 := rg zbmp.eq_1 <| rg zbmq.eq_1 <| rg zbmr.eq_1 <| rg zbms.eq_1 <| rg zbmt.eq_1 <| rg zbmu.eq_1 <| xg zbmv.eq_1 <| xg zbmw.eq_1 <| rg zbmx.eq_1 <| xg zbmy.eq_1 <| xg zbmz.eq_1 <| xg zbm0.eq_1 <| xg zbm1.eq_1 <| xg zbm2.eq_1 <| rg zbm3.eq_1 <| xg zbm4.eq_1 <| @ex_of T _ _ zbm5.eq_1
def zb08 := @vd T F.zls zbm7 [0, 0] zbr6 rfl rfl
theorem zb09 : zbm7.res = [.tmp 4] ∧ zbm7.rets = [[]] ∧ zbm7.body = (.seq (.reg zbmp) zbm5) := ⟨rfl, rfl, rfl⟩
def zb1a := rg zbm8.eq_1 <| rg zbm9.eq_1 <| rg zbna.eq_1 <| rg zbnb.eq_1 <| xg zbnc.eq_1 <| rg zbnd.eq_1 <| rg zbne.eq_1 <| rg zbnf.eq_1 <| rg zbng.eq_1 <| xg zbnh.eq_1 <| xg zbni.eq_1 <| xg zbnj.eq_1 <| xg zbnk.eq_1 <| xg zbnl.eq_1 <| @ex_of T _ _ zbnm.eq_1
def zb1b := @vd T F.zlt zbno [2, 0, 0] zbr7 rfl rfl
theorem zb1c : zbno.res = [.tmp 6] ∧ zbno.rets = [[2]] ∧ zbno.body = (.seq (.reg zbm8) zbnm) := ⟨rfl, rfl, rfl⟩
def zb1d := rg zbnp.eq_1 <| rg zbnq.eq_1 <| rg zbnr.eq_1 <| rg zbns.eq_1 <| rg zbnt.eq_1 <| rg zbnu.eq_1 <| rg zbnv.eq_1 <| rg zbnw.eq_1 <| rg zbnx.eq_1 <| rg zbny.eq_1 <| rg zbnz.eq_1 <| rg zbn0.eq_1 <| xg zbn1.eq_1 <| xg zbn2.eq_1 <| xg zbn3.eq_1 <| xg zbn4.eq_1 <| xg zbn5.eq_1 <| xg zbn6.eq_1 <| rg zbn7.eq_1 <| xg zbn8.eq_1 <| @ex_of T _ _ zbn9.eq_1
def zb1e := @vi T F.zoq zbob zbr8 rfl
theorem zb1f {n : Nat} {H : Hp} {vs : List V} : (orc T (n + 1)).inl F.zoq vs H = finI H.length false [.tmp 6] (unw T (orc T n) n H.length [] (exec T (orc T n) n H.length (.seq (.reg zbnp) zbn9) (params 0 vs) H)) := by rw [zh5, zbr8, y4, zh3]; rfl
def zb1g := rg zboc.eq_1 <| rg zbod.eq_1 <| rg zboe.eq_1 <| rg zbof.eq_1 <| xg zbog.eq_1 <| rg zboh.eq_1 <| xg zboi.eq_1 <| xg zboj.eq_1 <| @ex_of T _ _ zbok.eq_1
def zb1h := @vd T F.zlu zbom [0] zbr9 rfl rfl
theorem zb1i : zbom.res = [.tmp 2] ∧ zbom.rets = [[]] ∧ zbom.body = (.seq (.reg zboc) zbok) := ⟨rfl, rfl, rfl⟩
def zb1j := rg zbon.eq_1 <| rg zboo.eq_1 <| rg zbop.eq_1 <| rg zboq.eq_1 <| rg zbor.eq_1 <| xg zbos.eq_1 <| xg zbot.eq_1 <| xg zbou.eq_1 <| @ex_of T _ _ zbov.eq_1
def zb1k := @vi T F.zor zbox zbsa rfl
theorem zb1l {n : Nat} {H : Hp} {vs : List V} : (orc T (n + 1)).inl F.zor vs H = finI H.length false [.tmp 4] (unw T (orc T n) n H.length [] (exec T (orc T n) n H.length (.seq (.reg zbon) zbov) (params 0 vs) H)) := by rw [zh5, zbsa, y4, zh3]; rfl
def zb1m := rg zboy.eq_1 <| rg zboz.eq_1 <| @ex_of T _ _ zbo0.eq_1
def zb1n := @vi T F.zos zbo2 zbsb rfl
theorem zb1o {n : Nat} {H : Hp} {vs : List V} : (orc T (n + 1)).inl F.zos vs H = finI H.length false [.tmp 1] (unw T (orc T n) n H.length [] (exec T (orc T n) n H.length (.seq (.reg zboy) zbo0) (params 0 vs) H)) := by rw [zh5, zbsb, y4, zh3]; rfl
def zb1p := rg zbo3.eq_1 <| rg zbo4.eq_1 <| @ex_of T _ _ zbo5.eq_1
def zb1q := @vi T F.zot zbo7 zbsc rfl
theorem zb1r {n : Nat} {H : Hp} {vs : List V} : (orc T (n + 1)).inl F.zot vs H = finI H.length false [.tmp 1] (unw T (orc T n) n H.length [] (exec T (orc T n) n H.length (.seq (.reg zbo3) zbo5) (params 0 vs) H)) := by rw [zh5, zbsc, y4, zh3]; rfl
end Go.Dvm.C
