/- What each piece of the code comes to: part 1. -/
import Derived.Test.YtngajodhbioheaaQc0
set_option linter.all false
set_option maxRecDepth 100000
set_option maxHeartbeats 4000000
namespace Go.Dvm.C
open Go Go.Dvm
def ke := And.intro @Ow.enc.eq_1 <| And.intro @Sl.enc.eq_1 <| And.intro @I.zjp.enc.eq_1 <| And.intro @I.zjq.enc.eq_1 <| And.intro @I.zjr.enc.eq_1 <| And.intro @I.zjs.enc.eq_1 <| And.intro @I.zju.enc.eq_1 <| And.intro @I.zjt.enc.eq_1 <| And.intro @arrEnc.eq_1 <| @I.zjv.enc.eq_1
def kf := And.intro @ke @kn
def tab : List (Nat × MFun) := [(8, zpi), (17, zpm), (19, zqj), (21, zq7), (22, zq9), (24, zry), (25, zr0), (26, zse), (27, ztc), (31, ztg), (33, zti), (34, zuu), (35, zvc), (36, zve), (40, zvo), (42, zvq), (45, zvs), (46, zvu), (47, zvw), (48, zv0), (49, zv4), (50, zv6), (52, zwr), (53, zw1), (56, zxs), (57, zx6), (58, zyo), (59, zzs), (60, zzu), (61, zz2), (62, zz4), (63, zz6), (67, z0q), (68, z0s), (69, z0u), (70, z04), (71, z06), (72, z07), (73, z1t), (74, z1v), (75, z1x), (76, z15), (77, z2t), (78, z4d), (79, z4r), (81, z4t), (83, z4v), (84, z4x), (86, z47), (87, z49), (91, z50), (94, z52), (95, z54), (96, z56), (97, z58), (98, z6k), (99, z6m), (105, z60), (106, z65), (107, z7g), (108, z73), (109, z78), (110, z8h), (111, z8u), (112, z8z), (113, z84), (114, z89), (115, z9s), (116, z95), (117, zbaa), (125, zbaf), (126, zbau), (127, zba3), (128, zbbk), (129, zbb1), (130, zbcc), (131, zbcv), (132, zbc6), (133, zbdh), (135, zbd0), (136, zbel), (142, zbez), (145, zbfi), (151, zbfn), (152, zbfs), (153, zbgq), (154, zbgv), (155, zbg4), (156, zbhf), (157, zbhk), (163, zbh7), (164, zbi6), (165, zbjh), (167, zbke), (170, zbkx), (171, zbk2), (173, zblb)]
abbrev T : Nat → Option MFun := look tab
theorem zblc : T F.zox = some zpi := rfl
theorem zbld : T F.zk7 = some zpm := rfl
theorem zble : T F.zkj = some zqj := rfl
theorem zblf : T F.zlc = some zq7 := rfl
theorem zblg : T F.zj6 = some zq9 := rfl
theorem zblh : T F.zk0 = some zry := rfl
theorem zbli : T F.zk6 = some zr0 := rfl
theorem zblj : T F.znc = some zse := rfl
theorem zblk : T F.znt = some ztc := rfl
theorem zbll : T F.zkx = some ztg := rfl
theorem zblm : T F.znu = some zti := rfl
theorem zbln : T F.zod = some zuu := rfl
theorem zblo : T F.zov = some zvc := rfl
theorem zblp : T F.zow = some zve := rfl
theorem zblq : T F.zk9 = some zvo := rfl
theorem zblr : T F.zk3 = some zvq := rfl
theorem zbls : T F.zoy = some zvs := rfl
theorem zblt : T F.zj9 = some zvu := rfl
theorem zblu : T F.zoz = some zvw := rfl
theorem zblv : T F.zkb = some zv0 := rfl
theorem zblw : T F.zkd = some zv4 := rfl
theorem zblx : T F.zke = some zv6 := rfl
theorem zbly : T F.zj2 = some zwr := rfl
theorem zblz : T F.zj5 = some zw1 := rfl
theorem zbl0 : T F.zko = some zxs := rfl
theorem zbl1 : T F.zk5 = some zx6 := rfl
theorem zbl2 : T F.zlx = some zyo := rfl
theorem zbl3 : T F.zm1 = some zzs := rfl
theorem zbl4 : T F.znb = some zzu := rfl
theorem zbl5 : T F.zni = some zz2 := rfl
theorem zbl6 : T F.znk = some zz4 := rfl
theorem zbl7 : T F.znq = some zz6 := rfl
theorem zbl8 : T F.zo0 = some z0q := rfl
theorem zbl9 : T F.zkp = some z0s := rfl
theorem zbma : T F.zo1 = some z0u := rfl
theorem zbmb : T F.zo2 = some z04 := rfl
theorem zbmc : T F.zo3 = some z06 := rfl
theorem zbmd : T F.zkq = some z07 := rfl
theorem zbme : T F.znx = some z1t := rfl
theorem zbmf : T F.zn0 = some z1v := rfl
theorem zbmg : T F.zn2 = some z1x := rfl
theorem zbmh : T F.zoa = some z15 := rfl
theorem zbmi : T F.zol = some z2t := rfl
theorem zbmj : T F.zou = some z4d := rfl
theorem zbmk : T F.zk2 = some z4r := rfl
theorem zbml : T F.znf = some z4t := rfl
theorem zbmm : T F.zls = some z4v := rfl
theorem zbmn : T F.zlp = some z4x := rfl
theorem zbmo : T F.zn9 = some z47 := rfl
theorem zbmp : T F.zn7 = some z49 := rfl
theorem zbmq : T F.znp = some z50 := rfl
theorem zbmr : T F.zo4 = some z52 := rfl
theorem zbms : T F.zo5 = some z54 := rfl
theorem zbmt : T F.zjx = some z56 := rfl
theorem zbmu : T F.zjw = some z58 := rfl
theorem zbmv : T F.zjz = some z6k := rfl
theorem zbmw : T F.zj3 = some z6m := rfl
theorem zbmx : T F.zo6 = some z60 := rfl
theorem zbmy : T F.zlg = some z65 := rfl
theorem zbmz : T F.zlj = some z7g := rfl
theorem zbm0 : T F.zlv = some z73 := rfl
theorem zbm1 : T F.zlt = some z78 := rfl
theorem zbm2 : T F.zlw = some z8h := rfl
theorem zbm3 : T F.zo7 = some z8u := rfl
theorem zbm4 : T F.zo8 = some z8z := rfl
theorem zbm5 : T F.zm6 = some z84 := rfl
theorem zbm6 : T F.zm5 = some z89 := rfl
theorem zbm7 : T F.zm8 = some z9s := rfl
theorem zbm8 : T F.zne = some z95 := rfl
theorem zbm9 : T F.znj = some zbaa := rfl
theorem zbna : T F.znv = some zbaf := rfl
theorem zbnb : T F.znz = some zbau := rfl
theorem zbnc : T F.zn1 = some zba3 := rfl
theorem zbnd : T F.zn6 = some zbbk := rfl
theorem zbne : T F.zof = some zbb1 := rfl
theorem zbnf : T F.zoi = some zbcc := rfl
theorem zbng : T F.zok = some zbcv := rfl
theorem zbnh : T F.zo9 = some zbc6 := rfl
theorem zbni : T F.zpa = some zbdh := rfl
theorem zbnj : T F.zlr = some zbd0 := rfl
theorem zbnk : T F.zlo = some zbel := rfl
theorem zbnl : T F.zpb = some zbez := rfl
theorem zbnm : T F.zpc = some zbfi := rfl
theorem zbnn : T F.zpd = some zbfn := rfl
theorem zbno : T F.zld = some zbfs := rfl
theorem zbnp : T F.zli = some zbgq := rfl
theorem zbnq : T F.zpe = some zbgv := rfl
theorem zbnr : T F.zpf = some zbg4 := rfl
theorem zbns : T F.zlz = some zbhf := rfl
theorem zbnt : T F.zm2 = some zbhk := rfl
theorem zbnu : T F.zn4 = some zbh7 := rfl
theorem zbnv : T F.zoh = some zbi6 := rfl
theorem zbnw : T F.zon = some zbjh := rfl
theorem zbnx : T F.zlm = some zbke := rfl
theorem zbny : T F.zpg = some zbkx := rfl
theorem zbnz : T F.zly = some zbk2 := rfl
theorem zbn0 : T F.zom = some zblb := rfl
def rg {P : Prop} {c c' : List MO} (h : c = c') (p : P) := ra (T := T) h p
def xg {P : Prop} {c c' : MC} (h : c = c') (p : P) := xa (T := T) h p
def zbn1 := rg o_8_1.eq_1 <| rg o_8_2.eq_1 <| rg o_8_3.eq_1 <| rg o_8_4.eq_1 <| rg o_8_5.eq_1 <| xg c_8_6.eq_1 <| rg o_8_7.eq_1 <| rg o_8_8.eq_1 <| rg o_8_9.eq_1 <| rg o_8_10.eq_1 <| rg o_8_11.eq_1 <| rg o_8_12.eq_1 <| And.intro (@dr_of T _ _ [(27, 26), (28, 26)] o_8_12.eq_1 (by decide)) <| xg c_8_13.eq_1 <| xg c_8_14.eq_1 <| xg c_8_15.eq_1 <| xg c_8_16.eq_1 <| xg c_8_17.eq_1 <| xg c_8_18.eq_1 <| xg c_8_19.eq_1 <| xg c_8_20.eq_1 <| @ex_of T _ _ c_8_21.eq_1
def zbn2 := @vd T F.zox zpi [0, 0] zblc rfl rfl
theorem zbn3 : zpi.res = [.tmp 4] ∧ zpi.rets = [[]] ∧ zpi.body = (.seq (.reg o_8_1) c_8_21) := ⟨rfl, rfl, rfl⟩
def zbn4 := rg o_17_1.eq_1 <| rg o_17_2.eq_1 <| rg o_17_3.eq_1 <| rg o_17_4.eq_1 <| rg o_17_5.eq_1 <| rg o_17_6.eq_1 <| xg c_17_7.eq_1 <| xg c_17_8.eq_1 <| xg c_17_9.eq_1 <| xg zpj.eq_1 <| @ex_of T _ _ zpk.eq_1
def zbn5 := @vd T F.zk7 zpm [] zbld rfl rfl
theorem zbn6 : zpm.res = [.tmp 0] ∧ zpm.rets = [[]] ∧ zpm.body = (.seq (.reg o_17_1) zpk) := ⟨rfl, rfl, rfl⟩
def zbn7 := rg o_19_1.eq_1 <| rg o_19_2.eq_1 <| rg o_19_3.eq_1 <| rg o_19_4.eq_1 <| rg o_19_5.eq_1 <| rg o_19_6.eq_1 <| xg c_19_7.eq_1 <| xg c_19_8.eq_1 <| rg o_19_9.eq_1 <| rg zpn.eq_1 <| rg zpo.eq_1 <| rg zpp.eq_1 <| rg zpq.eq_1 <| rg zpr.eq_1 <| rg zps.eq_1 <| rg zpt.eq_1 <| rg zpu.eq_1 <| rg zpv.eq_1 <| rg zpw.eq_1 <| rg zpx.eq_1 <| xg zpy.eq_1 <| xg zpz.eq_1 <| xg zp0.eq_1 <| rg zp1.eq_1 <| xg zp2.eq_1 <| xg zp3.eq_1 <| xg zp4.eq_1 <| xg zp5.eq_1 <| xg zp6.eq_1 <| rg zp7.eq_1 <| xg zp8.eq_1 <| xg zp9.eq_1 <| xg zqa.eq_1 <| xg zqb.eq_1 <| xg zqc.eq_1 <| xg zqd.eq_1 <| xg zqe.eq_1 <| xg zqf.eq_1 <| xg zqg.eq_1 <| @ex_of T _ _ zqh.eq_1
def zbn8 := @vd T F.zkj zqj [0, 0] zble rfl rfl
theorem zbn9 : zqj.res = [.cell 4 8 true, .tmp 5] ∧ zqj.rets = [[], []] ∧ zqj.body = (.seq (.reg o_19_1) zqh) := ⟨rfl, rfl, rfl⟩
def zboa := rg o_21_1.eq_1 <| rg o_21_2.eq_1 <| rg o_21_3.eq_1 <| xg c_21_4.eq_1 <| rg o_21_5.eq_1 <| rg o_21_6.eq_1 <| xg c_21_7.eq_1 <| rg o_21_8.eq_1 <| rg o_21_9.eq_1 <| xg zqk.eq_1 <| rg zql.eq_1 <| xg zqm.eq_1 <| xg zqn.eq_1 <| xg zqo.eq_1 <| xg zqp.eq_1 <| rg zqq.eq_1 <| rg zqr.eq_1 <| xg zqs.eq_1 <| rg zqt.eq_1 <| rg zqu.eq_1 <| xg zqv.eq_1 <| rg zqw.eq_1 <| xg zqx.eq_1 <| xg zqy.eq_1 <| xg zqz.eq_1 <| xg zq0.eq_1 <| rg zq1.eq_1 <| xg zq2.eq_1 <| xg zq3.eq_1 <| xg zq4.eq_1 <| @ex_of T _ _ zq5.eq_1
def zbob := @vd T F.zlc zq7 [0, 0] zblf rfl rfl
theorem zboc : zq7.res = [.tmp 4] ∧ zq7.rets = [[]] ∧ zq7.body = (.seq (.reg o_21_1) zq5) := ⟨rfl, rfl, rfl⟩
def zbod := rg o_22_1.eq_1 <| rg o_22_2.eq_1 <| @ex_of T _ _ c_22_3.eq_1
def zboe := @vd T F.zj6 zq9 [0] zblg rfl rfl
theorem zbof : zq9.res = [.tmp 2] ∧ zq9.rets = [[]] ∧ zq9.body = (.seq (.reg o_22_1) c_22_3) := ⟨rfl, rfl, rfl⟩
def zbog := rg o_24_1.eq_1 <| rg o_24_2.eq_1 <| rg o_24_3.eq_1 <| rg o_24_4.eq_1 <| rg o_24_5.eq_1 <| rg o_24_6.eq_1 <| xg c_24_7.eq_1 <| xg c_24_8.eq_1 <| rg o_24_9.eq_1 <| rg zra.eq_1 <| And.intro (@df_of T _ _ [(2, 16), (2, 17), (19, 16), (19, 17), (21, 16), (21, 17)] zra.eq_1) <| rg zrb.eq_1 <| rg zrc.eq_1 <| rg zrd.eq_1 <| rg zre.eq_1 <| xg zrf.eq_1 <| rg zrg.eq_1 <| xg zrh.eq_1 <| xg zri.eq_1 <| xg zrj.eq_1 <| xg zrk.eq_1 <| xg zrl.eq_1 <| rg zrm.eq_1 <| rg zrn.eq_1 <| xg zro.eq_1 <| rg zrp.eq_1 <| xg zrq.eq_1 <| xg zrr.eq_1 <| xg zrs.eq_1 <| xg zrt.eq_1 <| xg zru.eq_1 <| xg zrv.eq_1 <| @ex_of T _ _ zrw.eq_1
def zboh := @vd T F.zk0 zry [0, 0] zblh rfl rfl
theorem zboi : zry.res = [.cell 4 6 true, .tmp 5] ∧ zry.rets = [[], []] ∧ zry.body = (.seq (.reg o_24_1) zrw) := ⟨rfl, rfl, rfl⟩
def zboj := rg o_25_1.eq_1 <| rg o_25_2.eq_1 <| @ex_of T _ _ c_25_3.eq_1
def zbok := @vd T F.zk6 zr0 [0, 0] zbli rfl rfl
theorem zbol : zr0.res = [.tmp 4] ∧ zr0.rets = [[]] ∧ zr0.body = (.seq (.reg o_25_1) c_25_3) := ⟨rfl, rfl, rfl⟩
def zbom := rg o_26_1.eq_1 <| rg o_26_2.eq_1 <| rg o_26_3.eq_1 <| rg o_26_4.eq_1 <| rg o_26_5.eq_1 <| rg o_26_6.eq_1 <| xg c_26_7.eq_1 <| xg c_26_8.eq_1 <| rg o_26_9.eq_1 <| rg zr1.eq_1 <| rg zr2.eq_1 <| rg zr3.eq_1 <| rg zr4.eq_1 <| xg zr5.eq_1 <| xg zr6.eq_1 <| rg zr7.eq_1 <| xg zr8.eq_1 <| xg zr9.eq_1 <| xg zsa.eq_1 <| xg zsb.eq_1 <| @ex_of T _ _ zsc.eq_1
def zbon := @vd T F.znc zse [0] zblj rfl rfl
theorem zboo : zse.res = [.cell 2 8 true, .tmp 3] ∧ zse.rets = [[], []] ∧ zse.body = (.seq (.reg o_26_1) zsc) := ⟨rfl, rfl, rfl⟩
def zbop := rg o_27_1.eq_1 <| rg o_27_2.eq_1 <| rg o_27_3.eq_1 <| xg c_27_4.eq_1 <| rg o_27_5.eq_1 <| rg o_27_6.eq_1 <| rg o_27_7.eq_1 <| rg o_27_8.eq_1 <| rg o_27_9.eq_1 <| xg zsf.eq_1 <| rg zsg.eq_1 <| xg zsh.eq_1 <| xg zsi.eq_1 <| xg zsj.eq_1 <| xg zsk.eq_1 <| xg zsl.eq_1 <| rg zsm.eq_1 <| rg zsn.eq_1 <| rg zso.eq_1 <| xg zsp.eq_1 <| rg zsq.eq_1 <| rg zsr.eq_1 <| rg zss.eq_1 <| rg zst.eq_1 <| rg zsu.eq_1 <| And.intro (@df_of T _ _ [(8, 5), (8, 6)] zsu.eq_1) <| xg zsv.eq_1 <| rg zsw.eq_1 <| xg zsx.eq_1 <| xg zsy.eq_1 <| xg zsz.eq_1 <| xg zs0.eq_1 <| xg zs1.eq_1 <| rg zs2.eq_1 <| xg zs3.eq_1 <| xg zs4.eq_1 <| xg zs5.eq_1 <| xg zs6.eq_1 <| xg zs7.eq_1 <| xg zs8.eq_1 <| xg zs9.eq_1 <| @ex_of T _ _ zta.eq_1
def zboq := @vd T F.znt ztc [0] zblk rfl rfl
theorem zbor : ztc.res = [.tmp 2, .tmp 3] ∧ ztc.rets = [[2], []] ∧ ztc.body = (.seq (.reg o_27_1) zta) := ⟨rfl, rfl, rfl⟩
def zbos := rg o_31_1.eq_1 <| rg o_31_2.eq_1 <| rg o_31_3.eq_1 <| rg o_31_4.eq_1 <| rg o_31_5.eq_1 <| xg c_31_6.eq_1 <| rg o_31_7.eq_1 <| xg c_31_8.eq_1 <| xg c_31_9.eq_1 <| xg ztd.eq_1 <| @ex_of T _ _ zte.eq_1
def zbot := @vd T F.zkx ztg [0, 0] zbll rfl rfl
theorem zbou : ztg.res = [.tmp 4] ∧ ztg.rets = [[4]] ∧ ztg.body = (.seq (.reg o_31_1) zte) := ⟨rfl, rfl, rfl⟩
def zbov := rg o_33_1.eq_1 <| rg o_33_2.eq_1 <| @ex_of T _ _ c_33_3.eq_1
def zbow := @vd T F.znu zti [0] zblm rfl rfl
theorem zbox : zti.res = [.tmp 2] ∧ zti.rets = [[]] ∧ zti.body = (.seq (.reg o_33_1) c_33_3) := ⟨rfl, rfl, rfl⟩
def zboy := rg o_34_1.eq_1 <| rg o_34_2.eq_1 <| rg o_34_3.eq_1 <| rg o_34_4.eq_1 <| xg c_34_5.eq_1 <| rg o_34_6.eq_1 <| rg o_34_7.eq_1 <| rg o_34_8.eq_1 <| rg o_34_9.eq_1 <| rg ztj.eq_1 <| rg ztk.eq_1 <| rg ztl.eq_1 <| xg ztm.eq_1 <| rg ztn.eq_1 <| rg zto.eq_1 <| xg ztp.eq_1 <| xg ztq.eq_1 <| xg ztr.eq_1 <| xg zts.eq_1 <| rg ztt.eq_1 <| rg ztu.eq_1 <| rg ztv.eq_1 <| xg ztw.eq_1 <| rg ztx.eq_1 <| rg zty.eq_1 <| rg ztz.eq_1 <| rg zt0.eq_1 <| xg zt1.eq_1 <| rg zt2.eq_1 <| rg zt3.eq_1 <| rg zt4.eq_1 <| xg zt5.eq_1 <| xg zt6.eq_1 <| rg zt7.eq_1 <| xg zt8.eq_1 <| xg zt9.eq_1 <| xg zua.eq_1 <| xg zub.eq_1 <| rg zuc.eq_1 <| rg zud.eq_1 <| xg zue.eq_1 <| xg zuf.eq_1 <| xg zug.eq_1 <| xg zuh.eq_1 <| xg zui.eq_1 <| xg zuj.eq_1 <| xg zuk.eq_1 <| xg zul.eq_1 <| xg zum.eq_1 <| xg zun.eq_1 <| xg zuo.eq_1 <| xg zup.eq_1 <| xg zuq.eq_1 <| xg zur.eq_1 <| @ex_of T _ _ zus.eq_1
def zboz := @vd T F.zod zuu [0] zbln rfl rfl
theorem zbo0 : zuu.res = [.tmp 2, .tmp 3] ∧ zuu.rets = [[2], []] ∧ zuu.body = (.seq (.reg o_34_1) zus) := ⟨rfl, rfl, rfl⟩
def zbo1 := rg o_35_1.eq_1 <| rg o_35_2.eq_1 <| rg o_35_3.eq_1 <| rg o_35_4.eq_1 <| xg c_35_5.eq_1 <| rg o_35_6.eq_1 <| rg o_35_7.eq_1 <| xg c_35_8.eq_1 <| rg o_35_9.eq_1 <| rg zuv.eq_1 <| rg zuw.eq_1 <| xg zux.eq_1 <| rg zuy.eq_1 <| rg zuz.eq_1 <| rg zu0.eq_1 <| xg zu1.eq_1 <| rg zu2.eq_1 <| xg zu3.eq_1 <| xg zu4.eq_1 <| xg zu5.eq_1 <| xg zu6.eq_1 <| xg zu7.eq_1 <| xg zu8.eq_1 <| xg zu9.eq_1 <| @ex_of T _ _ zva.eq_1
def zbo2 := @vd T F.zov zvc [0] zblo rfl rfl
theorem zbo3 : zvc.res = [.cell 2 8 true, .tmp 3] ∧ zvc.rets = [[], []] ∧ zvc.body = (.seq (.reg o_35_1) zva) := ⟨rfl, rfl, rfl⟩
def zbo4 := rg o_36_1.eq_1 <| rg o_36_2.eq_1 <| @ex_of T _ _ c_36_3.eq_1
def zbo5 := @vd T F.zow zve [0, 0] zblp rfl rfl
theorem zbo6 : zve.res = [.tmp 4] ∧ zve.rets = [[]] ∧ zve.body = (.seq (.reg o_36_1) c_36_3) := ⟨rfl, rfl, rfl⟩
def zbo7 := rg o_40_1.eq_1 <| rg o_40_2.eq_1 <| rg o_40_3.eq_1 <| xg c_40_4.eq_1 <| rg o_40_5.eq_1 <| rg o_40_6.eq_1 <| rg o_40_7.eq_1 <| xg c_40_8.eq_1 <| xg c_40_9.eq_1 <| rg zvf.eq_1 <| xg zvg.eq_1 <| xg zvh.eq_1 <| xg zvi.eq_1 <| xg zvj.eq_1 <| rg zvk.eq_1 <| xg zvl.eq_1 <| @ex_of T _ _ zvm.eq_1
def zbo8 := @vd T F.zk9 zvo [0] zblq rfl rfl
theorem zbo9 : zvo.res = [.tmp 2] ∧ zvo.rets = [[]] ∧ zvo.body = (.seq (.reg o_40_1) zvm) := ⟨rfl, rfl, rfl⟩
def zbpa := rg o_42_1.eq_1 <| rg o_42_2.eq_1 <| @ex_of T _ _ c_42_3.eq_1
def zbpb := @vd T F.zk3 zvq [0, 0] zblr rfl rfl
theorem zbpc : zvq.res = [.tmp 4] ∧ zvq.rets = [[]] ∧ zvq.body = (.seq (.reg o_42_1) c_42_3) := ⟨rfl, rfl, rfl⟩
def zbpd := rg o_45_1.eq_1 <| rg o_45_2.eq_1 <| @ex_of T _ _ c_45_3.eq_1
def zbpe := @vi T F.zoy zvs zbls rfl
theorem zbpf {n : Nat} {H : Hp} {vs : List V} : (orc T (n + 1)).inl F.zoy vs H = finI H.length false [.tmp 3] (unw T (orc T n) n H.length [] (exec T (orc T n) n H.length (.seq (.reg o_45_1) c_45_3) (params 0 vs) H)) := by rw [zhy, zbls, y8, zhw]; rfl
def zbpg := rg o_46_1.eq_1 <| rg o_46_2.eq_1 <| @ex_of T _ _ c_46_3.eq_1
def zbph := @vd T F.zj9 zvu [0, 0] zblt rfl rfl
theorem zbpi : zvu.res = [.tmp 4] ∧ zvu.rets = [[]] ∧ zvu.body = (.seq (.reg o_46_1) c_46_3) := ⟨rfl, rfl, rfl⟩
def zbpj := rg o_47_1.eq_1 <| rg o_47_2.eq_1 <| @ex_of T _ _ c_47_3.eq_1
def zbpk := @vi T F.zoz zvw zblu rfl
theorem zbpl {n : Nat} {H : Hp} {vs : List V} : (orc T (n + 1)).inl F.zoz vs H = finI H.length false [.tmp 4] (unw T (orc T n) n H.length [] (exec T (orc T n) n H.length (.seq (.reg o_47_1) c_47_3) (params 0 vs) H)) := by rw [zhy, zblu, y8, zhw]; rfl
def zbpm := rg o_48_1.eq_1 <| rg o_48_2.eq_1 <| rg o_48_3.eq_1 <| xg c_48_4.eq_1 <| rg o_48_5.eq_1 <| xg c_48_6.eq_1 <| xg c_48_7.eq_1 <| rg o_48_8.eq_1 <| xg c_48_9.eq_1 <| xg zvx.eq_1 <| @ex_of T _ _ zvy.eq_1
def zbpn := @vd T F.zkb zv0 [0, 0] zblv rfl rfl
theorem zbpo : zv0.res = [.tmp 4] ∧ zv0.rets = [[]] ∧ zv0.body = (.seq (.reg o_48_1) zvy) := ⟨rfl, rfl, rfl⟩
def zbpp := rg o_49_1.eq_1 <| rg o_49_2.eq_1 <| rg o_49_3.eq_1 <| xg c_49_4.eq_1 <| rg o_49_5.eq_1 <| xg c_49_6.eq_1 <| xg c_49_7.eq_1 <| rg o_49_8.eq_1 <| xg c_49_9.eq_1 <| xg zv1.eq_1 <| @ex_of T _ _ zv2.eq_1
def zbpq := @vd T F.zkd zv4 [0, 0] zblw rfl rfl
theorem zbpr : zv4.res = [.tmp 4] ∧ zv4.rets = [[]] ∧ zv4.body = (.seq (.reg o_49_1) zv2) := ⟨rfl, rfl, rfl⟩
def zbps := rg o_50_1.eq_1 <| rg o_50_2.eq_1 <| rg o_50_3.eq_1 <| xg c_50_4.eq_1 <| rg o_50_5.eq_1 <| xg c_50_6.eq_1 <| @ex_of T _ _ c_50_7.eq_1
def zbpt := @vd T F.zke zv6 [0] zblx rfl rfl
theorem zbpu : zv6.res = [.tmp 2] ∧ zv6.rets = [[2]] ∧ zv6.body = (.seq (.reg o_50_1) c_50_7) := ⟨rfl, rfl, rfl⟩
def zbpv := rg o_52_1.eq_1 <| rg o_52_2.eq_1 <| rg o_52_3.eq_1 <| xg c_52_4.eq_1 <| rg o_52_5.eq_1 <| rg o_52_6.eq_1 <| rg o_52_7.eq_1 <| rg o_52_8.eq_1 <| xg c_52_9.eq_1 <| rg zv7.eq_1 <| rg zv8.eq_1 <| rg zv9.eq_1 <| xg zwa.eq_1 <| rg zwb.eq_1 <| rg zwc.eq_1 <| rg zwd.eq_1 <| rg zwe.eq_1 <| rg zwf.eq_1 <| xg zwg.eq_1 <| xg zwh.eq_1 <| xg zwi.eq_1 <| xg zwj.eq_1 <| xg zwk.eq_1 <| rg zwl.eq_1 <| xg zwm.eq_1 <| xg zwn.eq_1 <| xg zwo.eq_1 <| @ex_of T _ _ zwp.eq_1
def zbpw := @vd T F.zj2 zwr [0] zbly rfl rfl
theorem zbpx : zwr.res = [.tmp 2] ∧ zwr.rets = [[]] ∧ zwr.body = (.seq (.reg o_52_1) zwp) := ⟨rfl, rfl, rfl⟩
def zbpy := rg o_53_1.eq_1 <| rg o_53_2.eq_1 <| rg o_53_3.eq_1 <| rg o_53_4.eq_1 <| rg o_53_5.eq_1 <| rg o_53_6.eq_1 <| xg c_53_7.eq_1 <| xg c_53_8.eq_1 <| rg o_53_9.eq_1 <| xg zws.eq_1 <| xg zwt.eq_1 <| xg zwu.eq_1 <| xg zwv.eq_1 <| xg zww.eq_1 <| rg zwx.eq_1 <| xg zwy.eq_1 <| @ex_of T _ _ zwz.eq_1
def zbpz := @vd T F.zj5 zw1 [0] zblz rfl rfl
theorem zbp0 : zw1.res = [.tmp 2] ∧ zw1.rets = [[]] ∧ zw1.body = (.seq (.reg o_53_1) zwz) := ⟨rfl, rfl, rfl⟩
def zbp1 := rg o_56_1.eq_1 <| rg o_56_2.eq_1 <| rg o_56_3.eq_1 <| rg o_56_4.eq_1 <| rg o_56_5.eq_1 <| rg o_56_6.eq_1 <| rg o_56_7.eq_1 <| xg c_56_8.eq_1 <| xg c_56_9.eq_1 <| xg zw2.eq_1 <| rg zw3.eq_1 <| xg zw4.eq_1 <| xg zw5.eq_1 <| xg zw6.eq_1 <| xg zw7.eq_1 <| xg zw8.eq_1 <| rg zw9.eq_1 <| rg zxa.eq_1 <| rg zxb.eq_1 <| rg zxc.eq_1 <| rg zxd.eq_1 <| xg zxe.eq_1 <| rg zxf.eq_1 <| xg zxg.eq_1 <| xg zxh.eq_1 <| xg zxi.eq_1 <| xg zxj.eq_1 <| xg zxk.eq_1 <| rg zxl.eq_1 <| xg zxm.eq_1 <| xg zxn.eq_1 <| xg zxo.eq_1 <| xg zxp.eq_1 <| @ex_of T _ _ zxq.eq_1
def zbp2 := @vd T F.zko zxs [0] zbl0 rfl rfl
theorem zbp3 : zxs.res = [.tmp 2] ∧ zxs.rets = [[2]] ∧ zxs.body = (.seq (.reg o_56_1) zxq) := ⟨rfl, rfl, rfl⟩
def zbp4 := rg o_57_1.eq_1 <| rg o_57_2.eq_1 <| rg o_57_3.eq_1 <| xg c_57_4.eq_1 <| rg o_57_5.eq_1 <| rg o_57_6.eq_1 <| rg o_57_7.eq_1 <| rg o_57_8.eq_1 <| rg o_57_9.eq_1 <| xg zxt.eq_1 <| xg zxu.eq_1 <| rg zxv.eq_1 <| xg zxw.eq_1 <| xg zxx.eq_1 <| xg zxy.eq_1 <| xg zxz.eq_1 <| xg zx0.eq_1 <| rg zx1.eq_1 <| xg zx2.eq_1 <| xg zx3.eq_1 <| @ex_of T _ _ zx4.eq_1
def zbp5 := @vd T F.zk5 zx6 [0, 0] zbl1 rfl rfl
theorem zbp6 : zx6.res = [.tmp 4] ∧ zx6.rets = [[]] ∧ zx6.body = (.seq (.reg o_57_1) zx4) := ⟨rfl, rfl, rfl⟩
def zbp7 := rg o_58_1.eq_1 <| rg o_58_2.eq_1 <| rg o_58_3.eq_1 <| xg c_58_4.eq_1 <| rg o_58_5.eq_1 <| rg o_58_6.eq_1 <| rg o_58_7.eq_1 <| rg o_58_8.eq_1 <| rg o_58_9.eq_1 <| rg zx7.eq_1 <| rg zx8.eq_1 <| xg zx9.eq_1 <| xg zya.eq_1 <| xg zyb.eq_1 <| rg zyc.eq_1 <| rg zyd.eq_1 <| And.intro (@df_of T _ _ [(5, 8)] zyd.eq_1) <| rg zye.eq_1 <| xg zyf.eq_1 <| rg zyg.eq_1 <| xg zyh.eq_1 <| xg zyi.eq_1 <| xg zyj.eq_1 <| xg zyk.eq_1 <| xg zyl.eq_1 <| @ex_of T _ _ zym.eq_1
def zbp8 := @vd T F.zlx zyo [0] zbl2 rfl rfl
theorem zbp9 : zyo.res = [.tmp 2, .tmp 3, .tmp 4] ∧ zyo.rets = [[2], [], []] ∧ zyo.body = (.seq (.reg o_58_1) zym) := ⟨rfl, rfl, rfl⟩
def zbqa := rg o_59_1.eq_1 <| rg o_59_2.eq_1 <| rg o_59_3.eq_1 <| rg o_59_4.eq_1 <| rg o_59_5.eq_1 <| rg o_59_6.eq_1 <| xg c_59_7.eq_1 <| rg o_59_8.eq_1 <| rg o_59_9.eq_1 <| rg zyp.eq_1 <| And.intro (@df_of T _ _ [(1, 3), (1, 4)] zyp.eq_1) <| rg zyq.eq_1 <| xg zyr.eq_1 <| xg zys.eq_1 <| xg zyt.eq_1 <| xg zyu.eq_1 <| xg zyv.eq_1 <| rg zyw.eq_1 <| rg zyx.eq_1 <| rg zyy.eq_1 <| xg zyz.eq_1 <| rg zy0.eq_1 <| rg zy1.eq_1 <| rg zy2.eq_1 <| xg zy3.eq_1 <| rg zy4.eq_1 <| rg zy5.eq_1 <| rg zy6.eq_1 <| rg zy7.eq_1 <| xg zy8.eq_1 <| xg zy9.eq_1 <| xg zza.eq_1 <| rg zzb.eq_1 <| xg zzc.eq_1 <| xg zzd.eq_1 <| xg zze.eq_1 <| xg zzf.eq_1 <| rg zzg.eq_1 <| And.intro (@dr_of T _ _ [(10, 13)] zzg.eq_1 (by decide)) <| xg zzh.eq_1 <| xg zzi.eq_1 <| xg zzj.eq_1 <| xg zzk.eq_1 <| xg zzl.eq_1 <| xg zzm.eq_1 <| xg zzn.eq_1 <| xg zzo.eq_1 <| xg zzp.eq_1 <| @ex_of T _ _ zzq.eq_1
def zbqb := @vd T F.zm1 zzs [0] zbl3 rfl rfl
theorem zbqc : zzs.res = [.cell 2 8 true, .tmp 3] ∧ zzs.rets = [[], []] ∧ zzs.body = (.seq (.reg o_59_1) zzq) := ⟨rfl, rfl, rfl⟩
def zbqd := rg o_60_1.eq_1 <| rg o_60_2.eq_1 <| rg o_60_3.eq_1 <| xg c_60_4.eq_1 <| @ex_of T _ _ c_60_5.eq_1
def zbqe := @vd T F.znb zzu [0] zbl4 rfl rfl
theorem zbqf : zzu.res = [.tmp 2] ∧ zzu.rets = [[]] ∧ zzu.body = (.seq (.reg o_60_1) c_60_5) := ⟨rfl, rfl, rfl⟩
def zbqg := rg o_61_1.eq_1 <| rg o_61_2.eq_1 <| rg o_61_3.eq_1 <| rg o_61_4.eq_1 <| rg o_61_5.eq_1 <| xg c_61_6.eq_1 <| rg o_61_7.eq_1 <| xg c_61_8.eq_1 <| xg c_61_9.eq_1 <| xg zzv.eq_1 <| xg zzw.eq_1 <| xg zzx.eq_1 <| rg zzy.eq_1 <| xg zzz.eq_1 <| @ex_of T _ _ zz0.eq_1
def zbqh := @vd T F.zni zz2 [2, 0] zbl5 rfl rfl
theorem zbqi : zz2.res = [.tmp 4] ∧ zz2.rets = [[2]] ∧ zz2.body = (.seq (.reg o_61_1) zz0) := ⟨rfl, rfl, rfl⟩
def zbqj := rg o_62_1.eq_1 <| rg o_62_2.eq_1 <| @ex_of T _ _ c_62_3.eq_1
def zbqk := @vd T F.znk zz4 [2, 0] zbl6 rfl rfl
theorem zbql : zz4.res = [.tmp 4] ∧ zz4.rets = [[2]] ∧ zz4.body = (.seq (.reg o_62_1) c_62_3) := ⟨rfl, rfl, rfl⟩
def zbqm := rg o_63_1.eq_1 <| rg o_63_2.eq_1 <| rg o_63_3.eq_1 <| xg c_63_4.eq_1 <| rg o_63_5.eq_1 <| rg o_63_6.eq_1 <| xg c_63_7.eq_1 <| xg c_63_8.eq_1 <| @ex_of T _ _ c_63_9.eq_1
def zbqn := @vd T F.znq zz6 [0] zbl7 rfl rfl
theorem zbqo : zz6.res = [.tmp 2, .tmp 3] ∧ zz6.rets = [[2], []] ∧ zz6.body = (.seq (.reg o_63_1) c_63_9) := ⟨rfl, rfl, rfl⟩
def zbqp := rg o_67_1.eq_1 <| rg o_67_2.eq_1 <| rg o_67_3.eq_1 <| rg o_67_4.eq_1 <| xg c_67_5.eq_1 <| rg o_67_6.eq_1 <| rg o_67_7.eq_1 <| xg c_67_8.eq_1 <| rg o_67_9.eq_1 <| rg zz7.eq_1 <| rg zz8.eq_1 <| rg zz9.eq_1 <| xg z0a.eq_1 <| xg z0b.eq_1 <| xg z0c.eq_1 <| rg z0d.eq_1 <| xg z0e.eq_1 <| xg z0f.eq_1 <| xg z0g.eq_1 <| xg z0h.eq_1 <| rg z0i.eq_1 <| rg z0j.eq_1 <| xg z0k.eq_1 <| xg z0l.eq_1 <| xg z0m.eq_1 <| xg z0n.eq_1 <| @ex_of T _ _ z0o.eq_1
def zbqq := @vi T F.zo0 z0q zbl8 rfl
theorem zbqr {n : Nat} {H : Hp} {vs : List V} : (orc T (n + 1)).inl F.zo0 vs H = finI H.length true [.tmp 4] (unw T (orc T n) n H.length [] (exec T (orc T n) n H.length (.seq (.reg o_67_1) z0o) (params 0 vs) H)) := by rw [zhy, zbl8, y8, zhw]; rfl
def zbqs := rg o_68_1.eq_1 <| rg o_68_2.eq_1 <| rg o_68_3.eq_1 <| xg c_68_4.eq_1 <| rg o_68_5.eq_1 <| xg c_68_6.eq_1 <| @ex_of T _ _ c_68_7.eq_1
def zbqt := @vd T F.zkp z0s [0] zbl9 rfl rfl
theorem zbqu : z0s.res = [.tmp 2] ∧ z0s.rets = [[4]] ∧ z0s.body = (.seq (.reg o_68_1) c_68_7) := ⟨rfl, rfl, rfl⟩
def zbqv := rg o_69_1.eq_1 <| rg o_69_2.eq_1 <| @ex_of T _ _ c_69_3.eq_1
def zbqw := @vi T F.zo1 z0u zbma rfl
theorem zbqx {n : Nat} {H : Hp} {vs : List V} : (orc T (n + 1)).inl F.zo1 vs H = finI H.length false [.tmp 3] (unw T (orc T n) n H.length [] (exec T (orc T n) n H.length (.seq (.reg o_69_1) c_69_3) (params 0 vs) H)) := by rw [zhy, zbma, y8, zhw]; rfl
def zbqy := rg o_70_1.eq_1 <| rg o_70_2.eq_1 <| rg o_70_3.eq_1 <| rg o_70_4.eq_1 <| rg o_70_5.eq_1 <| rg o_70_6.eq_1 <| xg c_70_7.eq_1 <| xg c_70_8.eq_1 <| rg o_70_9.eq_1 <| xg z0v.eq_1 <| xg z0w.eq_1 <| xg z0x.eq_1 <| xg z0y.eq_1 <| xg z0z.eq_1 <| rg z00.eq_1 <| xg z01.eq_1 <| @ex_of T _ _ z02.eq_1
def zbqz := @vi T F.zo2 z04 zbmb rfl
theorem zbq0 {n : Nat} {H : Hp} {vs : List V} : (orc T (n + 1)).inl F.zo2 vs H = finI H.length false [.tmp 4] (unw T (orc T n) n H.length [] (exec T (orc T n) n H.length (.seq (.reg o_70_1) z02) (params 0 vs) H)) := by rw [zhy, zbmb, y8, zhw]; rfl
def zbq1 := rg o_71_1.eq_1 <| rg o_71_2.eq_1 <| @ex_of T _ _ c_71_3.eq_1
def zbq2 := @vi T F.zo3 z06 zbmc rfl
theorem zbq3 {n : Nat} {H : Hp} {vs : List V} : (orc T (n + 1)).inl F.zo3 vs H = finI H.length false [.tmp 3] (unw T (orc T n) n H.length [] (exec T (orc T n) n H.length (.seq (.reg o_71_1) c_71_3) (params 0 vs) H)) := by rw [zhy, zbmc, y8, zhw]; rfl
def zbq4 := @vd T F.zkq z07 [4, 0, 4] zbmd rfl rfl
theorem zbq5 : z07.res = [.tmp 6] ∧ z07.rets = [[4]] ∧ z07.body = .fail := ⟨rfl, rfl, rfl⟩
def zbq6 := rg o_73_1.eq_1 <| rg o_73_2.eq_1 <| rg o_73_3.eq_1 <| rg o_73_4.eq_1 <| rg o_73_5.eq_1 <| rg o_73_6.eq_1 <| rg o_73_7.eq_1 <| rg o_73_8.eq_1 <| xg c_73_9.eq_1 <| rg z08.eq_1 <| rg z09.eq_1 <| xg z1a.eq_1 <| rg z1b.eq_1 <| rg z1c.eq_1 <| xg z1d.eq_1 <| rg z1e.eq_1 <| xg z1f.eq_1 <| xg z1g.eq_1 <| xg z1h.eq_1 <| xg z1i.eq_1 <| rg z1j.eq_1 <| xg z1k.eq_1 <| xg z1l.eq_1 <| xg z1m.eq_1 <| xg z1n.eq_1 <| xg z1o.eq_1 <| xg z1p.eq_1 <| xg z1q.eq_1 <| @ex_of T _ _ z1r.eq_1
def zbq7 := @vd T F.znx z1t [0] zbme rfl rfl
theorem zbq8 : z1t.res = [.tmp 2] ∧ z1t.rets = [[]] ∧ z1t.body = (.seq (.reg o_73_1) z1r) := ⟨rfl, rfl, rfl⟩
def zbq9 := rg o_74_1.eq_1 <| rg o_74_2.eq_1 <| rg o_74_3.eq_1 <| rg o_74_4.eq_1 <| xg c_74_5.eq_1 <| rg o_74_6.eq_1 <| xg c_74_7.eq_1 <| xg c_74_8.eq_1 <| @ex_of T _ _ c_74_9.eq_1
def zbra := @vd T F.zn0 z1v [0, 0] zbmf rfl rfl
theorem zbrb : z1v.res = [.tmp 4] ∧ z1v.rets = [[2]] ∧ z1v.body = (.seq (.reg o_74_1) c_74_9) := ⟨rfl, rfl, rfl⟩
def zbrc := rg o_75_1.eq_1 <| rg o_75_2.eq_1 <| rg o_75_3.eq_1 <| xg c_75_4.eq_1 <| @ex_of T _ _ c_75_5.eq_1
def zbrd := @vd T F.zn2 z1x [0, 0] zbmg rfl rfl
theorem zbre : z1x.res = [.tmp 4] ∧ z1x.rets = [[2]] ∧ z1x.body = (.seq (.reg o_75_1) c_75_5) := ⟨rfl, rfl, rfl⟩
def zbrf := rg o_76_1.eq_1 <| rg o_76_2.eq_1 <| rg o_76_3.eq_1 <| xg c_76_4.eq_1 <| rg o_76_5.eq_1 <| rg o_76_6.eq_1 <| rg o_76_7.eq_1 <| rg o_76_8.eq_1 <| rg o_76_9.eq_1 <| xg z1y.eq_1 <| xg z1z.eq_1 <| xg z10.eq_1 <| xg z11.eq_1 <| xg z12.eq_1 <| @ex_of T _ _ z13.eq_1
def zbrg := @vd T F.zoa z15 [0] zbmh rfl rfl
theorem zbrh : z15.res = [.tmp 2, .tmp 3] ∧ z15.rets = [[2], []] ∧ z15.body = (.seq (.reg o_76_1) z13) := ⟨rfl, rfl, rfl⟩
def zbri := rg o_77_1.eq_1 <| rg o_77_2.eq_1 <| rg o_77_3.eq_1 <| rg o_77_4.eq_1 <| xg c_77_5.eq_1 <| rg o_77_6.eq_1 <| rg o_77_7.eq_1 <| rg o_77_8.eq_1 <| xg c_77_9.eq_1 <| rg z16.eq_1 <| rg z17.eq_1 <| xg z18.eq_1 <| rg z19.eq_1 <| rg z2a.eq_1 <| xg z2b.eq_1 <| rg z2c.eq_1 <| rg z2d.eq_1 <| rg z2e.eq_1 <| rg z2f.eq_1 <| xg z2g.eq_1 <| rg z2h.eq_1 <| xg z2i.eq_1 <| xg z2j.eq_1 <| xg z2k.eq_1 <| xg z2l.eq_1 <| xg z2m.eq_1 <| xg z2n.eq_1 <| xg z2o.eq_1 <| xg z2p.eq_1 <| xg z2q.eq_1 <| @ex_of T _ _ z2r.eq_1
def zbrj := @vd T F.zol z2t [0] zbmi rfl rfl
theorem zbrk : z2t.res = [.tmp 2, .tmp 3, .tmp 4] ∧ z2t.rets = [[2], [], []] ∧ z2t.body = (.seq (.reg o_77_1) z2r) := ⟨rfl, rfl, rfl⟩
def zbrl := rg o_78_1.eq_1 <| rg o_78_2.eq_1 <| rg o_78_3.eq_1 <| rg o_78_4.eq_1 <| rg o_78_5.eq_1 <| rg o_78_6.eq_1 <| rg o_78_7.eq_1 <| rg o_78_8.eq_1 <| rg o_78_9.eq_1 <| rg z2u.eq_1 <| xg z2v.eq_1 <| rg z2w.eq_1 <| rg z2x.eq_1 <| xg z2y.eq_1 <| rg z2z.eq_1 <| rg z20.eq_1 <| xg z21.eq_1 <| rg z22.eq_1 <| xg z23.eq_1 <| xg z24.eq_1 <| xg z25.eq_1 <| xg z26.eq_1 <| rg z27.eq_1 <| rg z28.eq_1 <| rg z29.eq_1 <| xg z3a.eq_1 <| rg z3b.eq_1 <| rg z3c.eq_1 <| rg z3d.eq_1 <| xg z3e.eq_1 <| xg z3f.eq_1 <| rg z3g.eq_1 <| rg z3h.eq_1 <| rg z3i.eq_1 <| xg z3j.eq_1 <| rg z3k.eq_1 <| rg z3l.eq_1 <| rg z3m.eq_1 <| rg z3n.eq_1 <| xg z3o.eq_1 <| xg z3p.eq_1 <| xg z3q.eq_1 <| rg z3r.eq_1 <| xg z3s.eq_1 <| xg z3t.eq_1 <| xg z3u.eq_1 <| xg z3v.eq_1 <| rg z3w.eq_1 <| And.intro (@df_of T _ _ [(9, 13), (10, 13)] z3w.eq_1) <| xg z3x.eq_1 <| xg z3y.eq_1 <| xg z3z.eq_1 <| xg z30.eq_1 <| xg z31.eq_1 <| xg z32.eq_1 <| xg z33.eq_1 <| xg z34.eq_1 <| xg z35.eq_1 <| xg z36.eq_1 <| xg z37.eq_1 <| xg z38.eq_1 <| xg z39.eq_1 <| xg z4a.eq_1 <| @ex_of T _ _ z4b.eq_1
def zbrm := @vd T F.zou z4d [0] zbmj rfl rfl
theorem zbrn : z4d.res = [.cell 2 8 true, .tmp 3] ∧ z4d.rets = [[], []] ∧ z4d.body = (.seq (.reg o_78_1) z4b) := ⟨rfl, rfl, rfl⟩
def zbro := rg o_79_1.eq_1 <| rg o_79_2.eq_1 <| rg o_79_3.eq_1 <| xg c_79_4.eq_1 <| rg o_79_5.eq_1 <| rg o_79_6.eq_1 <| rg o_79_7.eq_1 <| rg o_79_8.eq_1 <| rg o_79_9.eq_1 <| xg z4e.eq_1 <| xg z4f.eq_1 <| rg z4g.eq_1 <| xg z4h.eq_1 <| xg z4i.eq_1 <| xg z4j.eq_1 <| xg z4k.eq_1 <| xg z4l.eq_1 <| rg z4m.eq_1 <| xg z4n.eq_1 <| xg z4o.eq_1 <| @ex_of T _ _ z4p.eq_1
def zbrp := @vd T F.zk2 z4r [0, 0] zbmk rfl rfl
theorem zbrq : z4r.res = [.tmp 4] ∧ z4r.rets = [[]] ∧ z4r.body = (.seq (.reg o_79_1) z4p) := ⟨rfl, rfl, rfl⟩
def zbrr := rg o_81_1.eq_1 <| rg o_81_2.eq_1 <| rg o_81_3.eq_1 <| xg c_81_4.eq_1 <| rg o_81_5.eq_1 <| xg c_81_6.eq_1 <| @ex_of T _ _ c_81_7.eq_1
def zbrs := @vd T F.znf z4t [2, 0] zbml rfl rfl
theorem zbrt : z4t.res = [.tmp 4] ∧ z4t.rets = [[2]] ∧ z4t.body = (.seq (.reg o_81_1) c_81_7) := ⟨rfl, rfl, rfl⟩
def zbru := rg o_83_1.eq_1 <| rg o_83_2.eq_1 <| @ex_of T _ _ c_83_3.eq_1
def zbrv := @vd T F.zls z4v [0] zbmm rfl rfl
theorem zbrw : z4v.res = [.tmp 2] ∧ z4v.rets = [[2]] ∧ z4v.body = (.seq (.reg o_83_1) c_83_3) := ⟨rfl, rfl, rfl⟩
def zbrx := rg o_84_1.eq_1 <| rg o_84_2.eq_1 <| @ex_of T _ _ c_84_3.eq_1
def zbry := @vd T F.zlp z4x [0] zbmn rfl rfl
theorem zbrz : z4x.res = [.tmp 2] ∧ z4x.rets = [[]] ∧ z4x.body = (.seq (.reg o_84_1) c_84_3) := ⟨rfl, rfl, rfl⟩
def zbr0 := rg o_86_1.eq_1 <| rg o_86_2.eq_1 <| rg o_86_3.eq_1 <| rg o_86_4.eq_1 <| xg c_86_5.eq_1 <| rg o_86_6.eq_1 <| rg o_86_7.eq_1 <| xg c_86_8.eq_1 <| rg o_86_9.eq_1 <| xg z4y.eq_1 <| xg z4z.eq_1 <| xg z40.eq_1 <| xg z41.eq_1 <| rg z42.eq_1 <| xg z43.eq_1 <| xg z44.eq_1 <| @ex_of T _ _ z45.eq_1
def zbr1 := @vd T F.zn9 z47 [0, 0] zbmo rfl rfl
theorem zbr2 : z47.res = [.tmp 4] ∧ z47.rets = [[2]] ∧ z47.body = (.seq (.reg o_86_1) z45) := ⟨rfl, rfl, rfl⟩
def zbr3 := rg o_87_1.eq_1 <| rg o_87_2.eq_1 <| @ex_of T _ _ c_87_3.eq_1
def zbr4 := @vd T F.zn7 z49 [0] zbmp rfl rfl
theorem zbr5 : z49.res = [.tmp 2] ∧ z49.rets = [[]] ∧ z49.body = (.seq (.reg o_87_1) c_87_3) := ⟨rfl, rfl, rfl⟩
def zbr6 := rg o_91_1.eq_1 <| rg o_91_2.eq_1 <| rg o_91_3.eq_1 <| rg o_91_4.eq_1 <| rg o_91_5.eq_1 <| rg o_91_6.eq_1 <| rg o_91_7.eq_1 <| xg c_91_8.eq_1 <| xg c_91_9.eq_1 <| xg z5a.eq_1 <| rg z5b.eq_1 <| xg z5c.eq_1 <| xg z5d.eq_1 <| xg z5e.eq_1 <| xg z5f.eq_1 <| xg z5g.eq_1 <| rg z5h.eq_1 <| rg z5i.eq_1 <| rg z5j.eq_1 <| rg z5k.eq_1 <| rg z5l.eq_1 <| xg z5m.eq_1 <| rg z5n.eq_1 <| xg z5o.eq_1 <| xg z5p.eq_1 <| xg z5q.eq_1 <| xg z5r.eq_1 <| xg z5s.eq_1 <| rg z5t.eq_1 <| xg z5u.eq_1 <| xg z5v.eq_1 <| xg z5w.eq_1 <| xg z5x.eq_1 <| @ex_of T _ _ z5y.eq_1
def zbr7 := @vd T F.znp z50 [0] zbmq rfl rfl
theorem zbr8 : z50.res = [.tmp 2] ∧ z50.rets = [[2]] ∧ z50.body = (.seq (.reg o_91_1) z5y) := ⟨rfl, rfl, rfl⟩
def zbr9 := rg o_94_1.eq_1 <| rg o_94_2.eq_1 <| @ex_of T _ _ c_94_3.eq_1
def zbsa := @vi T F.zo4 z52 zbmr rfl
theorem zbsb {n : Nat} {H : Hp} {vs : List V} : (orc T (n + 1)).inl F.zo4 vs H = finI H.length false [.tmp 3] (unw T (orc T n) n H.length [] (exec T (orc T n) n H.length (.seq (.reg o_94_1) c_94_3) (params 0 vs) H)) := by rw [zhy, zbmr, y8, zhw]; rfl
def zbsc := rg o_95_1.eq_1 <| rg o_95_2.eq_1 <| @ex_of T _ _ c_95_3.eq_1
def zbsd := @vi T F.zo5 z54 zbms rfl
theorem zbse {n : Nat} {H : Hp} {vs : List V} : (orc T (n + 1)).inl F.zo5 vs H = finI H.length false [.tmp 4] (unw T (orc T n) n H.length [] (exec T (orc T n) n H.length (.seq (.reg o_95_1) c_95_3) (params 0 vs) H)) := by rw [zhy, zbms, y8, zhw]; rfl
def zbsf := rg o_96_1.eq_1 <| rg o_96_2.eq_1 <| @ex_of T _ _ c_96_3.eq_1
def zbsg := @vd T F.zjx z56 [0] zbmt rfl rfl
theorem zbsh : z56.res = [.tmp 2] ∧ z56.rets = [[]] ∧ z56.body = (.seq (.reg o_96_1) c_96_3) := ⟨rfl, rfl, rfl⟩
def zbsi := rg o_97_1.eq_1 <| rg o_97_2.eq_1 <| @ex_of T _ _ c_97_3.eq_1
def zbsj := @vd T F.zjw z58 [0] zbmu rfl rfl
theorem zbsk : z58.res = [.tmp 2] ∧ z58.rets = [[]] ∧ z58.body = (.seq (.reg o_97_1) c_97_3) := ⟨rfl, rfl, rfl⟩
def zbsl := rg o_98_1.eq_1 <| rg o_98_2.eq_1 <| rg o_98_3.eq_1 <| rg o_98_4.eq_1 <| xg c_98_5.eq_1 <| rg o_98_6.eq_1 <| rg o_98_7.eq_1 <| xg c_98_8.eq_1 <| rg o_98_9.eq_1 <| xg z59.eq_1 <| rg z6a.eq_1 <| xg z6b.eq_1 <| xg z6c.eq_1 <| xg z6d.eq_1 <| xg z6e.eq_1 <| rg z6f.eq_1 <| xg z6g.eq_1 <| xg z6h.eq_1 <| @ex_of T _ _ z6i.eq_1
def zbsm := @vd T F.zjz z6k [0, 0] zbmv rfl rfl
theorem zbsn : z6k.res = [.tmp 4] ∧ z6k.rets = [[]] ∧ z6k.body = (.seq (.reg o_98_1) z6i) := ⟨rfl, rfl, rfl⟩
def zbso := rg o_99_1.eq_1 <| rg o_99_2.eq_1 <| @ex_of T _ _ c_99_3.eq_1
def zbsp := @vd T F.zj3 z6m [0] zbmw rfl rfl
theorem zbsq : z6m.res = [.tmp 2] ∧ z6m.rets = [[]] ∧ z6m.body = (.seq (.reg o_99_1) c_99_3) := ⟨rfl, rfl, rfl⟩
def zbsr := rg z6n.eq_1 <| rg z6o.eq_1 <| xg z6p.eq_1 <| rg z6q.eq_1 <| rg z6r.eq_1 <| rg z6s.eq_1 <| xg z6t.eq_1 <| xg z6u.eq_1 <| rg z6v.eq_1 <| xg z6w.eq_1 <| xg z6x.eq_1 <| @ex_of T _ _ z6y.eq_1
def zbss := @vi T F.zo6 z60 zbmx rfl
theorem zbst {n : Nat} {H : Hp} {vs : List V} : (orc T (n + 1)).inl F.zo6 vs H = finI H.length false [.tmp 4] (unw T (orc T n) n H.length [] (exec T (orc T n) n H.length (.seq (.reg z6n) z6y) (params 0 vs) H)) := by rw [zhy, zbmx, y8, zhw]; rfl
def zbsu := rg z61.eq_1 <| rg z62.eq_1 <| @ex_of T _ _ z63.eq_1
def zbsv := @vd T F.zlg z65 [0] zbmy rfl rfl
theorem zbsw : z65.res = [.tmp 2] ∧ z65.rets = [[]] ∧ z65.body = (.seq (.reg z61) z63) := ⟨rfl, rfl, rfl⟩
def zbsx := rg z66.eq_1 <| rg z67.eq_1 <| rg z68.eq_1 <| rg z69.eq_1 <| xg z7a.eq_1 <| rg z7b.eq_1 <| xg z7c.eq_1 <| xg z7d.eq_1 <| @ex_of T _ _ z7e.eq_1
def zbsy := @vd T F.zlj z7g [0] zbmz rfl rfl
theorem zbsz : z7g.res = [.tmp 2, .tmp 3] ∧ z7g.rets = [[], []] ∧ z7g.body = (.seq (.reg z66) z7e) := ⟨rfl, rfl, rfl⟩
def zbs0 := rg z7h.eq_1 <| rg z7i.eq_1 <| rg z7j.eq_1 <| xg z7k.eq_1 <| rg z7l.eq_1 <| rg z7m.eq_1 <| rg z7n.eq_1 <| rg z7o.eq_1 <| rg z7p.eq_1 <| xg z7q.eq_1 <| xg z7r.eq_1 <| rg z7s.eq_1 <| xg z7t.eq_1 <| xg z7u.eq_1 <| xg z7v.eq_1 <| xg z7w.eq_1 <| xg z7x.eq_1 <| rg z7y.eq_1 <| xg z7z.eq_1 <| xg z70.eq_1 <| @ex_of T _ _ z71.eq_1
def zbs1 := @vd T F.zlv z73 [0, 0] zbm0 rfl rfl
theorem zbs2 : z73.res = [.tmp 4] ∧ z73.rets = [[]] ∧ z73.body = (.seq (.reg z7h) z71) := ⟨rfl, rfl, rfl⟩
def zbs3 := rg z74.eq_1 <| rg z75.eq_1 <| @ex_of T _ _ z76.eq_1
def zbs4 := @vd T F.zlt z78 [0, 0] zbm1 rfl rfl
theorem zbs5 : z78.res = [.tmp 4] ∧ z78.rets = [[2]] ∧ z78.body = (.seq (.reg z74) z76) := ⟨rfl, rfl, rfl⟩
def zbs6 := rg z79.eq_1 <| rg z8a.eq_1 <| rg z8b.eq_1 <| xg z8c.eq_1 <| rg z8d.eq_1 <| xg z8e.eq_1 <| @ex_of T _ _ z8f.eq_1
def zbs7 := @vd T F.zlw z8h [0] zbm2 rfl rfl
theorem zbs8 : z8h.res = [.tmp 2] ∧ z8h.rets = [[2]] ∧ z8h.body = (.seq (.reg z79) z8f) := ⟨rfl, rfl, rfl⟩
def zbs9 := rg z8i.eq_1 <| rg z8j.eq_1 <| rg z8k.eq_1 <| rg z8l.eq_1 <| xg z8m.eq_1 <| rg z8n.eq_1 <| xg z8o.eq_1 <| xg z8p.eq_1 <| xg z8q.eq_1 <| xg z8r.eq_1 <| @ex_of T _ _ z8s.eq_1
def zbta := @vi T F.zo7 z8u zbm3 rfl
theorem zbtb {n : Nat} {H : Hp} {vs : List V} : (orc T (n + 1)).inl F.zo7 vs H = finI H.length false [] (unw T (orc T n) n H.length [] (exec T (orc T n) n H.length (.seq (.reg z8i) z8s) (params 0 vs) H)) := by rw [zhy, zbm3, y8, zhw]; rfl
def zbtc := rg z8v.eq_1 <| rg z8w.eq_1 <| @ex_of T _ _ z8x.eq_1
def zbtd := @vi T F.zo8 z8z zbm4 rfl
theorem zbte {n : Nat} {H : Hp} {vs : List V} : (orc T (n + 1)).inl F.zo8 vs H = finI H.length false [.tmp 2] (unw T (orc T n) n H.length [] (exec T (orc T n) n H.length (.seq (.reg z8v) z8x) (params 0 vs) H)) := by rw [zhy, zbm4, y8, zhw]; rfl
def zbtf := rg z80.eq_1 <| rg z81.eq_1 <| @ex_of T _ _ z82.eq_1
def zbtg := @vd T F.zm6 z84 [0] zbm5 rfl rfl
theorem zbth : z84.res = [.tmp 2] ∧ z84.rets = [[]] ∧ z84.body = (.seq (.reg z80) z82) := ⟨rfl, rfl, rfl⟩
def zbti := rg z85.eq_1 <| rg z86.eq_1 <| @ex_of T _ _ z87.eq_1
def zbtj := @vd T F.zm5 z89 [0] zbm6 rfl rfl
theorem zbtk : z89.res = [.tmp 2] ∧ z89.rets = [[]] ∧ z89.body = (.seq (.reg z85) z87) := ⟨rfl, rfl, rfl⟩
def zbtl := rg z9a.eq_1 <| rg z9b.eq_1 <| rg z9c.eq_1 <| rg z9d.eq_1 <| rg z9e.eq_1 <| rg z9f.eq_1 <| xg z9g.eq_1 <| xg z9h.eq_1 <| rg z9i.eq_1 <| xg z9j.eq_1 <| xg z9k.eq_1 <| xg z9l.eq_1 <| xg z9m.eq_1 <| xg z9n.eq_1 <| rg z9o.eq_1 <| xg z9p.eq_1 <| @ex_of T _ _ z9q.eq_1
def zbtm := @vd T F.zm8 z9s [0] zbm7 rfl rfl
theorem zbtn : z9s.res = [.tmp 2] ∧ z9s.rets = [[]] ∧ z9s.body = (.seq (.reg z9a) z9q) := ⟨rfl, rfl, rfl⟩
def zbto := rg z9t.eq_1 <| rg z9u.eq_1 <| xg z9v.eq_1 <| rg z9w.eq_1 <| rg z9x.eq_1 <| xg z9y.eq_1 <| xg z9z.eq_1 <| xg z90.eq_1 <| rg z91.eq_1 <| xg z92.eq_1 <| @ex_of T _ _ z93.eq_1
def zbtp := @vd T F.zne z95 [2, 0] zbm8 rfl rfl
theorem zbtq : z95.res = [.tmp 4] ∧ z95.rets = [[2]] ∧ z95.body = (.seq (.reg z9t) z93) := ⟨rfl, rfl, rfl⟩
def zbtr := rg z96.eq_1 <| rg z97.eq_1 <| @ex_of T _ _ z98.eq_1
def zbts := @vd T F.znj zbaa [0] zbm9 rfl rfl
theorem zbtt : zbaa.res = [.tmp 2] ∧ zbaa.rets = [[]] ∧ zbaa.body = (.seq (.reg z96) z98) := ⟨rfl, rfl, rfl⟩
def zbtu := rg zbab.eq_1 <| rg zbac.eq_1 <| @ex_of T _ _ zbad.eq_1
def zbtv := @vd T F.znv zbaf [0] zbna rfl rfl
theorem zbtw : zbaf.res = [.tmp 2] ∧ zbaf.rets = [[]] ∧ zbaf.body = (.seq (.reg zbab) zbad) := ⟨rfl, rfl, rfl⟩
def zbtx := rg zbag.eq_1 <| rg zbah.eq_1 <| rg zbai.eq_1 <| xg zbaj.eq_1 <| rg zbak.eq_1 <| rg zbal.eq_1 <| xg zbam.eq_1 <| xg zban.eq_1 <| xg zbao.eq_1 <| rg zbap.eq_1 <| xg zbaq.eq_1 <| xg zbar.eq_1 <| @ex_of T _ _ zbas.eq_1
def zbty := @vd T F.znz zbau [0] zbnb rfl rfl
theorem zbtz : zbau.res = [.tmp 2] ∧ zbau.rets = [[2]] ∧ zbau.body = (.seq (.reg zbag) zbas) := ⟨rfl, rfl, rfl⟩
def zbt0 := rg zbav.eq_1 <| rg zbaw.eq_1 <| rg zbax.eq_1 <| xg zbay.eq_1 <| rg zbaz.eq_1 <| xg zba0.eq_1 <| @ex_of T _ _ zba1.eq_1
def zbt1 := @vd T F.zn1 zba3 [0] zbnc rfl rfl
theorem zbt2 : zba3.res = [.tmp 2] ∧ zba3.rets = [[]] ∧ zba3.body = (.seq (.reg zbav) zba1) := ⟨rfl, rfl, rfl⟩
def zbt3 := rg zba4.eq_1 <| rg zba5.eq_1 <| rg zba6.eq_1 <| rg zba7.eq_1 <| xg zba8.eq_1 <| rg zba9.eq_1 <| rg zbba.eq_1 <| xg zbbb.eq_1 <| xg zbbc.eq_1 <| xg zbbd.eq_1 <| xg zbbe.eq_1 <| rg zbbf.eq_1 <| xg zbbg.eq_1 <| xg zbbh.eq_1 <| @ex_of T _ _ zbbi.eq_1
def zbt4 := @vd T F.zn6 zbbk [0, 0] zbnd rfl rfl
theorem zbt5 : zbbk.res = [.tmp 4] ∧ zbbk.rets = [[]] ∧ zbbk.body = (.seq (.reg zba4) zbbi) := ⟨rfl, rfl, rfl⟩
def zbt6 := rg zbbl.eq_1 <| rg zbbm.eq_1 <| rg zbbn.eq_1 <| xg zbbo.eq_1 <| rg zbbp.eq_1 <| rg zbbq.eq_1 <| xg zbbr.eq_1 <| rg zbbs.eq_1 <| xg zbbt.eq_1 <| xg zbbu.eq_1 <| xg zbbv.eq_1 <| xg zbbw.eq_1 <| rg zbbx.eq_1 <| xg zbby.eq_1 <| @ex_of T _ _ zbbz.eq_1
def zbt7 := @vd T F.zof zbb1 [0] zbne rfl rfl
theorem zbt8 : zbb1.res = [.tmp 2] ∧ zbb1.rets = [[]] ∧ zbb1.body = (.seq (.reg zbbl) zbbz) := ⟨rfl, rfl, rfl⟩
def zbt9 := rg zbb2.eq_1 <| rg zbb3.eq_1 <| rg zbb4.eq_1 <| rg zbb5.eq_1 <| xg zbb6.eq_1 <| rg zbb7.eq_1 <| xg zbb8.eq_1 <| xg zbb9.eq_1 <| @ex_of T _ _ zbca.eq_1
def zbua := @vd T F.zoi zbcc [0] zbnf rfl rfl
theorem zbub : zbcc.res = [.tmp 2, .tmp 3] ∧ zbcc.rets = [[], []] ∧ zbcc.body = (.seq (.reg zbb2) zbca) := ⟨rfl, rfl, rfl⟩
def zbuc := rg zbcd.eq_1 <| rg zbce.eq_1 <| rg zbcf.eq_1 <| rg zbcg.eq_1 <| xg zbch.eq_1 <| rg zbci.eq_1 <| rg zbcj.eq_1 <| xg zbck.eq_1 <| rg zbcl.eq_1 <| xg zbcm.eq_1 <| xg zbcn.eq_1 <| xg zbco.eq_1 <| xg zbcp.eq_1 <| rg zbcq.eq_1 <| xg zbcr.eq_1 <| xg zbcs.eq_1 <| @ex_of T _ _ zbct.eq_1
def zbud := @vd T F.zok zbcv [0] zbng rfl rfl
theorem zbue : zbcv.res = [.tmp 2] ∧ zbcv.rets = [[]] ∧ zbcv.body = (.seq (.reg zbcd) zbct) := ⟨rfl, rfl, rfl⟩
def zbuf := rg zbcw.eq_1 <| rg zbcx.eq_1 <| rg zbcy.eq_1 <| rg zbcz.eq_1 <| rg zbc0.eq_1 <| xg zbc1.eq_1 <| xg zbc2.eq_1 <| xg zbc3.eq_1 <| @ex_of T _ _ zbc4.eq_1
def zbug := @vi T F.zo9 zbc6 zbnh rfl
theorem zbuh {n : Nat} {H : Hp} {vs : List V} : (orc T (n + 1)).inl F.zo9 vs H = finI H.length false [.tmp 2] (unw T (orc T n) n H.length [] (exec T (orc T n) n H.length (.seq (.reg zbcw) zbc4) (params 0 vs) H)) := by rw [zhy, zbnh, y8, zhw]; rfl
def zbui := rg zbc7.eq_1 <| rg zbc8.eq_1 <| rg zbc9.eq_1 <| rg zbda.eq_1 <| rg zbdb.eq_1 <| xg zbdc.eq_1 <| xg zbdd.eq_1 <| xg zbde.eq_1 <| @ex_of T _ _ zbdf.eq_1
def zbuj := @vi T F.zpa zbdh zbni rfl
theorem zbuk {n : Nat} {H : Hp} {vs : List V} : (orc T (n + 1)).inl F.zpa vs H = finI H.length false [.tmp 2] (unw T (orc T n) n H.length [] (exec T (orc T n) n H.length (.seq (.reg zbc7) zbdf) (params 0 vs) H)) := by rw [zhy, zbni, y8, zhw]; rfl
def zbul := rg zbdi.eq_1 <| rg zbdj.eq_1 <| rg zbdk.eq_1 <| rg zbdl.eq_1 <| rg zbdm.eq_1 <| rg zbdn.eq_1 <| xg zbdo.eq_1 <| rg zbdp.eq_1 <| xg zbdq.eq_1 <| xg zbdr.eq_1 <| xg zbds.eq_1 <| xg zbdt.eq_1 <| xg zbdu.eq_1 <| rg zbdv.eq_1 <| xg zbdw.eq_1 <| xg zbdx.eq_1 <| @ex_of T _ _ zbdy.eq_1
def zbum := @vd T F.zlr zbd0 [0, 0] zbnj rfl rfl
theorem zbun : zbd0.res = [.tmp 4] ∧ zbd0.rets = [[2]] ∧ zbd0.body = (.seq (.reg zbdi) zbdy) := ⟨rfl, rfl, rfl⟩
def zbuo := rg zbd1.eq_1 <| rg zbd2.eq_1 <| rg zbd3.eq_1 <| rg zbd4.eq_1 <| rg zbd5.eq_1 <| rg zbd6.eq_1 <| rg zbd7.eq_1 <| xg zbd8.eq_1 <| rg zbd9.eq_1 <| xg zbea.eq_1 <| xg zbeb.eq_1 <| xg zbec.eq_1 <| xg zbed.eq_1 <| xg zbee.eq_1 <| rg zbef.eq_1 <| xg zbeg.eq_1 <| xg zbeh.eq_1 <| xg zbei.eq_1 <| @ex_of T _ _ zbej.eq_1
def zbup := @vd T F.zlo zbel [0, 0] zbnk rfl rfl
theorem zbuq : zbel.res = [.tmp 4] ∧ zbel.rets = [[]] ∧ zbel.body = (.seq (.reg zbd1) zbej) := ⟨rfl, rfl, rfl⟩
def zbur := rg zbem.eq_1 <| rg zben.eq_1 <| xg zbeo.eq_1 <| rg zbep.eq_1 <| rg zbeq.eq_1 <| rg zber.eq_1 <| xg zbes.eq_1 <| xg zbet.eq_1 <| rg zbeu.eq_1 <| xg zbev.eq_1 <| xg zbew.eq_1 <| @ex_of T _ _ zbex.eq_1
def zbus := @vi T F.zpb zbez zbnl rfl
theorem zbut {n : Nat} {H : Hp} {vs : List V} : (orc T (n + 1)).inl F.zpb vs H = finI H.length false [.tmp 4] (unw T (orc T n) n H.length [] (exec T (orc T n) n H.length (.seq (.reg zbem) zbex) (params 0 vs) H)) := by rw [zhy, zbnl, y8, zhw]; rfl
def zbuu := rg zbe0.eq_1 <| rg zbe1.eq_1 <| rg zbe2.eq_1 <| rg zbe3.eq_1 <| rg zbe4.eq_1 <| rg zbe5.eq_1 <| xg zbe6.eq_1 <| xg zbe7.eq_1 <| rg zbe8.eq_1 <| xg zbe9.eq_1 <| xg zbfa.eq_1 <| xg zbfb.eq_1 <| xg zbfc.eq_1 <| xg zbfd.eq_1 <| rg zbfe.eq_1 <| xg zbff.eq_1 <| @ex_of T _ _ zbfg.eq_1
def zbuv := @vi T F.zpc zbfi zbnm rfl
theorem zbuw {n : Nat} {H : Hp} {vs : List V} : (orc T (n + 1)).inl F.zpc vs H = finI H.length false [.tmp 4] (unw T (orc T n) n H.length [] (exec T (orc T n) n H.length (.seq (.reg zbe0) zbfg) (params 0 vs) H)) := by rw [zhy, zbnm, y8, zhw]; rfl
def zbux := rg zbfj.eq_1 <| rg zbfk.eq_1 <| @ex_of T _ _ zbfl.eq_1
def zbuy := @vi T F.zpd zbfn zbnn rfl
theorem zbuz {n : Nat} {H : Hp} {vs : List V} : (orc T (n + 1)).inl F.zpd vs H = finI H.length false [.tmp 4] (unw T (orc T n) n H.length [] (exec T (orc T n) n H.length (.seq (.reg zbfj) zbfl) (params 0 vs) H)) := by rw [zhy, zbnn, y8, zhw]; rfl
def zbu0 := rg zbfo.eq_1 <| rg zbfp.eq_1 <| @ex_of T _ _ zbfq.eq_1
def zbu1 := @vd T F.zld zbfs [0] zbno rfl rfl
theorem zbu2 : zbfs.res = [.tmp 2] ∧ zbfs.rets = [[]] ∧ zbfs.body = (.seq (.reg zbfo) zbfq) := ⟨rfl, rfl, rfl⟩
def zbu3 := rg zbft.eq_1 <| rg zbfu.eq_1 <| rg zbfv.eq_1 <| rg zbfw.eq_1 <| rg zbfx.eq_1 <| rg zbfy.eq_1 <| rg zbfz.eq_1 <| rg zbf0.eq_1 <| xg zbf1.eq_1 <| rg zbf2.eq_1 <| xg zbf3.eq_1 <| rg zbf4.eq_1 <| xg zbf5.eq_1 <| xg zbf6.eq_1 <| xg zbf7.eq_1 <| rg zbf8.eq_1 <| xg zbf9.eq_1 <| rg zbga.eq_1 <| xg zbgb.eq_1 <| xg zbgc.eq_1 <| xg zbgd.eq_1 <| xg zbge.eq_1 <| rg zbgf.eq_1 <| xg zbgg.eq_1 <| xg zbgh.eq_1 <| xg zbgi.eq_1 <| xg zbgj.eq_1 <| xg zbgk.eq_1 <| rg zbgl.eq_1 <| xg zbgm.eq_1 <| xg zbgn.eq_1 <| @ex_of T _ _ zbgo.eq_1
def zbu4 := @vd T F.zli zbgq [0] zbnp rfl rfl
theorem zbu5 : zbgq.res = [.tmp 2, .tmp 3] ∧ zbgq.rets = [[], []] ∧ zbgq.body = (.seq (.reg zbft) zbgo) := ⟨rfl, rfl, rfl⟩
def zbu6 := rg zbgr.eq_1 <| rg zbgs.eq_1 <| @ex_of T _ _ zbgt.eq_1
def zbu7 := @vi T F.zpe zbgv zbnq rfl
theorem zbu8 {n : Nat} {H : Hp} {vs : List V} : (orc T (n + 1)).inl F.zpe vs H = finI H.length false [.tmp 2] (unw T (orc T n) n H.length [] (exec T (orc T n) n H.length (.seq (.reg zbgr) zbgt) (params 0 vs) H)) := by rw [zhy, zbnq, y8, zhw]; rfl
def zbu9 := rg zbgw.eq_1 <| rg zbgx.eq_1 <| rg zbgy.eq_1 <| rg zbgz.eq_1 <| xg zbg0.eq_1 <| xg zbg1.eq_1 <| @ex_of T _ _ zbg2.eq_1
def zbva := @vi T F.zpf zbg4 zbnr rfl
theorem zbvb {n : Nat} {H : Hp} {vs : List V} : (orc T (n + 1)).inl F.zpf vs H = finI H.length false [.tmp 6] (unw T (orc T n) n H.length [] (exec T (orc T n) n H.length (.seq (.reg zbgw) zbg2) (params 0 vs) H)) := by rw [zhy, zbnr, y8, zhw]; rfl
def zbvc := rg zbg5.eq_1 <| rg zbg6.eq_1 <| rg zbg7.eq_1 <| rg zbg8.eq_1 <| xg zbg9.eq_1 <| rg zbha.eq_1 <| xg zbhb.eq_1 <| xg zbhc.eq_1 <| @ex_of T _ _ zbhd.eq_1
def zbvd := @vd T F.zlz zbhf [0] zbns rfl rfl
theorem zbve : zbhf.res = [.tmp 2, .tmp 3] ∧ zbhf.rets = [[], []] ∧ zbhf.body = (.seq (.reg zbg5) zbhd) := ⟨rfl, rfl, rfl⟩
def zbvf := rg zbhg.eq_1 <| rg zbhh.eq_1 <| @ex_of T _ _ zbhi.eq_1
def zbvg := @vd T F.zm2 zbhk [0] zbnt rfl rfl
theorem zbvh : zbhk.res = [.tmp 2] ∧ zbhk.rets = [[]] ∧ zbhk.body = (.seq (.reg zbhg) zbhi) := ⟨rfl, rfl, rfl⟩
def zbvi := rg zbhl.eq_1 <| rg zbhm.eq_1 <| rg zbhn.eq_1 <| rg zbho.eq_1 <| xg zbhp.eq_1 <| rg zbhq.eq_1 <| rg zbhr.eq_1 <| rg zbhs.eq_1 <| rg zbht.eq_1 <| xg zbhu.eq_1 <| xg zbhv.eq_1 <| xg zbhw.eq_1 <| rg zbhx.eq_1 <| xg zbhy.eq_1 <| xg zbhz.eq_1 <| xg zbh0.eq_1 <| xg zbh1.eq_1 <| rg zbh2.eq_1 <| xg zbh3.eq_1 <| xg zbh4.eq_1 <| @ex_of T _ _ zbh5.eq_1
def zbvj := @vd T F.zn4 zbh7 [0] zbnu rfl rfl
theorem zbvk : zbh7.res = [.tmp 2] ∧ zbh7.rets = [[]] ∧ zbh7.body = (.seq (.reg zbhl) zbh5) := ⟨rfl, rfl, rfl⟩
def zbvl := rg zbh8.eq_1 <| rg zbh9.eq_1 <| rg zbia.eq_1 <| rg zbib.eq_1 <| rg zbic.eq_1 <| xg zbid.eq_1 <| rg zbie.eq_1 <| rg zbif.eq_1 <| rg zbig.eq_1 <| xg zbih.eq_1 <| rg zbii.eq_1 <| rg zbij.eq_1 <| rg zbik.eq_1 <| rg zbil.eq_1 <| rg zbim.eq_1 <| xg zbin.eq_1 <| rg zbio.eq_1 <| xg zbip.eq_1 <| xg zbiq.eq_1 <| xg zbir.eq_1 <| xg zbis.eq_1 <| xg zbit.eq_1 <| xg zbiu.eq_1 <| rg zbiv.eq_1 <| xg zbiw.eq_1 <| xg zbix.eq_1 <| xg zbiy.eq_1 <| xg zbiz.eq_1 <| rg zbi0.eq_1 <| xg zbi1.eq_1 <| xg zbi2.eq_1 <| xg zbi3.eq_1 <| @ex_of T _ _ zbi4.eq_1
def zbvm := @vd T F.zoh zbi6 [0] zbnv rfl rfl
theorem zbvn : zbi6.res = [.tmp 2, .tmp 3] ∧ zbi6.rets = [[], []] ∧ zbi6.body = (.seq (.reg zbh8) zbi4) := ⟨rfl, rfl, rfl⟩
def zbvo := rg zbi7.eq_1 <| rg zbi8.eq_1 <| rg zbi9.eq_1 <| rg zbja.eq_1 <| xg zbjb.eq_1 <| rg zbjc.eq_1 <| xg zbjd.eq_1 <| xg zbje.eq_1 <| @ex_of T _ _ zbjf.eq_1
def zbvp := @vd T F.zon zbjh [0] zbnw rfl rfl
theorem zbvq : zbjh.res = [.tmp 2, .tmp 3] ∧ zbjh.rets = [[], []] ∧ zbjh.body = (.seq (.reg zbi7) zbjf) := ⟨rfl, rfl, rfl⟩
def zbvr := rg zbji.eq_1 <| rg zbjj.eq_1 <| rg zbjk.eq_1 <| rg zbjl.eq_1 <| rg zbjm.eq_1 <| rg zbjn.eq_1 <| rg zbjo.eq_1 <| rg zbjp.eq_1 <| rg zbjq.eq_1 <| rg zbjr.eq_1 <| xg zbjs.eq_1 <| rg zbjt.eq_1 <| xg zbju.eq_1 <| xg zbjv.eq_1 <| xg zbjw.eq_1 <| xg zbjx.eq_1 <| xg zbjy.eq_1 <| rg zbjz.eq_1 <| xg zbj0.eq_1 <| xg zbj1.eq_1 <| xg zbj2.eq_1 <| rg zbj3.eq_1 <| xg zbj4.eq_1 <| xg zbj5.eq_1 <| xg zbj6.eq_1 <| xg zbj7.eq_1 <| xg zbj8.eq_1 <| rg zbj9.eq_1 <| xg zbka.eq_1 <| xg zbkb.eq_1 <| @ex_of T _ _ zbkc.eq_1
def zbvs := @vd T F.zlm zbke [] zbnx rfl rfl
theorem zbvt : zbke.res = [.cell 0 256 true] ∧ zbke.rets = [[]] ∧ zbke.body = (.seq (.reg zbji) zbkc) := ⟨rfl, rfl, rfl⟩
def zbvu := rg zbkf.eq_1 <| rg zbkg.eq_1 <| rg zbkh.eq_1 <| rg zbki.eq_1 <| rg zbkj.eq_1 <| rg zbkk.eq_1 <| xg zbkl.eq_1 <| xg zbkm.eq_1 <| rg zbkn.eq_1 <| xg zbko.eq_1 <| xg zbkp.eq_1 <| xg zbkq.eq_1 <| xg zbkr.eq_1 <| xg zbks.eq_1 <| rg zbkt.eq_1 <| xg zbku.eq_1 <| @ex_of T _ _ zbkv.eq_1
def zbvv := @vi T F.zpg zbkx zbny rfl
theorem zbvw {n : Nat} {H : Hp} {vs : List V} : (orc T (n + 1)).inl F.zpg vs H = finI H.length false [.tmp 4] (unw T (orc T n) n H.length [] (exec T (orc T n) n H.length (.seq (.reg zbkf) zbkv) (params 0 vs) H)) := by rw [zhy, zbny, y8, zhw]; rfl
def zbvx := rg zbky.eq_1 <| rg zbkz.eq_1 <| @ex_of T _ _ zbk0.eq_1
def zbvy := @vd T F.zly zbk2 [0] zbnz rfl rfl
theorem zbvz : zbk2.res = [.tmp 2] ∧ zbk2.rets = [[]] ∧ zbk2.body = (.seq (.reg zbky) zbk0) := ⟨rfl, rfl, rfl⟩
def zbv0 := rg zbk3.eq_1 <| rg zbk4.eq_1 <| rg zbk5.eq_1 <| xg zbk6.eq_1 <| rg zbk7.eq_1 <| xg zbk8.eq_1 <| @ex_of T _ _ zbk9.eq_1
def zbv1 := @vd T F.zom zblb [0] zbn0 rfl rfl
theorem zbv2 : zblb.res = [.tmp 2] ∧ zblb.rets = [[]] ∧ zblb.body = (.seq (.reg zbk3) zbk9) := ⟨rfl, rfl, rfl⟩
end Go.Dvm.C
