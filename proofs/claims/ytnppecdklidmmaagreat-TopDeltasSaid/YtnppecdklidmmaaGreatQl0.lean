/- What each piece of the code comes to: part 1. -/
import Derived.Test.YtnppecdklidmmaaGreatQc0
set_option linter.all false
set_option maxRecDepth 100000
set_option maxHeartbeats 4000000
namespace Go.Dvm.C
open Go Go.Dvm
def ke := y5 @Ow.enc.eq_1 <| y5 @Sl.enc.eq_1 <| y5 @I.zj4.enc.eq_1 <| y5 @I.zj6.enc.eq_1 <| y5 @I.zj5.enc.eq_1 <| y5 @I.zj7.enc.eq_1 <| y5 @I.zj8.enc.eq_1 <| y5 @arrEnc.eq_1 <| y5 @I.zj9.enc.eq_1 <| y5 @I.zka.enc.eq_1 <| y5 @I.zkb.enc.eq_1 <| y5 @I.zkc.enc.eq_1 <| @I.zkd.enc.eq_1
def kf := y5 @ke @kn
def tab : List (Nat × MFun) := [(3, zqw), (6, zqy), (7, zq0), (8, zq2), (9, zq4), (10, zrn), (11, zr7), (12, zsf), (13, zsu), (14, zsw), (16, zsy), (23, zs6), (24, zs8), (25, zta), (26, ztm), (27, ztp), (28, ztr), (29, zt9), (30, zub), (31, zuo), (32, zus), (33, zuu), (34, zuw), (35, zuy), (36, zu0), (37, zu2), (38, zu4), (39, zu6), (40, zu8), (41, zva), (42, zvc), (43, zvn), (44, zwa), (45, zwo), (46, zwq), (47, zww), (49, zxd), (52, zxk), (59, zxm), (60, zxo), (61, zxq), (62, zxu), (63, zxw), (71, zxy), (72, zx3), (73, zx5), (74, zx7), (75, zyd), (76, zys), (77, zy8), (78, zzm), (79, zzw), (80, zzy), (81, zz2), (82, zz4), (83, zz5), (84, zz7), (85, zz9), (86, z0b), (87, z0g), (88, z0i), (89, z0k), (90, z0m), (91, z0o), (92, z0s), (93, z0u), (94, z0w), (95, z0y), (96, z1c), (97, z1e), (98, z1g), (99, z1i), (100, z1x), (101, z14), (102, z2d), (103, z2h), (104, z2q), (105, z25), (106, z3q), (107, z3u), (108, z33), (109, z4a), (110, z4p), (115, z4u), (124, z4y), (125, z5c), (126, z5m), (144, z5r), (145, z53), (146, z6b), (147, z6k), (148, z6x), (149, z7h), (152, z7u), (153, z7y), (154, z77), (155, z8b), (156, z8p), (157, z8t), (158, z8x), (159, z81), (160, z9m), (161, z9q), (162, z9w), (163, z94), (164, zbah), (165, zbao), (166, zbas), (167, zbax), (168, zba4), (169, zba9), (170, zbbd), (171, zbbf), (172, zbbj), (173, zbbm), (174, zbbs), (177, zbbz), (205, zbb1), (209, zbb2), (211, zbcf), (212, zbc1), (213, zbde), (214, zbdi), (216, zbd1)]
abbrev T : Nat → Option MFun := look tab
theorem zbd2 : T F.zpo = some zqw := rfl
theorem zbd3 : T F.zmp = some zqy := rfl
theorem zbd4 : T F.zmx = some zq0 := rfl
theorem zbd5 : T F.zle = some zq2 := rfl
theorem zbd6 : T F.zm1 = some zq4 := rfl
theorem zbd7 : T F.znd = some zrn := rfl
theorem zbd8 : T F.znt = some zr7 := rfl
theorem zbd9 : T F.zo9 = some zsf := rfl
theorem zbea : T F.zph = some zsu := rfl
theorem zbeb : T F.zpn = some zsw := rfl
theorem zbec : T F.zpp = some zsy := rfl
theorem zbed : T F.zpq = some zs6 := rfl
theorem zbee : T F.zpr = some zs8 := rfl
theorem zbef : T F.zps = some zta := rfl
theorem zbeg : T F.zmu = some ztm := rfl
theorem zbeh : T F.zmw = some ztp := rfl
theorem zbei : T F.zkl = some ztr := rfl
theorem zbej : T F.zk3 = some zt9 := rfl
theorem zbek : T F.zlb = some zub := rfl
theorem zbel : T F.zkr = some zuo := rfl
theorem zbem : T F.zm0 = some zus := rfl
theorem zben : T F.zpt = some zuu := rfl
theorem zbeo : T F.zm4 = some zuw := rfl
theorem zbep : T F.zpu = some zuy := rfl
theorem zbeq : T F.zm6 = some zu0 := rfl
theorem zber : T F.zm8 = some zu2 := rfl
theorem zbes : T F.zkg = some zu4 := rfl
theorem zbet : T F.znn = some zu6 := rfl
theorem zbeu : T F.znq = some zu8 := rfl
theorem zbev : T F.zll = some zva := rfl
theorem zbew : T F.zl4 = some zvc := rfl
theorem zbex : T F.zn4 = some zvn := rfl
theorem zbey : T F.zo8 = some zwa := rfl
theorem zbez : T F.zpe = some zwo := rfl
theorem zbe0 : T F.zpk = some zwq := rfl
theorem zbe1 : T F.zpm = some zww := rfl
theorem zbe2 : T F.zpv = some zxd := rfl
theorem zbe3 : T F.zke = some zxk := rfl
theorem zbe4 : T F.zkh = some zxm := rfl
theorem zbe5 : T F.zpw = some zxo := rfl
theorem zbe6 : T F.zpx = some zxq := rfl
theorem zbe7 : T F.zpy = some zxu := rfl
theorem zbe8 : T F.zpz = some zxw := rfl
theorem zbe9 : T F.zp0 = some zxy := rfl
theorem zbfa : T F.zmr = some zx3 := rfl
theorem zbfb : T F.zms = some zx5 := rfl
theorem zbfc : T F.zkk = some zx7 := rfl
theorem zbfd : T F.zks = some zyd := rfl
theorem zbfe : T F.zku = some zys := rfl
theorem zbff : T F.zk0 = some zy8 := rfl
theorem zbfg : T F.zk2 = some zzm := rfl
theorem zbfh : T F.zp1 = some zzw := rfl
theorem zbfi : T F.zp2 = some zzy := rfl
theorem zbfj : T F.zp3 = some zz2 := rfl
theorem zbfk : T F.zp4 = some zz4 := rfl
theorem zbfl : T F.zk4 = some zz5 := rfl
theorem zbfm : T F.zp5 = some zz7 := rfl
theorem zbfn : T F.zkm = some zz9 := rfl
theorem zbfo : T F.zkj = some z0b := rfl
theorem zbfp : T F.zko = some z0g := rfl
theorem zbfq : T F.zmy = some z0i := rfl
theorem zbfr : T F.zp6 = some z0k := rfl
theorem zbfs : T F.zni = some z0m := rfl
theorem zbft : T F.znh = some z0o := rfl
theorem zbfu : T F.znk = some z0s := rfl
theorem zbfv : T F.zlj = some z0u := rfl
theorem zbfw : T F.zli = some z0w := rfl
theorem zbfx : T F.zlk = some z0y := rfl
theorem zbfy : T F.zl3 = some z1c := rfl
theorem zbfz : T F.zly = some z1e := rfl
theorem zbf0 : T F.znx = some z1g := rfl
theorem zbf1 : T F.zn0 = some z1i := rfl
theorem zbf2 : T F.zn2 = some z1x := rfl
theorem zbf3 : T F.zn3 = some z14 := rfl
theorem zbf4 : T F.zp7 = some z2d := rfl
theorem zbf5 : T F.zp8 = some z2h := rfl
theorem zbf6 : T F.zp9 = some z2q := rfl
theorem zbf7 : T F.zpj = some z25 := rfl
theorem zbf8 : T F.zlo = some z3q := rfl
theorem zbf9 : T F.zqa = some z3u := rfl
theorem zbga : T F.zl7 = some z33 := rfl
theorem zbgb : T F.zqb = some z4a := rfl
theorem zbgc : T F.zqc = some z4p := rfl
theorem zbgd : T F.zqd = some z4u := rfl
theorem zbge : T F.zqe = some z4y := rfl
theorem zbgf : T F.zqf = some z5c := rfl
theorem zbgg : T F.zqg = some z5m := rfl
theorem zbgh : T F.zki = some z5r := rfl
theorem zbgi : T F.zkt = some z53 := rfl
theorem zbgj : T F.zkx = some z6b := rfl
theorem zbgk : T F.zkw = some z6k := rfl
theorem zbgl : T F.zkz = some z6x := rfl
theorem zbgm : T F.zk1 = some z7h := rfl
theorem zbgn : T F.zqh = some z7u := rfl
theorem zbgo : T F.zne = some z7y := rfl
theorem zbgp : T F.zqi = some z77 := rfl
theorem zbgq : T F.zlx = some z8b := rfl
theorem zbgr : T F.zlt = some z8p := rfl
theorem zbgs : T F.zlu = some z8t := rfl
theorem zbgt : T F.zqj = some z8x := rfl
theorem zbgu : T F.znu = some z81 := rfl
theorem zbgv : T F.znz = some z9m := rfl
theorem zbgw : T F.zqk = some z9q := rfl
theorem zbgx : T F.zql = some z9w := rfl
theorem zbgy : T F.zn6 = some z94 := rfl
theorem zbgz : T F.zlg = some zbah := rfl
theorem zbg0 : T F.zlm = some zbao := rfl
theorem zbg1 : T F.zl5 = some zbas := rfl
theorem zbg2 : T F.zl6 = some zbax := rfl
theorem zbg3 : T F.zl8 = some zba4 := rfl
theorem zbg4 : T F.zqm = some zba9 := rfl
theorem zbg5 : T F.zl9 = some zbbd := rfl
theorem zbg6 : T F.zqn = some zbbf := rfl
theorem zbg7 : T F.zqo = some zbbj := rfl
theorem zbg8 : T F.zqp = some zbbm := rfl
theorem zbg9 : T F.zqq = some zbbs := rfl
theorem zbha : T F.zkf = some zbbz := rfl
theorem zbhb : T F.zqr = some zbb1 := rfl
theorem zbhc : T F.zky = some zbb2 := rfl
theorem zbhd : T F.zlw = some zbcf := rfl
theorem zbhe : T F.zlr = some zbc1 := rfl
theorem zbhf : T F.zqs = some zbde := rfl
theorem zbhg : T F.zn5 = some zbdi := rfl
theorem zbhh : T F.zqu = some zbd1 := rfl
def rg {P : Prop} {c c' : List MO} (h : c = c') (p : P) := ra (T := T) h p
def xg {P : Prop} {c c' : MC} (h : c = c') (p : P) := xa (T := T) h p
def zbhi := rg o_3_1.eq_1 <| rg o_3_2.eq_1 <| rg o_3_3.eq_1 <| rg o_3_4.eq_1 <| rg o_3_5.eq_1 <| rg o_3_6.eq_1 <| y5 (@df_of T _ _ [(0, 8), (3, 8)] o_3_6.eq_1) <| rg o_3_7.eq_1 <| rg o_3_8.eq_1 <| rg o_3_9.eq_1 <| rg o_3_10.eq_1 <| rg o_3_11.eq_1 <| rg o_3_12.eq_1 <| rg o_3_13.eq_1 <| rg o_3_14.eq_1 <| rg o_3_15.eq_1 <| rg o_3_16.eq_1 <| rg o_3_17.eq_1 <| rg o_3_18.eq_1 <| rg o_3_19.eq_1 <| rg o_3_20.eq_1 <| xg c_3_21.eq_1 <| xg c_3_22.eq_1 <| xg c_3_23.eq_1 <| @ex_of T _ _ c_3_24.eq_1
def zbhj := @vd T F.zpo zqw [0, 0, 0] zbd2 rfl rfl
theorem zbhk : zqw.res = [.tmp 6] ∧ zqw.rets = [[]] ∧ zqw.body = (.seq (.reg o_3_1) (.seq (.reg o_3_2) c_3_24)) := ⟨rfl, rfl, rfl⟩
def zbhl := rg o_6_1.eq_1 <| rg o_6_2.eq_1 <| rg o_6_3.eq_1 <| rg o_6_4.eq_1 <| rg o_6_5.eq_1 <| rg o_6_6.eq_1 <| rg o_6_7.eq_1 <| @ex_of T _ _ c_6_8.eq_1
def zbhm := @vd T F.zmp zqy [] zbd3 rfl rfl
theorem zbhn : zqy.res = [.tmp 0] ∧ zqy.rets = [[]] ∧ zqy.body = (.seq (.reg o_6_1) (.seq (.reg o_6_2) c_6_8)) := ⟨rfl, rfl, rfl⟩
def zbho := rg o_7_1.eq_1 <| rg o_7_2.eq_1 <| rg o_7_3.eq_1 <| @ru_of T _ _ o_7_4.eq_1
def zbhp := @vd T F.zmx zq0 [0] zbd4 rfl rfl
theorem zbhq : zq0.res = [.tmp 2] ∧ zq0.rets = [[]] ∧ zq0.body = (.seq (.reg o_7_1) (.seq (.reg o_7_2) (.seq (.reg o_7_3) (.seq (.reg o_7_4) .ret)))) := ⟨rfl, rfl, rfl⟩
def zbhr := rg o_8_1.eq_1 <| rg o_8_2.eq_1 <| rg o_8_3.eq_1 <| rg o_8_4.eq_1 <| rg o_8_5.eq_1 <| rg o_8_6.eq_1 <| rg o_8_7.eq_1 <| rg o_8_8.eq_1 <| xg c_8_9.eq_1 <| rg o_8_10.eq_1 <| rg o_8_11.eq_1 <| y5 (@df_of T _ _ [(1, 6)] o_8_11.eq_1) <| rg o_8_12.eq_1 <| xg c_8_13.eq_1 <| xg c_8_14.eq_1 <| rg o_8_15.eq_1 <| @ex_of T _ _ c_8_16.eq_1
def zbhs := @vd T F.zle zq2 [0, 0] zbd5 rfl rfl
theorem zbht : zq2.res = [.cell 4 6 true, .tmp 5] ∧ zq2.rets = [[], []] ∧ zq2.body = (.seq (.reg o_8_1) c_8_16) := ⟨rfl, rfl, rfl⟩
def zbhu := rg o_9_1.eq_1 <| @ru_of T _ _ o_9_2.eq_1
def zbhv := @vd T F.zm1 zq4 [0] zbd6 rfl rfl
theorem zbhw : zq4.res = [.tmp 2] ∧ zq4.rets = [[]] ∧ zq4.body = (.seq (.reg o_9_1) (.seq (.reg o_9_2) .ret)) := ⟨rfl, rfl, rfl⟩
def zbhx := rg o_10_1.eq_1 <| rg o_10_2.eq_1 <| rg o_10_3.eq_1 <| rg o_10_4.eq_1 <| rg o_10_5.eq_1 <| rg o_10_6.eq_1 <| xg c_10_7.eq_1 <| rg o_10_8.eq_1 <| rg o_10_9.eq_1 <| rg zq5.eq_1 <| rg zq6.eq_1 <| rg zq7.eq_1 <| rg zq8.eq_1 <| rg zq9.eq_1 <| rg zra.eq_1 <| rg zrb.eq_1 <| rg zrc.eq_1 <| rg zrd.eq_1 <| rg zre.eq_1 <| rg zrf.eq_1 <| xg zrg.eq_1 <| xg zrh.eq_1 <| rg zri.eq_1 <| xg zrj.eq_1 <| xg zrk.eq_1 <| @ex_of T _ _ zrl.eq_1
def zbhy := @vd T F.znd zrn [0, 0] zbd7 rfl rfl
theorem zbhz : zrn.res = [.cell 4 8 true, .tmp 5] ∧ zrn.rets = [[], []] ∧ zrn.body = (.seq (.reg o_10_1) (.seq (.reg o_10_2) zrl)) := ⟨rfl, rfl, rfl⟩
def zbh0 := rg o_11_1.eq_1 <| rg o_11_2.eq_1 <| rg o_11_3.eq_1 <| rg o_11_4.eq_1 <| rg o_11_5.eq_1 <| rg o_11_6.eq_1 <| rg o_11_7.eq_1 <| rg o_11_8.eq_1 <| rg o_11_9.eq_1 <| xg zro.eq_1 <| xg zrp.eq_1 <| rg zrq.eq_1 <| rg zrr.eq_1 <| rg zrs.eq_1 <| rg zrt.eq_1 <| rg zru.eq_1 <| rg zrv.eq_1 <| rg zrw.eq_1 <| rg zrx.eq_1 <| y5 (@df_of T _ _ [(8, 5), (8, 6)] zrx.eq_1) <| rg zry.eq_1 <| xg zrz.eq_1 <| xg zr0.eq_1 <| rg zr1.eq_1 <| xg zr2.eq_1 <| xg zr3.eq_1 <| xg zr4.eq_1 <| @ex_of T _ _ zr5.eq_1
def zbh1 := @vd T F.znt zr7 [0] zbd8 rfl rfl
theorem zbh2 : zr7.res = [.tmp 2, .tmp 3] ∧ zr7.rets = [[2], []] ∧ zr7.body = (.seq (.reg o_11_1) zr5) := ⟨rfl, rfl, rfl⟩
def zbh3 := rg o_12_1.eq_1 <| rg o_12_2.eq_1 <| rg o_12_3.eq_1 <| rg o_12_4.eq_1 <| rg o_12_5.eq_1 <| rg o_12_6.eq_1 <| xg c_12_7.eq_1 <| rg o_12_8.eq_1 <| rg o_12_9.eq_1 <| rg zr8.eq_1 <| rg zr9.eq_1 <| rg zsa.eq_1 <| xg zsb.eq_1 <| rg zsc.eq_1 <| @ex_of T _ _ zsd.eq_1
def zbh4 := @vd T F.zo9 zsf [0] zbd9 rfl rfl
theorem zbh5 : zsf.res = [.cell 2 8 true, .tmp 3] ∧ zsf.rets = [[], []] ∧ zsf.body = (.seq (.reg o_12_1) (.seq (.reg o_12_2) (.seq (.blk 0 (.seq (.reg o_12_3) c_12_7)) zsd))) := ⟨rfl, rfl, rfl⟩
def zbh6 := rg o_13_1.eq_1 <| rg o_13_2.eq_1 <| rg o_13_3.eq_1 <| rg o_13_4.eq_1 <| rg o_13_5.eq_1 <| rg o_13_6.eq_1 <| xg c_13_7.eq_1 <| rg o_13_8.eq_1 <| rg o_13_9.eq_1 <| y5 (@df_of T _ _ [(2, 16), (2, 17), (19, 16), (19, 17), (21, 16), (21, 17)] o_13_9.eq_1) <| rg zsg.eq_1 <| rg zsh.eq_1 <| rg zsi.eq_1 <| rg zsj.eq_1 <| rg zsk.eq_1 <| xg zsl.eq_1 <| xg zsm.eq_1 <| rg zsn.eq_1 <| rg zso.eq_1 <| rg zsp.eq_1 <| xg zsq.eq_1 <| xg zsr.eq_1 <| @ex_of T _ _ zss.eq_1
def zbh7 := @vd T F.zph zsu [0, 0] zbea rfl rfl
theorem zbh8 : zsu.res = [.cell 4 6 true, .tmp 5] ∧ zsu.rets = [[], []] ∧ zsu.body = (.seq (.reg o_13_1) zss) := ⟨rfl, rfl, rfl⟩
def zbh9 := rg o_14_1.eq_1 <| @ru_of T _ _ o_14_2.eq_1
def zbia := @vd T F.zpn zsw [0, 0] zbeb rfl rfl
theorem zbib : zsw.res = [.tmp 4] ∧ zsw.rets = [[]] ∧ zsw.body = (.seq (.reg o_14_1) (.seq (.reg o_14_2) .ret)) := ⟨rfl, rfl, rfl⟩
def zbic := rg o_16_1.eq_1 <| rg o_16_2.eq_1 <| rg o_16_3.eq_1 <| @ex_of T _ _ c_16_4.eq_1
def zbid := @vi T F.zpp zsy zbec rfl
theorem zbie {n : Nat} {H : Hp} {vs : List V} : (orc T (n + 1)).inl F.zpp vs H = finI H.length false [.tmp 4, .tmp 5] (unw T (orc T n) n H.length [] (exec T (orc T n) n H.length (.seq (.reg o_16_1) c_16_4) (params 0 vs) H)) := by rw [zia, zbec, y7, zh7 zsy rfl]; rfl
def zbif := rg o_23_1.eq_1 <| rg o_23_2.eq_1 <| rg o_23_3.eq_1 <| rg o_23_4.eq_1 <| rg o_23_5.eq_1 <| rg o_23_6.eq_1 <| rg o_23_7.eq_1 <| rg o_23_8.eq_1 <| rg o_23_9.eq_1 <| rg zsz.eq_1 <| xg zs0.eq_1 <| xg zs1.eq_1 <| rg zs2.eq_1 <| xg zs3.eq_1 <| @ex_of T _ _ zs4.eq_1
def zbig := @vi T F.zpq zs6 zbed rfl
theorem zbih {n : Nat} {H : Hp} {vs : List V} : (orc T (n + 1)).inl F.zpq vs H = finI H.length false [.tmp 6, .tmp 7] (unw T (orc T n) n H.length [] (exec T (orc T n) n H.length (.seq (.reg o_23_1) zs4) (params 0 vs) H)) := by rw [zia, zbed, y7, zh7 zs6 rfl]; rfl
def zbii := rg o_24_1.eq_1 <| rg o_24_2.eq_1 <| rg o_24_3.eq_1 <| rg o_24_4.eq_1 <| xg c_24_5.eq_1 <| xg c_24_6.eq_1 <| xg c_24_7.eq_1 <| @ex_of T _ _ c_24_8.eq_1
def zbij := @vi T F.zpr zs8 zbee rfl
theorem zbik {n : Nat} {H : Hp} {vs : List V} : (orc T (n + 1)).inl F.zpr vs H = finI H.length false [.tmp 4] (unw T (orc T n) n H.length [] (exec T (orc T n) n H.length (.seq (.reg o_24_1) (.seq (.seq (.reg o_24_2) (.blk 0 (.seq (.reg o_24_3) c_24_8))) (.seq .fail .ret))) (params 0 vs) H)) := by rw [zia, zbee, y7, zh7 zs8 rfl]; rfl
def zbil := rg o_25_1.eq_1 <| @ru_of T _ _ o_25_2.eq_1
def zbim := @vi T F.zps zta zbef rfl
theorem zbin {n : Nat} {H : Hp} {vs : List V} : (orc T (n + 1)).inl F.zps vs H = finI H.length false [.cell 2 6 true] (unw T (orc T n) n H.length [] (exec T (orc T n) n H.length (.seq (.reg o_25_1) (.seq (.reg o_25_2) .ret)) (params 0 vs) H)) := by rw [zia, zbef, y7, zh7 zta rfl]; rfl
def zbio := rg o_26_1.eq_1 <| rg o_26_2.eq_1 <| rg o_26_3.eq_1 <| rg o_26_4.eq_1 <| rg o_26_5.eq_1 <| rg o_26_6.eq_1 <| rg o_26_7.eq_1 <| rg o_26_8.eq_1 <| rg o_26_9.eq_1 <| rg ztb.eq_1 <| rg ztc.eq_1 <| rg ztd.eq_1 <| y5 (@dr_of T _ _ [(1, 10), (3, 10), (4, 10)] ztd.eq_1 (by decide)) <| rg zte.eq_1 <| rg ztf.eq_1 <| xg ztg.eq_1 <| xg zth.eq_1 <| rg zti.eq_1 <| xg ztj.eq_1 <| @ex_of T _ _ ztk.eq_1
def zbip := @vd T F.zmu ztm [0] zbeg rfl rfl
theorem zbiq : ztm.res = [.tmp 2] ∧ ztm.rets = [[]] ∧ ztm.body = (.seq (.reg o_26_1) (.seq (.seq (.reg o_26_2) (.cond (.t 31) (.seq (.reg o_26_3) .ret) .skip)) ztk)) := ⟨rfl, rfl, rfl⟩
def zbir := rg o_27_1.eq_1 <| rg o_27_2.eq_1 <| rg o_27_3.eq_1 <| rg o_27_4.eq_1 <| rg o_27_5.eq_1 <| rg o_27_6.eq_1 <| rg o_27_7.eq_1 <| xg c_27_8.eq_1 <| xg c_27_9.eq_1 <| @ru_of T _ _ ztn.eq_1
def zbis := @vd T F.zmw ztp [0] zbeh rfl rfl
theorem zbit : ztp.res = [.tmp 2] ∧ ztp.rets = [[]] ∧ ztp.body = (.seq (.reg o_27_1) (.seq (.seq (.reg o_27_2) (.blk 0 (.loop [0, 3] c_27_9))) (.seq (.reg ztn) .ret))) := ⟨rfl, rfl, rfl⟩
def zbiu := rg o_28_1.eq_1 <| @ru_of T _ _ o_28_2.eq_1
def zbiv := @vd T F.zkl ztr [0] zbei rfl rfl
theorem zbiw : ztr.res = [.tmp 2] ∧ ztr.rets = [[]] ∧ ztr.body = (.seq (.reg o_28_1) (.seq (.reg o_28_2) .ret)) := ⟨rfl, rfl, rfl⟩
def zbix := rg o_29_1.eq_1 <| rg o_29_2.eq_1 <| rg o_29_3.eq_1 <| rg o_29_4.eq_1 <| rg o_29_5.eq_1 <| rg o_29_6.eq_1 <| rg o_29_7.eq_1 <| rg o_29_8.eq_1 <| rg o_29_9.eq_1 <| rg zts.eq_1 <| xg ztt.eq_1 <| xg ztu.eq_1 <| rg ztv.eq_1 <| rg ztw.eq_1 <| rg ztx.eq_1 <| rg zty.eq_1 <| rg ztz.eq_1 <| rg zt0.eq_1 <| rg zt1.eq_1 <| rg zt2.eq_1 <| rg zt3.eq_1 <| xg zt4.eq_1 <| xg zt5.eq_1 <| rg zt6.eq_1 <| @ex_of T _ _ zt7.eq_1
def zbiy := @vd T F.zk3 zt9 [0, 0] zbej rfl rfl
theorem zbiz : zt9.res = [.cell 4 4 true, .tmp 5] ∧ zt9.rets = [[], []] ∧ zt9.body = (.seq (.reg o_29_1) (.seq (.blk 0 (.seq (.reg o_29_2) ztu)) zt7)) := ⟨rfl, rfl, rfl⟩
def zbi0 := rg o_30_1.eq_1 <| rg o_30_2.eq_1 <| rg o_30_3.eq_1 <| rg o_30_4.eq_1 <| rg o_30_5.eq_1 <| rg o_30_6.eq_1 <| @ex_of T _ _ c_30_7.eq_1
def zbi1 := @vd T F.zlb zub [0, 0] zbek rfl rfl
theorem zbi2 : zub.res = [.tmp 4] ∧ zub.rets = [[4]] ∧ zub.body = (.seq (.reg o_30_1) (.seq (.reg o_30_2) c_30_7)) := ⟨rfl, rfl, rfl⟩
def zbi3 := rg o_31_1.eq_1 <| rg o_31_2.eq_1 <| rg o_31_3.eq_1 <| rg o_31_4.eq_1 <| rg o_31_5.eq_1 <| rg o_31_6.eq_1 <| rg o_31_7.eq_1 <| rg o_31_8.eq_1 <| rg o_31_9.eq_1 <| rg zuc.eq_1 <| rg zud.eq_1 <| rg zue.eq_1 <| rg zuf.eq_1 <| rg zug.eq_1 <| rg zuh.eq_1 <| xg zui.eq_1 <| xg zuj.eq_1 <| rg zuk.eq_1 <| xg zul.eq_1 <| @ex_of T _ _ zum.eq_1
def zbi4 := @vd T F.zkr zuo [0] zbel rfl rfl
theorem zbi5 : zuo.res = [.tmp 2] ∧ zuo.rets = [[]] ∧ zuo.body = (.seq (.reg o_31_1) zum) := ⟨rfl, rfl, rfl⟩
def zbi6 := rg o_32_1.eq_1 <| rg o_32_2.eq_1 <| rg o_32_3.eq_1 <| rg o_32_4.eq_1 <| rg o_32_5.eq_1 <| rg o_32_6.eq_1 <| rg o_32_7.eq_1 <| xg c_32_8.eq_1 <| xg c_32_9.eq_1 <| rg zup.eq_1 <| @ex_of T _ _ zuq.eq_1
def zbi7 := @vd T F.zm0 zus [0] zbem rfl rfl
theorem zbi8 : zus.res = [.tmp 2] ∧ zus.rets = [[]] ∧ zus.body = (.seq (.reg o_32_1) zuq) := ⟨rfl, rfl, rfl⟩
def zbi9 := rg o_33_1.eq_1 <| @ru_of T _ _ o_33_2.eq_1
def zbja := @vi T F.zpt zuu zben rfl
theorem zbjb {n : Nat} {H : Hp} {vs : List V} : (orc T (n + 1)).inl F.zpt vs H = finI H.length false [.tmp 3] (unw T (orc T n) n H.length [] (exec T (orc T n) n H.length (.seq (.reg o_33_1) (.seq (.reg o_33_2) .ret)) (params 0 vs) H)) := by rw [zia, zben, y7, zh7 zuu rfl]; rfl
def zbjc := rg o_34_1.eq_1 <| @ru_of T _ _ o_34_2.eq_1
def zbjd := @vd T F.zm4 zuw [0, 0] zbeo rfl rfl
theorem zbje : zuw.res = [.tmp 4] ∧ zuw.rets = [[]] ∧ zuw.body = (.seq (.reg o_34_1) (.seq (.reg o_34_2) .ret)) := ⟨rfl, rfl, rfl⟩
def zbjf := rg o_35_1.eq_1 <| @ru_of T _ _ o_35_2.eq_1
def zbjg := @vi T F.zpu zuy zbep rfl
theorem zbjh {n : Nat} {H : Hp} {vs : List V} : (orc T (n + 1)).inl F.zpu vs H = finI H.length false [.tmp 4] (unw T (orc T n) n H.length [] (exec T (orc T n) n H.length (.seq (.reg o_35_1) (.seq (.reg o_35_2) .ret)) (params 0 vs) H)) := by rw [zia, zbep, y7, zh7 zuy rfl]; rfl
def zbji := rg o_36_1.eq_1 <| rg o_36_2.eq_1 <| rg o_36_3.eq_1 <| rg o_36_4.eq_1 <| xg c_36_5.eq_1 <| @ru_of T _ _ o_36_6.eq_1
def zbjj := @vd T F.zm6 zu0 [0, 0] zbeq rfl rfl
theorem zbjk : zu0.res = [.tmp 4] ∧ zu0.rets = [[]] ∧ zu0.body = (.seq (.reg o_36_1) (.seq (.reg o_36_2) (.seq (.blk 0 (.loop [0, 1, 5] c_36_5)) (.seq (.reg o_36_6) .ret)))) := ⟨rfl, rfl, rfl⟩
def zbjl := rg o_37_1.eq_1 <| rg o_37_2.eq_1 <| rg o_37_3.eq_1 <| rg o_37_4.eq_1 <| xg c_37_5.eq_1 <| @ru_of T _ _ o_37_6.eq_1
def zbjm := @vd T F.zm8 zu2 [0, 0] zber rfl rfl
theorem zbjn : zu2.res = [.tmp 4] ∧ zu2.rets = [[]] ∧ zu2.body = (.seq (.reg o_37_1) (.seq (.reg o_37_2) (.seq (.blk 0 (.loop [0, 1, 5] c_37_5)) (.seq (.reg o_37_6) .ret)))) := ⟨rfl, rfl, rfl⟩
def zbjo := rg o_38_1.eq_1 <| rg o_38_2.eq_1 <| rg o_38_3.eq_1 <| rg o_38_4.eq_1 <| @ex_of T _ _ c_38_5.eq_1
def zbjp := @vd T F.zkg zu4 [0] zbes rfl rfl
theorem zbjq : zu4.res = [.tmp 2] ∧ zu4.rets = [[2]] ∧ zu4.body = (.seq (.reg o_38_1) c_38_5) := ⟨rfl, rfl, rfl⟩
def zbjr := rg o_39_1.eq_1 <| rg o_39_2.eq_1 <| @ru_of T _ _ o_39_3.eq_1
def zbjs := @vd T F.znn zu6 [0] zbet rfl rfl
theorem zbjt : zu6.res = [.tmp 2] ∧ zu6.rets = [[]] ∧ zu6.body = (.seq (.reg o_39_1) (.seq (.reg o_39_2) (.seq (.reg o_39_3) .ret))) := ⟨rfl, rfl, rfl⟩
def zbju := rg o_40_1.eq_1 <| rg o_40_2.eq_1 <| rg o_40_3.eq_1 <| rg o_40_4.eq_1 <| rg o_40_5.eq_1 <| rg o_40_6.eq_1 <| xg c_40_7.eq_1 <| xg c_40_8.eq_1 <| @ru_of T _ _ o_40_9.eq_1
def zbjv := @vd T F.znq zu8 [2, 0] zbeu rfl rfl
theorem zbjw : zu8.res = [.tmp 4] ∧ zu8.rets = [[2]] ∧ zu8.body = (.seq (.reg o_40_1) (.seq (.seq (.reg o_40_2) (.blk 0 (.loop [0, 7, 8, 9] c_40_8))) (.seq (.reg o_40_9) .ret))) := ⟨rfl, rfl, rfl⟩
def zbjx := rg o_41_1.eq_1 <| @ru_of T _ _ o_41_2.eq_1
def zbjy := @vd T F.zll zva [2, 0] zbev rfl rfl
theorem zbjz : zva.res = [.tmp 4] ∧ zva.rets = [[2]] ∧ zva.body = (.seq (.reg o_41_1) (.seq (.reg o_41_2) .ret)) := ⟨rfl, rfl, rfl⟩
def zbj0 := rg o_42_1.eq_1 <| rg o_42_2.eq_1 <| rg o_42_3.eq_1 <| rg o_42_4.eq_1 <| rg o_42_5.eq_1 <| @ex_of T _ _ c_42_6.eq_1
def zbj1 := @vd T F.zl4 zvc [0] zbew rfl rfl
theorem zbj2 : zvc.res = [.tmp 2, .tmp 3] ∧ zvc.rets = [[2], []] ∧ zvc.body = (.seq (.reg o_42_1) c_42_6) := ⟨rfl, rfl, rfl⟩
def zbj3 := rg o_43_1.eq_1 <| rg o_43_2.eq_1 <| rg o_43_3.eq_1 <| rg o_43_4.eq_1 <| rg o_43_5.eq_1 <| rg o_43_6.eq_1 <| rg o_43_7.eq_1 <| rg o_43_8.eq_1 <| rg o_43_9.eq_1 <| rg zvd.eq_1 <| xg zve.eq_1 <| rg zvf.eq_1 <| rg zvg.eq_1 <| y5 (@df_of T _ _ [(5, 8)] zvg.eq_1) <| rg zvh.eq_1 <| rg zvi.eq_1 <| xg zvj.eq_1 <| xg zvk.eq_1 <| @ex_of T _ _ zvl.eq_1
def zbj4 := @vd T F.zn4 zvn [0] zbex rfl rfl
theorem zbj5 : zvn.res = [.tmp 2, .tmp 3, .tmp 4] ∧ zvn.rets = [[2], [], []] ∧ zvn.body = (.seq (.reg o_43_1) zvl) := ⟨rfl, rfl, rfl⟩
def zbj6 := rg o_44_1.eq_1 <| rg o_44_2.eq_1 <| rg o_44_3.eq_1 <| rg o_44_4.eq_1 <| rg o_44_5.eq_1 <| rg o_44_6.eq_1 <| rg o_44_7.eq_1 <| rg o_44_8.eq_1 <| rg o_44_9.eq_1 <| y5 (@df_of T _ _ [(1, 3), (1, 4)] o_44_9.eq_1) <| rg zvo.eq_1 <| xg zvp.eq_1 <| xg zvq.eq_1 <| rg zvr.eq_1 <| rg zvs.eq_1 <| rg zvt.eq_1 <| rg zvu.eq_1 <| rg zvv.eq_1 <| rg zvw.eq_1 <| rg zvx.eq_1 <| rg zvy.eq_1 <| rg zvz.eq_1 <| rg zv0.eq_1 <| rg zv1.eq_1 <| xg zv2.eq_1 <| xg zv3.eq_1 <| rg zv4.eq_1 <| y5 (@dr_of T _ _ [(10, 13)] zv4.eq_1 (by decide)) <| xg zv5.eq_1 <| xg zv6.eq_1 <| xg zv7.eq_1 <| @ex_of T _ _ zv8.eq_1
def zbj7 := @vd T F.zo8 zwa [0] zbey rfl rfl
theorem zbj8 : zwa.res = [.cell 2 8 true, .tmp 3] ∧ zwa.rets = [[], []] ∧ zwa.body = (.seq (.reg o_44_1) (.seq (.reg o_44_2) (.seq (.reg o_44_3) zv8))) := ⟨rfl, rfl, rfl⟩
def zbj9 := rg o_45_1.eq_1 <| rg o_45_2.eq_1 <| rg o_45_3.eq_1 <| rg o_45_4.eq_1 <| rg o_45_5.eq_1 <| rg o_45_6.eq_1 <| rg o_45_7.eq_1 <| rg o_45_8.eq_1 <| xg c_45_9.eq_1 <| xg zwb.eq_1 <| rg zwc.eq_1 <| rg zwd.eq_1 <| rg zwe.eq_1 <| rg zwf.eq_1 <| rg zwg.eq_1 <| rg zwh.eq_1 <| xg zwi.eq_1 <| xg zwj.eq_1 <| rg zwk.eq_1 <| xg zwl.eq_1 <| @ex_of T _ _ zwm.eq_1
def zbka := @vd T F.zpe zwo [0] zbez rfl rfl
theorem zbkb : zwo.res = [.tmp 2] ∧ zwo.rets = [[2]] ∧ zwo.body = (.seq (.reg o_45_1) (.seq (.reg o_45_2) zwm)) := ⟨rfl, rfl, rfl⟩
def zbkc := rg o_46_1.eq_1 <| @ru_of T _ _ o_46_2.eq_1
def zbkd := @vd T F.zpk zwq [0, 0] zbe0 rfl rfl
theorem zbke : zwq.res = [.tmp 4] ∧ zwq.rets = [[]] ∧ zwq.body = (.seq (.reg o_46_1) (.seq (.reg o_46_2) .ret)) := ⟨rfl, rfl, rfl⟩
def zbkf := rg o_47_1.eq_1 <| rg o_47_2.eq_1 <| rg o_47_3.eq_1 <| rg o_47_4.eq_1 <| rg o_47_5.eq_1 <| rg o_47_6.eq_1 <| rg o_47_7.eq_1 <| rg o_47_8.eq_1 <| rg o_47_9.eq_1 <| xg zwr.eq_1 <| xg zws.eq_1 <| rg zwt.eq_1 <| @ex_of T _ _ zwu.eq_1
def zbkg := @vd T F.zpm zww [0, 0] zbe1 rfl rfl
theorem zbkh : zww.res = [.tmp 4] ∧ zww.rets = [[]] ∧ zww.body = (.seq (.reg o_47_1) (.seq (.seq (.reg o_47_2) (.cond (.t 10) (.seq (.reg o_47_3) .ret) .skip)) zwu)) := ⟨rfl, rfl, rfl⟩
def zbki := rg o_49_1.eq_1 <| rg o_49_2.eq_1 <| rg o_49_3.eq_1 <| rg o_49_4.eq_1 <| y5 (@dr_of T _ _ [(1, 5), (3, 5)] o_49_4.eq_1 (by decide)) <| xg c_49_5.eq_1 <| rg o_49_6.eq_1 <| rg o_49_7.eq_1 <| rg o_49_8.eq_1 <| rg o_49_9.eq_1 <| y5 (@df_of T _ _ [(3, 5)] o_49_9.eq_1) <| rg zwx.eq_1 <| rg zwy.eq_1 <| rg zwz.eq_1 <| rg zw0.eq_1 <| rg zw1.eq_1 <| rg zw2.eq_1 <| y5 (@df_of T _ _ [(4, 7), (4, 9)] zw2.eq_1) <| rg zw3.eq_1 <| rg zw4.eq_1 <| rg zw5.eq_1 <| rg zw6.eq_1 <| xg zw7.eq_1 <| xg zw8.eq_1 <| xg zw9.eq_1 <| xg zxa.eq_1 <| @ex_of T _ _ zxb.eq_1
def zbkj := @vi T F.zpv zxd zbe2 rfl
theorem zbkk {n : Nat} {H : Hp} {vs : List V} : (orc T (n + 1)).inl F.zpv vs H = finI H.length false [.tmp 4] (unw T (orc T n) n H.length [] (exec T (orc T n) n H.length (.seq (.reg o_49_1) (.seq (.reg o_49_2) zxb)) (params 0 vs) H)) := by rw [zia, zbe2, y7, zh7 zxd rfl]; rfl
def zbkl := rg o_52_1.eq_1 <| rg o_52_2.eq_1 <| rg o_52_3.eq_1 <| rg o_52_4.eq_1 <| rg o_52_5.eq_1 <| rg o_52_6.eq_1 <| rg o_52_7.eq_1 <| rg o_52_8.eq_1 <| rg o_52_9.eq_1 <| xg zxe.eq_1 <| rg zxf.eq_1 <| xg zxg.eq_1 <| rg zxh.eq_1 <| @ex_of T _ _ zxi.eq_1
def zbkm := @vd T F.zke zxk [0] zbe3 rfl rfl
theorem zbkn : zxk.res = [.cell 2 4 true] ∧ zxk.rets = [[]] ∧ zxk.body = (.seq (.reg o_52_1) zxi) := ⟨rfl, rfl, rfl⟩
def zbko := rg o_59_1.eq_1 <| rg o_59_2.eq_1 <| rg o_59_3.eq_1 <| rg o_59_4.eq_1 <| @ex_of T _ _ c_59_5.eq_1
def zbkp := @vd T F.zkh zxm [0] zbe4 rfl rfl
theorem zbkq : zxm.res = [.tmp 2] ∧ zxm.rets = [[4]] ∧ zxm.body = (.seq (.reg o_59_1) c_59_5) := ⟨rfl, rfl, rfl⟩
def zbkr := rg o_60_1.eq_1 <| @ru_of T _ _ o_60_2.eq_1
def zbks := @vi T F.zpw zxo zbe5 rfl
theorem zbkt {n : Nat} {H : Hp} {vs : List V} : (orc T (n + 1)).inl F.zpw vs H = finI H.length false [.tmp 2] (unw T (orc T n) n H.length [] (exec T (orc T n) n H.length (.seq (.reg o_60_1) (.seq (.reg o_60_2) .ret)) (params 0 vs) H)) := by rw [zia, zbe5, y7, zh7 zxo rfl]; rfl
def zbku := rg o_61_1.eq_1 <| @ru_of T _ _ o_61_2.eq_1
def zbkv := @vi T F.zpx zxq zbe6 rfl
theorem zbkw {n : Nat} {H : Hp} {vs : List V} : (orc T (n + 1)).inl F.zpx vs H = finI H.length false [.tmp 0] (unw T (orc T n) n H.length [] (exec T (orc T n) n H.length (.seq (.reg o_61_1) (.seq (.reg o_61_2) .ret)) (params 0 vs) H)) := by rw [zia, zbe6, y7, zh7 zxq rfl]; rfl
def zbkx := rg o_62_1.eq_1 <| rg o_62_2.eq_1 <| rg o_62_3.eq_1 <| xg c_62_4.eq_1 <| rg o_62_5.eq_1 <| rg o_62_6.eq_1 <| rg o_62_7.eq_1 <| rg o_62_8.eq_1 <| rg o_62_9.eq_1 <| xg zxr.eq_1 <| @ex_of T _ _ zxs.eq_1
def zbky := @vi T F.zpy zxu zbe7 rfl
theorem zbkz {n : Nat} {H : Hp} {vs : List V} : (orc T (n + 1)).inl F.zpy vs H = finI H.length false [.tmp 4, .tmp 5] (unw T (orc T n) n H.length [] (exec T (orc T n) n H.length (.seq (.reg o_62_1) zxs) (params 0 vs) H)) := by rw [zia, zbe7, y7, zh7 zxu rfl]; rfl
def zbk0 := rg o_63_1.eq_1 <| rg o_63_2.eq_1 <| rg o_63_3.eq_1 <| @df_of T _ _ [(3, 9)] o_63_3.eq_1
def zbk1 := @vi T F.zpz zxw zbe8 rfl
theorem zbk2 {n : Nat} {H : Hp} {vs : List V} : (orc T (n + 1)).inl F.zpz vs H = finI H.length false [.tmp 4] (unw T (orc T n) n H.length [] (exec T (orc T n) n H.length (.seq (.reg o_63_1) (.seq (.reg o_63_2) (.seq (.dreg o_63_3 [(3, 9)]) .ret))) (params 0 vs) H)) := by rw [zia, zbe8, y7, zh7 zxw rfl]; rfl
def zbk3 := rg o_71_1.eq_1 <| @ru_of T _ _ o_71_2.eq_1
def zbk4 := @vi T F.zp0 zxy zbe9 rfl
theorem zbk5 {n : Nat} {H : Hp} {vs : List V} : (orc T (n + 1)).inl F.zp0 vs H = finI H.length false [.cell 2 6 true] (unw T (orc T n) n H.length [] (exec T (orc T n) n H.length (.seq (.reg o_71_1) (.seq (.reg o_71_2) .ret)) (params 0 vs) H)) := by rw [zia, zbe9, y7, zh7 zxy rfl]; rfl
def zbk6 := rg o_72_1.eq_1 <| rg o_72_2.eq_1 <| rg o_72_3.eq_1 <| rg o_72_4.eq_1 <| rg o_72_5.eq_1 <| rg o_72_6.eq_1 <| rg o_72_7.eq_1 <| rg o_72_8.eq_1 <| xg c_72_9.eq_1 <| xg zxz.eq_1 <| rg zx0.eq_1 <| @ex_of T _ _ zx1.eq_1
def zbk7 := @vd T F.zmr zx3 [0, 0] zbfa rfl rfl
theorem zbk8 : zx3.res = [.tmp 4] ∧ zx3.rets = [[]] ∧ zx3.body = (.seq (.reg o_72_1) zx1) := ⟨rfl, rfl, rfl⟩
def zbk9 := rg o_73_1.eq_1 <| rg o_73_2.eq_1 <| rg o_73_3.eq_1 <| rg o_73_4.eq_1 <| rg o_73_5.eq_1 <| rg o_73_6.eq_1 <| @ex_of T _ _ c_73_7.eq_1
def zbla := @vd T F.zms zx5 [0] zbfb rfl rfl
theorem zblb : zx5.res = [.tmp 2] ∧ zx5.rets = [[]] ∧ zx5.body = (.seq (.reg o_73_1) (.seq (.seq (.reg o_73_2) (.cond (.t 4) (.seq (.reg o_73_3) .ret) .skip)) c_73_7)) := ⟨rfl, rfl, rfl⟩
def zblc := rg o_74_1.eq_1 <| rg o_74_2.eq_1 <| @dr_of T _ _ [(10, 13), (18, 21)] o_74_2.eq_1 (by decide)
def zbld := @vd T F.zkk zx7 [0] zbfc rfl rfl
theorem zble : zx7.res = [.tmp 2] ∧ zx7.rets = [[]] ∧ zx7.body = (.seq (.reg o_74_1) (.seq (.dreg o_74_2 [(10, 13), (18, 21)]) .ret)) := ⟨rfl, rfl, rfl⟩
def zblf := rg o_75_1.eq_1 <| rg o_75_2.eq_1 <| rg o_75_3.eq_1 <| rg o_75_4.eq_1 <| rg o_75_5.eq_1 <| rg o_75_6.eq_1 <| rg o_75_7.eq_1 <| rg o_75_8.eq_1 <| rg o_75_9.eq_1 <| rg zx8.eq_1 <| xg zx9.eq_1 <| rg zya.eq_1 <| @ex_of T _ _ zyb.eq_1
def zblg := @vd T F.zks zyd [0, 0] zbfd rfl rfl
theorem zblh : zyd.res = [.cell 4 4 true, .tmp 5] ∧ zyd.rets = [[], []] ∧ zyd.body = (.seq (.reg o_75_1) (.seq (.reg o_75_2) zyb)) := ⟨rfl, rfl, rfl⟩
def zbli := rg o_76_1.eq_1 <| rg o_76_2.eq_1 <| rg o_76_3.eq_1 <| rg o_76_4.eq_1 <| rg o_76_5.eq_1 <| rg o_76_6.eq_1 <| y5 (@df_of T _ _ [(4, 2)] o_76_6.eq_1) <| rg o_76_7.eq_1 <| rg o_76_8.eq_1 <| rg o_76_9.eq_1 <| rg zye.eq_1 <| rg zyf.eq_1 <| rg zyg.eq_1 <| xg zyh.eq_1 <| xg zyi.eq_1 <| rg zyj.eq_1 <| rg zyk.eq_1 <| rg zyl.eq_1 <| rg zym.eq_1 <| rg zyn.eq_1 <| rg zyo.eq_1 <| xg zyp.eq_1 <| @ex_of T _ _ zyq.eq_1
def zblj := @vd T F.zku zys [0, 0] zbfe rfl rfl
theorem zblk : zys.res = [.cell 4 4 true, .tmp 5] ∧ zys.rets = [[], []] ∧ zys.body = (.seq (.reg o_76_1) (.seq (.reg o_76_2) zyq)) := ⟨rfl, rfl, rfl⟩
def zbll := rg o_77_1.eq_1 <| rg o_77_2.eq_1 <| rg o_77_3.eq_1 <| rg o_77_4.eq_1 <| rg o_77_5.eq_1 <| rg o_77_6.eq_1 <| xg c_77_7.eq_1 <| rg o_77_8.eq_1 <| rg o_77_9.eq_1 <| rg zyt.eq_1 <| rg zyu.eq_1 <| rg zyv.eq_1 <| rg zyw.eq_1 <| rg zyx.eq_1 <| rg zyy.eq_1 <| y5 (@dr_of T _ _ [(1, 6), (3, 6)] zyy.eq_1 (by decide)) <| rg zyz.eq_1 <| rg zy0.eq_1 <| rg zy1.eq_1 <| xg zy2.eq_1 <| xg zy3.eq_1 <| rg zy4.eq_1 <| xg zy5.eq_1 <| @ex_of T _ _ zy6.eq_1
def zblm := @vd T F.zk0 zy8 [0, 0] zbff rfl rfl
theorem zbln : zy8.res = [.cell 4 4 true, .tmp 5] ∧ zy8.rets = [[], []] ∧ zy8.body = (.seq (.reg o_77_1) (.seq (.seq (.reg o_77_2) c_77_7) zy6)) := ⟨rfl, rfl, rfl⟩
def zblo := rg o_78_1.eq_1 <| rg o_78_2.eq_1 <| rg o_78_3.eq_1 <| rg o_78_4.eq_1 <| rg o_78_5.eq_1 <| rg o_78_6.eq_1 <| rg o_78_7.eq_1 <| rg o_78_8.eq_1 <| rg o_78_9.eq_1 <| y5 (@df_of T _ _ [(0, 5)] o_78_9.eq_1) <| rg zy9.eq_1 <| rg zza.eq_1 <| xg zzb.eq_1 <| xg zzc.eq_1 <| rg zzd.eq_1 <| y5 (@dr_of T _ _ [(7, 4)] zzd.eq_1 (by decide)) <| rg zze.eq_1 <| rg zzf.eq_1 <| rg zzg.eq_1 <| rg zzh.eq_1 <| rg zzi.eq_1 <| xg zzj.eq_1 <| @ex_of T _ _ zzk.eq_1
def zblp := @vd T F.zk2 zzm [0, 0] zbfg rfl rfl
theorem zblq : zzm.res = [.cell 4 4 true, .tmp 5] ∧ zzm.rets = [[], []] ∧ zzm.body = (.seq (.reg o_78_1) zzk) := ⟨rfl, rfl, rfl⟩
def zblr := rg o_79_1.eq_1 <| rg o_79_2.eq_1 <| rg o_79_3.eq_1 <| rg o_79_4.eq_1 <| rg o_79_5.eq_1 <| rg o_79_6.eq_1 <| rg o_79_7.eq_1 <| rg o_79_8.eq_1 <| rg o_79_9.eq_1 <| rg zzn.eq_1 <| rg zzo.eq_1 <| xg zzp.eq_1 <| xg zzq.eq_1 <| rg zzr.eq_1 <| rg zzs.eq_1 <| xg zzt.eq_1 <| @ex_of T _ _ zzu.eq_1
def zbls := @vi T F.zp1 zzw zbfh rfl
theorem zblt {n : Nat} {H : Hp} {vs : List V} : (orc T (n + 1)).inl F.zp1 vs H = finI H.length true [.tmp 4] (unw T (orc T n) n H.length [] (exec T (orc T n) n H.length (.seq (.reg o_79_1) zzu) (params 0 vs) H)) := by rw [zia, zbfh, y7, zh7 zzw rfl]; rfl
def zblu := rg o_80_1.eq_1 <| @ru_of T _ _ o_80_2.eq_1
def zblv := @vi T F.zp2 zzy zbfi rfl
theorem zblw {n : Nat} {H : Hp} {vs : List V} : (orc T (n + 1)).inl F.zp2 vs H = finI H.length false [.tmp 3] (unw T (orc T n) n H.length [] (exec T (orc T n) n H.length (.seq (.reg o_80_1) (.seq (.reg o_80_2) .ret)) (params 0 vs) H)) := by rw [zia, zbfi, y7, zh7 zzy rfl]; rfl
def zblx := rg o_81_1.eq_1 <| rg o_81_2.eq_1 <| rg o_81_3.eq_1 <| rg o_81_4.eq_1 <| rg o_81_5.eq_1 <| rg o_81_6.eq_1 <| rg o_81_7.eq_1 <| xg c_81_8.eq_1 <| xg c_81_9.eq_1 <| rg zzz.eq_1 <| @ex_of T _ _ zz0.eq_1
def zbly := @vi T F.zp3 zz2 zbfj rfl
theorem zblz {n : Nat} {H : Hp} {vs : List V} : (orc T (n + 1)).inl F.zp3 vs H = finI H.length false [.tmp 4] (unw T (orc T n) n H.length [] (exec T (orc T n) n H.length (.seq (.reg o_81_1) zz0) (params 0 vs) H)) := by rw [zia, zbfj, y7, zh7 zz2 rfl]; rfl
def zbl0 := rg o_82_1.eq_1 <| @ru_of T _ _ o_82_2.eq_1
def zbl1 := @vi T F.zp4 zz4 zbfk rfl
theorem zbl2 {n : Nat} {H : Hp} {vs : List V} : (orc T (n + 1)).inl F.zp4 vs H = finI H.length false [.tmp 3] (unw T (orc T n) n H.length [] (exec T (orc T n) n H.length (.seq (.reg o_82_1) (.seq (.reg o_82_2) .ret)) (params 0 vs) H)) := by rw [zia, zbfk, y7, zh7 zz4 rfl]; rfl
def zbl3 := @vd T F.zk4 zz5 [4, 0, 4] zbfl rfl rfl
theorem zbl4 : zz5.res = [.tmp 6] ∧ zz5.rets = [[4]] ∧ zz5.body = .fail := ⟨rfl, rfl, rfl⟩
def zbl5 := rg o_84_1.eq_1 <| @ru_of T _ _ o_84_2.eq_1
def zbl6 := @vi T F.zp5 zz7 zbfm rfl
theorem zbl7 {n : Nat} {H : Hp} {vs : List V} : (orc T (n + 1)).inl F.zp5 vs H = finI H.length false [.tmp 4] (unw T (orc T n) n H.length [] (exec T (orc T n) n H.length (.seq (.reg o_84_1) (.seq (.reg o_84_2) .ret)) (params 0 vs) H)) := by rw [zia, zbfm, y7, zh7 zz7 rfl]; rfl
def zbl8 := rg o_85_1.eq_1 <| @ru_of T _ _ o_85_2.eq_1
def zbl9 := @vd T F.zkm zz9 [0] zbfn rfl rfl
theorem zbma : zz9.res = [.tmp 2] ∧ zz9.rets = [[]] ∧ zz9.body = (.seq (.reg o_85_1) (.seq (.reg o_85_2) .ret)) := ⟨rfl, rfl, rfl⟩
def zbmb := rg o_86_1.eq_1 <| @ru_of T _ _ o_86_2.eq_1
def zbmc := @vd T F.zkj z0b [0] zbfo rfl rfl
theorem zbmd : z0b.res = [.tmp 2] ∧ z0b.rets = [[]] ∧ z0b.body = (.seq (.reg o_86_1) (.seq (.reg o_86_2) .ret)) := ⟨rfl, rfl, rfl⟩
def zbme := rg o_87_1.eq_1 <| rg o_87_2.eq_1 <| rg o_87_3.eq_1 <| rg o_87_4.eq_1 <| rg o_87_5.eq_1 <| rg o_87_6.eq_1 <| rg o_87_7.eq_1 <| rg o_87_8.eq_1 <| xg c_87_9.eq_1 <| xg z0c.eq_1 <| rg z0d.eq_1 <| @ex_of T _ _ z0e.eq_1
def zbmf := @vd T F.zko z0g [0, 0] zbfp rfl rfl
theorem zbmg : z0g.res = [.tmp 4] ∧ z0g.rets = [[]] ∧ z0g.body = (.seq (.reg o_87_1) (.seq (.reg o_87_2) z0e)) := ⟨rfl, rfl, rfl⟩
def zbmh := rg o_88_1.eq_1 <| @ru_of T _ _ o_88_2.eq_1
def zbmi := @vd T F.zmy z0i [0] zbfq rfl rfl
theorem zbmj : z0i.res = [.tmp 2] ∧ z0i.rets = [[]] ∧ z0i.body = (.seq (.reg o_88_1) (.seq (.reg o_88_2) .ret)) := ⟨rfl, rfl, rfl⟩
def zbmk := rg o_89_1.eq_1 <| @ru_of T _ _ o_89_2.eq_1
def zbml := @vi T F.zp6 z0k zbfr rfl
theorem zbmm {n : Nat} {H : Hp} {vs : List V} : (orc T (n + 1)).inl F.zp6 vs H = finI H.length false [.tmp 3] (unw T (orc T n) n H.length [] (exec T (orc T n) n H.length (.seq (.reg o_89_1) (.seq (.reg o_89_2) .ret)) (params 0 vs) H)) := by rw [zia, zbfr, y7, zh7 z0k rfl]; rfl
def zbmn := rg o_90_1.eq_1 <| @ru_of T _ _ o_90_2.eq_1
def zbmo := @vd T F.zni z0m [0] zbfs rfl rfl
theorem zbmp : z0m.res = [.tmp 2] ∧ z0m.rets = [[]] ∧ z0m.body = (.seq (.reg o_90_1) (.seq (.reg o_90_2) .ret)) := ⟨rfl, rfl, rfl⟩
def zbmq := rg o_91_1.eq_1 <| @ru_of T _ _ o_91_2.eq_1
def zbmr := @vd T F.znh z0o [0] zbft rfl rfl
theorem zbms : z0o.res = [.tmp 2] ∧ z0o.rets = [[]] ∧ z0o.body = (.seq (.reg o_91_1) (.seq (.reg o_91_2) .ret)) := ⟨rfl, rfl, rfl⟩
def zbmt := rg o_92_1.eq_1 <| rg o_92_2.eq_1 <| rg o_92_3.eq_1 <| rg o_92_4.eq_1 <| rg o_92_5.eq_1 <| rg o_92_6.eq_1 <| rg o_92_7.eq_1 <| xg c_92_8.eq_1 <| xg c_92_9.eq_1 <| rg z0p.eq_1 <| @ex_of T _ _ z0q.eq_1
def zbmu := @vd T F.znk z0s [0] zbfu rfl rfl
theorem zbmv : z0s.res = [.tmp 2] ∧ z0s.rets = [[]] ∧ z0s.body = (.seq (.reg o_92_1) z0q) := ⟨rfl, rfl, rfl⟩
def zbmw := rg o_93_1.eq_1 <| rg o_93_2.eq_1 <| rg o_93_3.eq_1 <| rg o_93_4.eq_1 <| @ex_of T _ _ c_93_5.eq_1
def zbmx := @vd T F.zlj z0u [2, 0] zbfv rfl rfl
theorem zbmy : z0u.res = [.tmp 4] ∧ z0u.rets = [[2]] ∧ z0u.body = (.seq (.reg o_93_1) c_93_5) := ⟨rfl, rfl, rfl⟩
def zbmz := rg o_94_1.eq_1 <| rg o_94_2.eq_1 <| rg o_94_3.eq_1 <| rg o_94_4.eq_1 <| xg c_94_5.eq_1 <| @ru_of T _ _ o_94_6.eq_1
def zbm0 := @vd T F.zli z0w [2, 0] zbfw rfl rfl
theorem zbm1 : z0w.res = [.tmp 4] ∧ z0w.rets = [[2]] ∧ z0w.body = (.seq (.reg o_94_1) (.seq (.blk 0 (.loop [0, 1] c_94_5)) (.seq (.reg o_94_6) .ret))) := ⟨rfl, rfl, rfl⟩
def zbm2 := rg o_95_1.eq_1 <| @ru_of T _ _ o_95_2.eq_1
def zbm3 := @vd T F.zlk z0y [0] zbfx rfl rfl
theorem zbm4 : z0y.res = [.tmp 2] ∧ z0y.rets = [[]] ∧ z0y.body = (.seq (.reg o_95_1) (.seq (.reg o_95_2) .ret)) := ⟨rfl, rfl, rfl⟩
def zbm5 := rg o_96_1.eq_1 <| rg o_96_2.eq_1 <| rg o_96_3.eq_1 <| rg o_96_4.eq_1 <| rg o_96_5.eq_1 <| rg o_96_6.eq_1 <| rg o_96_7.eq_1 <| rg o_96_8.eq_1 <| xg c_96_9.eq_1 <| xg z0z.eq_1 <| rg z00.eq_1 <| rg z01.eq_1 <| rg z02.eq_1 <| rg z03.eq_1 <| rg z04.eq_1 <| rg z05.eq_1 <| xg z06.eq_1 <| xg z07.eq_1 <| rg z08.eq_1 <| xg z09.eq_1 <| @ex_of T _ _ z1a.eq_1
def zbm6 := @vd T F.zl3 z1c [0] zbfy rfl rfl
theorem zbm7 : z1c.res = [.tmp 2] ∧ z1c.rets = [[2]] ∧ z1c.body = (.seq (.reg o_96_1) (.seq (.reg o_96_2) z1a)) := ⟨rfl, rfl, rfl⟩
def zbm8 := rg o_97_1.eq_1 <| @ru_of T _ _ o_97_2.eq_1
def zbm9 := @vd T F.zly z1e [0, 0] zbfz rfl rfl
theorem zbna : z1e.res = [.tmp 4] ∧ z1e.rets = [[2]] ∧ z1e.body = (.seq (.reg o_97_1) (.seq (.reg o_97_2) .ret)) := ⟨rfl, rfl, rfl⟩
def zbnb := rg o_98_1.eq_1 <| @ru_of T _ _ o_98_2.eq_1
def zbnc := @vd T F.znx z1g [0] zbf0 rfl rfl
theorem zbnd : z1g.res = [.tmp 2] ∧ z1g.rets = [[]] ∧ z1g.body = (.seq (.reg o_98_1) (.seq (.reg o_98_2) .ret)) := ⟨rfl, rfl, rfl⟩
def zbne := rg o_99_1.eq_1 <| rg o_99_2.eq_1 <| rg o_99_3.eq_1 <| rg o_99_4.eq_1 <| rg o_99_5.eq_1 <| @ex_of T _ _ c_99_6.eq_1
def zbnf := @vd T F.zn0 z1i [0] zbf1 rfl rfl
theorem zbng : z1i.res = [.tmp 2, .tmp 3] ∧ z1i.rets = [[], []] ∧ z1i.body = (.seq (.reg o_99_1) (.seq (.reg o_99_2) c_99_6)) := ⟨rfl, rfl, rfl⟩
def zbnh := rg z1j.eq_1 <| rg z1k.eq_1 <| rg z1l.eq_1 <| rg z1m.eq_1 <| rg z1n.eq_1 <| rg z1o.eq_1 <| rg z1p.eq_1 <| rg z1q.eq_1 <| rg z1r.eq_1 <| xg z1s.eq_1 <| xg z1t.eq_1 <| rg z1u.eq_1 <| @ex_of T _ _ z1v.eq_1
def zbni := @vd T F.zn2 z1x [0, 0] zbf2 rfl rfl
theorem zbnj : z1x.res = [.tmp 4] ∧ z1x.rets = [[]] ∧ z1x.body = (.seq (.reg z1j) (.seq (.seq (.reg z1k) (.cond (.t 10) (.seq (.reg z1l) .ret) .skip)) z1v)) := ⟨rfl, rfl, rfl⟩
def zbnk := rg z1y.eq_1 <| rg z1z.eq_1 <| rg z10.eq_1 <| rg z11.eq_1 <| @ex_of T _ _ z12.eq_1
def zbnl := @vd T F.zn3 z14 [0] zbf3 rfl rfl
theorem zbnm : z14.res = [.tmp 2] ∧ z14.rets = [[2]] ∧ z14.body = (.seq (.reg z1y) z12) := ⟨rfl, rfl, rfl⟩
def zbnn := rg z15.eq_1 <| rg z16.eq_1 <| rg z17.eq_1 <| rg z18.eq_1 <| rg z19.eq_1 <| xg z2a.eq_1 <| @ex_of T _ _ z2b.eq_1
def zbno := @vi T F.zp7 z2d zbf4 rfl
theorem zbnp {n : Nat} {H : Hp} {vs : List V} : (orc T (n + 1)).inl F.zp7 vs H = finI H.length false [] (unw T (orc T n) n H.length [] (exec T (orc T n) n H.length (.seq (.reg z15) (.blk 0 (.loop [0, 6, 7, 8] z2b))) (params 0 vs) H)) := by rw [zia, zbf4, y7, zh7 z2d rfl]; rfl
def zbnq := rg z2e.eq_1 <| @ru_of T _ _ z2f.eq_1
def zbnr := @vi T F.zp8 z2h zbf5 rfl
theorem zbns {n : Nat} {H : Hp} {vs : List V} : (orc T (n + 1)).inl F.zp8 vs H = finI H.length false [.tmp 2] (unw T (orc T n) n H.length [] (exec T (orc T n) n H.length (.seq (.reg z2e) (.seq (.reg z2f) .ret)) (params 0 vs) H)) := by rw [zia, zbf5, y7, zh7 z2h rfl]; rfl
def zbnt := rg z2i.eq_1 <| rg z2j.eq_1 <| rg z2k.eq_1 <| rg z2l.eq_1 <| rg z2m.eq_1 <| rg z2n.eq_1 <| @ex_of T _ _ z2o.eq_1
def zbnu := @vi T F.zp9 z2q zbf6 rfl
theorem zbnv {n : Nat} {H : Hp} {vs : List V} : (orc T (n + 1)).inl F.zp9 vs H = finI H.length false [.tmp 4] (unw T (orc T n) n H.length [] (exec T (orc T n) n H.length (.seq (.reg z2i) (.seq (.seq (.reg z2j) (.cond (.t 6) .fail .skip)) z2o)) (params 0 vs) H)) := by rw [zia, zbf6, y7, zh7 z2q rfl]; rfl
def zbnw := rg z2r.eq_1 <| rg z2s.eq_1 <| rg z2t.eq_1 <| rg z2u.eq_1 <| rg z2v.eq_1 <| rg z2w.eq_1 <| rg z2x.eq_1 <| rg z2y.eq_1 <| rg z2z.eq_1 <| xg z20.eq_1 <| xg z21.eq_1 <| rg z22.eq_1 <| @ex_of T _ _ z23.eq_1
def zbnx := @vd T F.zpj z25 [0, 0] zbf7 rfl rfl
theorem zbny : z25.res = [.tmp 4] ∧ z25.rets = [[]] ∧ z25.body = (.seq (.reg z2r) (.seq (.seq (.reg z2s) (.cond (.t 10) (.seq (.reg z2t) .ret) .skip)) z23)) := ⟨rfl, rfl, rfl⟩
def zbnz := rg z26.eq_1 <| rg z27.eq_1 <| rg z28.eq_1 <| rg z29.eq_1 <| rg z3a.eq_1 <| rg z3b.eq_1 <| rg z3c.eq_1 <| rg z3d.eq_1 <| rg z3e.eq_1 <| y5 (@df_of T _ _ [(5, 3), (8, 3), (9, 3)] z3e.eq_1) <| rg z3f.eq_1 <| rg z3g.eq_1 <| rg z3h.eq_1 <| xg z3i.eq_1 <| rg z3j.eq_1 <| xg z3k.eq_1 <| xg z3l.eq_1 <| rg z3m.eq_1 <| xg z3n.eq_1 <| @ex_of T _ _ z3o.eq_1
def zbn0 := @vd T F.zlo z3q [0] zbf8 rfl rfl
theorem zbn1 : z3q.res = [.tmp 2, .tmp 3] ∧ z3q.rets = [[2], []] ∧ z3q.body = (.seq (.reg z26) z3o) := ⟨rfl, rfl, rfl⟩
def zbn2 := rg z3r.eq_1 <| @ru_of T _ _ z3s.eq_1
def zbn3 := @vi T F.zqa z3u zbf9 rfl
theorem zbn4 {n : Nat} {H : Hp} {vs : List V} : (orc T (n + 1)).inl F.zqa vs H = finI H.length false [.tmp 2] (unw T (orc T n) n H.length [] (exec T (orc T n) n H.length (.seq (.reg z3r) (.seq (.dreg z3s []) .ret)) (params 0 vs) H)) := by rw [zia, zbf9, y7, zh7 z3u rfl]; rfl
def zbn5 := rg z3v.eq_1 <| rg z3w.eq_1 <| rg z3x.eq_1 <| rg z3y.eq_1 <| rg z3z.eq_1 <| xg z30.eq_1 <| @ru_of T _ _ z31.eq_1
def zbn6 := @vd T F.zl7 z33 [0, 0, 0] zbga rfl rfl
theorem zbn7 : z33.res = [.tmp 6, .tmp 7] ∧ z33.rets = [[2], []] ∧ z33.body = (.seq (.reg z3v) (.seq (.blk 0 (.seq (.reg z3w) z30)) (.seq (.reg z31) .ret))) := ⟨rfl, rfl, rfl⟩
def zbn8 := rg z34.eq_1 <| rg z35.eq_1 <| rg z36.eq_1 <| rg z37.eq_1 <| @ex_of T _ _ z38.eq_1
def zbn9 := @vi T F.zqb z4a zbgb rfl
theorem zboa {n : Nat} {H : Hp} {vs : List V} : (orc T (n + 1)).inl F.zqb vs H = finI H.length false [.tmp 4] (unw T (orc T n) n H.length [] (exec T (orc T n) n H.length (.seq (.reg z34) (.seq (.reg z35) z38)) (params 0 vs) H)) := by rw [zia, zbgb, y7, zh7 z4a rfl]; rfl
def zbob := rg z4b.eq_1 <| rg z4c.eq_1 <| rg z4d.eq_1 <| rg z4e.eq_1 <| y5 (@dr_of T _ _ [(3, 1), (8, 1)] z4e.eq_1 (by decide)) <| xg z4f.eq_1 <| rg z4g.eq_1 <| rg z4h.eq_1 <| rg z4i.eq_1 <| rg z4j.eq_1 <| rg z4k.eq_1 <| rg z4l.eq_1 <| xg z4m.eq_1 <| @ex_of T _ _ z4n.eq_1
def zboc := @vi T F.zqc z4p zbgc rfl
theorem zbod {n : Nat} {H : Hp} {vs : List V} : (orc T (n + 1)).inl F.zqc vs H = finI H.length false [.tmp 6] (unw T (orc T n) n H.length [] (exec T (orc T n) n H.length (.seq (.reg z4b) z4n) (params 0 vs) H)) := by rw [zia, zbgc, y7, zh7 z4p rfl]; rfl
def zboe := rg z4q.eq_1 <| rg z4r.eq_1 <| @ru_of T _ _ z4s.eq_1
def zbof := @vi T F.zqd z4u zbgd rfl
theorem zbog {n : Nat} {H : Hp} {vs : List V} : (orc T (n + 1)).inl F.zqd vs H = finI H.length false [.cell 2 6 true] (unw T (orc T n) n H.length [] (exec T (orc T n) n H.length (.seq (.reg z4q) (.seq (.reg z4r) (.seq (.reg z4s) .ret))) (params 0 vs) H)) := by rw [zia, zbgd, y7, zh7 z4u rfl]; rfl
def zboh := rg z4v.eq_1 <| @ru_of T _ _ z4w.eq_1
def zboi := @vi T F.zqe z4y zbge rfl
theorem zboj {n : Nat} {H : Hp} {vs : List V} : (orc T (n + 1)).inl F.zqe vs H = finI H.length false [.tmp 2] (unw T (orc T n) n H.length [] (exec T (orc T n) n H.length (.seq (.reg z4v) (.seq (.reg z4w) .ret)) (params 0 vs) H)) := by rw [zia, zbge, y7, zh7 z4y rfl]; rfl
def zbok := rg z4z.eq_1 <| rg z40.eq_1 <| rg z41.eq_1 <| xg z42.eq_1 <| xg z43.eq_1 <| rg z44.eq_1 <| rg z45.eq_1 <| rg z46.eq_1 <| xg z47.eq_1 <| xg z48.eq_1 <| xg z49.eq_1 <| @ex_of T _ _ z5a.eq_1
def zbol := @vi T F.zqf z5c zbgf rfl
theorem zbom {n : Nat} {H : Hp} {vs : List V} : (orc T (n + 1)).inl F.zqf vs H = finI H.length false [] (unw T (orc T n) n H.length [] (exec T (orc T n) n H.length (.seq (.reg z4z) z5a) (params 0 vs) H)) := by rw [zia, zbgf, y7, zh7 z5c rfl]; rfl
def zbon := rg z5d.eq_1 <| rg z5e.eq_1 <| rg z5f.eq_1 <| rg z5g.eq_1 <| y5 (@df_of T _ _ [(5, 1), (5, 17), (10, 1), (10, 17), (12, 1), (12, 17)] z5g.eq_1) <| rg z5h.eq_1 <| rg z5i.eq_1 <| xg z5j.eq_1 <| @ex_of T _ _ z5k.eq_1
def zboo := @vi T F.zqg z5m zbgg rfl
theorem zbop {n : Nat} {H : Hp} {vs : List V} : (orc T (n + 1)).inl F.zqg vs H = finI H.length false [.tmp 2] (unw T (orc T n) n H.length [] (exec T (orc T n) n H.length (.seq (.reg z5d) z5k) (params 0 vs) H)) := by rw [zia, zbgg, y7, zh7 z5m rfl]; rfl
def zboq := rg z5n.eq_1 <| rg z5o.eq_1 <| y5 (@df_of T _ _ [(5, 3)] z5o.eq_1) <| @ru_of T _ _ z5p.eq_1
def zbor := @vd T F.zki z5r [0] zbgh rfl rfl
theorem zbos : z5r.res = [.cell 2 6 true] ∧ z5r.rets = [[]] ∧ z5r.body = (.seq (.reg z5n) (.seq (.dreg z5o [(5, 3)]) (.seq (.reg z5p) .ret))) := ⟨rfl, rfl, rfl⟩
def zbot := rg z5s.eq_1 <| rg z5t.eq_1 <| rg z5u.eq_1 <| rg z5v.eq_1 <| rg z5w.eq_1 <| rg z5x.eq_1 <| rg z5y.eq_1 <| rg z5z.eq_1 <| xg z50.eq_1 <| @ex_of T _ _ z51.eq_1
def zbou := @vd T F.zkt z53 [2, 0, 0] zbgi rfl rfl
theorem zbov : z53.res = [.tmp 6] ∧ z53.rets = [[2]] ∧ z53.body = (.seq (.reg z5s) z51) := ⟨rfl, rfl, rfl⟩
def zbow := rg z54.eq_1 <| rg z55.eq_1 <| rg z56.eq_1 <| rg z57.eq_1 <| rg z58.eq_1 <| @ex_of T _ _ z59.eq_1
def zbox := @vd T F.zkx z6b [0, 0] zbgj rfl rfl
theorem zboy : z6b.res = [.tmp 4] ∧ z6b.rets = [[]] ∧ z6b.body = (.seq (.reg z54) z59) := ⟨rfl, rfl, rfl⟩
def zboz := rg z6c.eq_1 <| rg z6d.eq_1 <| rg z6e.eq_1 <| rg z6f.eq_1 <| xg z6g.eq_1 <| rg z6h.eq_1 <| @ex_of T _ _ z6i.eq_1
def zbo0 := @vd T F.zkw z6k [0, 0] zbgk rfl rfl
theorem zbo1 : z6k.res = [.tmp 4, .tmp 5] ∧ z6k.rets = [[], []] ∧ z6k.body = (.seq (.reg z6c) z6i) := ⟨rfl, rfl, rfl⟩
def zbo2 := rg z6l.eq_1 <| rg z6m.eq_1 <| rg z6n.eq_1 <| rg z6o.eq_1 <| rg z6p.eq_1 <| rg z6q.eq_1 <| rg z6r.eq_1 <| rg z6s.eq_1 <| xg z6t.eq_1 <| rg z6u.eq_1 <| @ex_of T _ _ z6v.eq_1
def zbo3 := @vd T F.zkz z6x [0, 0, 0] zbgl rfl rfl
theorem zbo4 : z6x.res = [.tmp 6, .tmp 7] ∧ z6x.rets = [[], []] ∧ z6x.body = (.seq (.reg z6l) z6v) := ⟨rfl, rfl, rfl⟩
def zbo5 := rg z6y.eq_1 <| rg z6z.eq_1 <| rg z60.eq_1 <| rg z61.eq_1 <| rg z62.eq_1 <| y5 (@dr_of T _ _ [(5, 3)] z62.eq_1 (by decide)) <| rg z63.eq_1 <| rg z64.eq_1 <| rg z65.eq_1 <| rg z66.eq_1 <| xg z67.eq_1 <| rg z68.eq_1 <| rg z69.eq_1 <| rg z7a.eq_1 <| rg z7b.eq_1 <| rg z7c.eq_1 <| xg z7d.eq_1 <| xg z7e.eq_1 <| @ex_of T _ _ z7f.eq_1
def zbo6 := @vd T F.zk1 z7h [0, 0] zbgm rfl rfl
theorem zbo7 : z7h.res = [.cell 4 4 true, .tmp 5] ∧ z7h.rets = [[], []] ∧ z7h.body = (.seq (.reg z6y) z7f) := ⟨rfl, rfl, rfl⟩
def zbo8 := rg z7i.eq_1 <| rg z7j.eq_1 <| rg z7k.eq_1 <| rg z7l.eq_1 <| rg z7m.eq_1 <| rg z7n.eq_1 <| rg z7o.eq_1 <| xg z7p.eq_1 <| xg z7q.eq_1 <| rg z7r.eq_1 <| @ex_of T _ _ z7s.eq_1
def zbo9 := @vi T F.zqh z7u zbgn rfl
theorem zbpa {n : Nat} {H : Hp} {vs : List V} : (orc T (n + 1)).inl F.zqh vs H = finI H.length false [.tmp 4] (unw T (orc T n) n H.length [] (exec T (orc T n) n H.length (.seq (.reg z7i) z7s) (params 0 vs) H)) := by rw [zia, zbgn, y7, zh7 z7u rfl]; rfl
def zbpb := rg z7v.eq_1 <| @ru_of T _ _ z7w.eq_1
def zbpc := @vd T F.zne z7y [0] zbgo rfl rfl
theorem zbpd : z7y.res = [.tmp 2] ∧ z7y.rets = [[]] ∧ z7y.body = (.seq (.reg z7v) (.seq (.reg z7w) .ret)) := ⟨rfl, rfl, rfl⟩
def zbpe := rg z7z.eq_1 <| rg z70.eq_1 <| rg z71.eq_1 <| rg z72.eq_1 <| rg z73.eq_1 <| rg z74.eq_1 <| @ex_of T _ _ z75.eq_1
def zbpf := @vi T F.zqi z77 zbgp rfl
theorem zbpg {n : Nat} {H : Hp} {vs : List V} : (orc T (n + 1)).inl F.zqi vs H = finI H.length false [.tmp 4] (unw T (orc T n) n H.length [] (exec T (orc T n) n H.length (.seq (.reg z7z) (.seq (.seq (.reg z70) (.cond (.t 6) .fail .skip)) z75)) (params 0 vs) H)) := by rw [zia, zbgp, y7, zh7 z77 rfl]; rfl
def zbph := rg z78.eq_1 <| @ru_of T _ _ z79.eq_1
def zbpi := @vd T F.zlx z8b [0] zbgq rfl rfl
theorem zbpj : z8b.res = [.tmp 2] ∧ z8b.rets = [[2]] ∧ z8b.body = (.seq (.reg z78) (.seq (.reg z79) .ret)) := ⟨rfl, rfl, rfl⟩
def zbpk := rg z8c.eq_1 <| rg z8d.eq_1 <| rg z8e.eq_1 <| rg z8f.eq_1 <| rg z8g.eq_1 <| rg z8h.eq_1 <| rg z8i.eq_1 <| rg z8j.eq_1 <| xg z8k.eq_1 <| xg z8l.eq_1 <| rg z8m.eq_1 <| @ex_of T _ _ z8n.eq_1
def zbpl := @vd T F.zlt z8p [0, 0] zbgr rfl rfl
theorem zbpm : z8p.res = [.tmp 4] ∧ z8p.rets = [[]] ∧ z8p.body = (.seq (.reg z8c) (.seq (.reg z8d) (.seq (.reg z8e) z8n))) := ⟨rfl, rfl, rfl⟩
def zbpn := rg z8q.eq_1 <| @ru_of T _ _ z8r.eq_1
def zbpo := @vd T F.zlu z8t [0] zbgs rfl rfl
theorem zbpp : z8t.res = [.tmp 2] ∧ z8t.rets = [[]] ∧ z8t.body = (.seq (.reg z8q) (.seq (.reg z8r) .ret)) := ⟨rfl, rfl, rfl⟩
def zbpq := rg z8u.eq_1 <| @ru_of T _ _ z8v.eq_1
def zbpr := @vi T F.zqj z8x zbgt rfl
theorem zbps {n : Nat} {H : Hp} {vs : List V} : (orc T (n + 1)).inl F.zqj vs H = finI H.length false [.tmp 4] (unw T (orc T n) n H.length [] (exec T (orc T n) n H.length (.seq (.reg z8u) (.seq (.reg z8v) .ret)) (params 0 vs) H)) := by rw [zia, zbgt, y7, zh7 z8x rfl]; rfl
def zbpt := rg z8y.eq_1 <| @ru_of T _ _ z8z.eq_1
def zbpu := @vd T F.znu z81 [0] zbgu rfl rfl
theorem zbpv : z81.res = [.tmp 2] ∧ z81.rets = [[]] ∧ z81.body = (.seq (.reg z8y) (.seq (.reg z8z) .ret)) := ⟨rfl, rfl, rfl⟩
def zbpw := rg z82.eq_1 <| rg z83.eq_1 <| rg z84.eq_1 <| rg z85.eq_1 <| rg z86.eq_1 <| rg z87.eq_1 <| rg z88.eq_1 <| rg z89.eq_1 <| rg z9a.eq_1 <| rg z9b.eq_1 <| xg z9c.eq_1 <| rg z9d.eq_1 <| rg z9e.eq_1 <| xg z9f.eq_1 <| rg z9g.eq_1 <| xg z9h.eq_1 <| xg z9i.eq_1 <| rg z9j.eq_1 <| @ex_of T _ _ z9k.eq_1
def zbpx := @vd T F.znz z9m [0] zbgv rfl rfl
theorem zbpy : z9m.res = [.tmp 2, .tmp 3] ∧ z9m.rets = [[], []] ∧ z9m.body = (.seq (.reg z82) (.seq (.reg z83) z9k)) := ⟨rfl, rfl, rfl⟩
def zbpz := rg z9n.eq_1 <| @ru_of T _ _ z9o.eq_1
def zbp0 := @vi T F.zqk z9q zbgw rfl
theorem zbp1 {n : Nat} {H : Hp} {vs : List V} : (orc T (n + 1)).inl F.zqk vs H = finI H.length false [.tmp 2] (unw T (orc T n) n H.length [] (exec T (orc T n) n H.length (.seq (.reg z9n) (.seq (.reg z9o) .ret)) (params 0 vs) H)) := by rw [zia, zbgw, y7, zh7 z9q rfl]; rfl
def zbp2 := rg z9r.eq_1 <| rg z9s.eq_1 <| rg z9t.eq_1 <| @ru_of T _ _ z9u.eq_1
def zbp3 := @vi T F.zql z9w zbgx rfl
theorem zbp4 {n : Nat} {H : Hp} {vs : List V} : (orc T (n + 1)).inl F.zql vs H = finI H.length false [.tmp 6] (unw T (orc T n) n H.length [] (exec T (orc T n) n H.length (.seq (.reg z9r) (.seq (.reg z9s) (.seq (.reg z9t) (.seq (.reg z9u) .ret)))) (params 0 vs) H)) := by rw [zia, zbgx, y7, zh7 z9w rfl]; rfl
def zbp5 := rg z9x.eq_1 <| rg z9y.eq_1 <| rg z9z.eq_1 <| rg z90.eq_1 <| rg z91.eq_1 <| @ex_of T _ _ z92.eq_1
def zbp6 := @vd T F.zn6 z94 [0] zbgy rfl rfl
theorem zbp7 : z94.res = [.tmp 2, .tmp 3] ∧ z94.rets = [[], []] ∧ z94.body = (.seq (.reg z9x) (.seq (.reg z9y) z92)) := ⟨rfl, rfl, rfl⟩
def zbp8 := rg z95.eq_1 <| rg z96.eq_1 <| rg z97.eq_1 <| rg z98.eq_1 <| rg z99.eq_1 <| rg zbaa.eq_1 <| rg zbab.eq_1 <| xg zbac.eq_1 <| xg zbad.eq_1 <| rg zbae.eq_1 <| @ex_of T _ _ zbaf.eq_1
def zbp9 := @vd T F.zlg zbah [0] zbgz rfl rfl
theorem zbqa : zbah.res = [.tmp 2] ∧ zbah.rets = [[]] ∧ zbah.body = (.seq (.reg z95) zbaf) := ⟨rfl, rfl, rfl⟩
def zbqb := rg zbai.eq_1 <| rg zbaj.eq_1 <| rg zbak.eq_1 <| rg zbal.eq_1 <| y5 (@df_of T _ _ [(5, 3), (8, 3), (8, 6)] zbal.eq_1) <| @ex_of T _ _ zbam.eq_1
def zbqc := @vd T F.zlm zbao [2, 0] zbg0 rfl rfl
theorem zbqd : zbao.res = [.tmp 4, .tmp 5] ∧ zbao.rets = [[2], []] ∧ zbao.body = (.seq (.reg zbai) zbam) := ⟨rfl, rfl, rfl⟩
def zbqe := rg zbap.eq_1 <| @ru_of T _ _ zbaq.eq_1
def zbqf := @vd T F.zl5 zbas [0] zbg1 rfl rfl
theorem zbqg : zbas.res = [.tmp 2] ∧ zbas.rets = [[]] ∧ zbas.body = (.seq (.reg zbap) (.seq (.reg zbaq) .ret)) := ⟨rfl, rfl, rfl⟩
def zbqh := rg zbat.eq_1 <| rg zbau.eq_1 <| @ru_of T _ _ zbav.eq_1
def zbqi := @vd T F.zl6 zbax [0] zbg2 rfl rfl
theorem zbqj : zbax.res = [.tmp 2] ∧ zbax.rets = [[2]] ∧ zbax.body = (.seq (.reg zbat) (.seq (.reg zbau) (.seq (.reg zbav) .ret))) := ⟨rfl, rfl, rfl⟩
def zbqk := rg zbay.eq_1 <| rg zbaz.eq_1 <| rg zba0.eq_1 <| rg zba1.eq_1 <| @ex_of T _ _ zba2.eq_1
def zbql := @vd T F.zl8 zba4 [0] zbg3 rfl rfl
theorem zbqm : zba4.res = [.tmp 2, .tmp 3] ∧ zba4.rets = [[], []] ∧ zba4.body = (.seq (.reg zbay) zba2) := ⟨rfl, rfl, rfl⟩
def zbqn := rg zba5.eq_1 <| rg zba6.eq_1 <| @ru_of T _ _ zba7.eq_1
def zbqo := @vi T F.zqm zba9 zbg4 rfl
theorem zbqp {n : Nat} {H : Hp} {vs : List V} : (orc T (n + 1)).inl F.zqm vs H = finI H.length false [.tmp 4] (unw T (orc T n) n H.length [] (exec T (orc T n) n H.length (.seq (.reg zba5) (.seq (.reg zba6) (.seq (.reg zba7) .ret))) (params 0 vs) H)) := by rw [zia, zbg4, y7, zh7 zba9 rfl]; rfl
def zbqq := rg zbba.eq_1 <| @ru_of T _ _ zbbb.eq_1
def zbqr := @vd T F.zl9 zbbd [0] zbg5 rfl rfl
theorem zbqs : zbbd.res = [.tmp 2] ∧ zbbd.rets = [[]] ∧ zbbd.body = (.seq (.reg zbba) (.seq (.reg zbbb) .ret)) := ⟨rfl, rfl, rfl⟩
def zbqt := @vi T F.zqn zbbf zbg6 rfl
theorem zbqu {n : Nat} {H : Hp} {vs : List V} : (orc T (n + 1)).inl F.zqn vs H = finG H.length false (dskU vs H) := by rw [zia, zbg6, y7, zh8 zbbf rfl]; rfl
def zbqv := y5 @zbqu @dsk_l
def zbqw := rg zbbg.eq_1 <| @ru_of T _ _ zbbh.eq_1
def zbqx := @vi T F.zqo zbbj zbg7 rfl
theorem zbqy {n : Nat} {H : Hp} {vs : List V} : (orc T (n + 1)).inl F.zqo vs H = finI H.length false [] (unw T (orc T n) n H.length [] (exec T (orc T n) n H.length (.seq (.reg zbbg) (.reg zbbh)) (params 0 vs) H)) := by rw [zia, zbg7, y7, zh7 zbbj rfl]; rfl
def zbqz := @ru_of T _ _ zbbk.eq_1
def zbq0 := @vi T F.zqp zbbm zbg8 rfl
theorem zbq1 {n : Nat} {H : Hp} {vs : List V} : (orc T (n + 1)).inl F.zqp vs H = finI H.length false [] (unw T (orc T n) n H.length [] (exec T (orc T n) n H.length (.reg zbbk) (params 0 vs) H)) := by rw [zia, zbg8, y7, zh7 zbbm rfl]; rfl
def zbq2 := rg zbbn.eq_1 <| rg zbbo.eq_1 <| rg zbbp.eq_1 <| @ex_of T _ _ zbbq.eq_1
def zbq3 := @vi T F.zqq zbbs zbg9 rfl
theorem zbq4 {n : Nat} {H : Hp} {vs : List V} : (orc T (n + 1)).inl F.zqq vs H = finI H.length false [.tmp 2] (unw T (orc T n) n H.length [] (exec T (orc T n) n H.length (.seq (.reg zbbn) zbbq) (params 0 vs) H)) := by rw [zia, zbg9, y7, zh7 zbbs rfl]; rfl
def zbq5 := rg zbbt.eq_1 <| rg zbbu.eq_1 <| rg zbbv.eq_1 <| rg zbbw.eq_1 <| @ex_of T _ _ zbbx.eq_1
def zbq6 := @vd T F.zkf zbbz [0] zbha rfl rfl
theorem zbq7 : zbbz.res = [.cell 2 6 true, .tmp 3] ∧ zbbz.rets = [[], []] ∧ zbbz.body = (.seq (.reg zbbt) zbbx) := ⟨rfl, rfl, rfl⟩
def zbq8 := @vi T F.zqr zbb1 zbhb rfl
theorem zbq9 {n : Nat} {H : Hp} {vs : List V} : (orc T (n + 1)).inl F.zqr vs H = finG H.length false (dskN vs H) := by rw [zia, zbhb, y7, zh8 zbb1 rfl]; rfl
def zbra := y5 @zbq9 @dsk_l
def zbrb := @vd T F.zky zbb2 [2, 0, 2] zbhc rfl rfl
theorem zbrc : zbb2.res = [.tmp 6] ∧ zbb2.rets = [[2]] ∧ zbb2.body = .fail := ⟨rfl, rfl, rfl⟩
def zbrd := rg zbb3.eq_1 <| rg zbb4.eq_1 <| rg zbb5.eq_1 <| rg zbb6.eq_1 <| rg zbb7.eq_1 <| rg zbb8.eq_1 <| rg zbb9.eq_1 <| xg zbca.eq_1 <| xg zbcb.eq_1 <| rg zbcc.eq_1 <| @ex_of T _ _ zbcd.eq_1
def zbre := @vd T F.zlw zbcf [0, 0] zbhd rfl rfl
theorem zbrf : zbcf.res = [.tmp 4] ∧ zbcf.rets = [[2]] ∧ zbcf.body = (.seq (.reg zbb3) (.seq (.reg zbb4) zbcd)) := ⟨rfl, rfl, rfl⟩
def zbrg := rg zbcg.eq_1 <| rg zbch.eq_1 <| rg zbci.eq_1 <| rg zbcj.eq_1 <| rg zbck.eq_1 <| rg zbcl.eq_1 <| rg zbcm.eq_1 <| rg zbcn.eq_1 <| rg zbco.eq_1 <| rg zbcp.eq_1 <| rg zbcq.eq_1 <| xg zbcr.eq_1 <| xg zbcs.eq_1 <| rg zbct.eq_1 <| xg zbcu.eq_1 <| rg zbcv.eq_1 <| xg zbcw.eq_1 <| xg zbcx.eq_1 <| rg zbcy.eq_1 <| @ex_of T _ _ zbcz.eq_1
def zbrh := @vd T F.zlr zbc1 [] zbhe rfl rfl
theorem zbri : zbc1.res = [.cell 0 256 true] ∧ zbc1.rets = [[]] ∧ zbc1.body = (.seq (.reg zbcg) (.seq (.reg zbch) zbcz)) := ⟨rfl, rfl, rfl⟩
def zbrj := rg zbc2.eq_1 <| rg zbc3.eq_1 <| rg zbc4.eq_1 <| rg zbc5.eq_1 <| rg zbc6.eq_1 <| rg zbc7.eq_1 <| rg zbc8.eq_1 <| xg zbc9.eq_1 <| xg zbda.eq_1 <| rg zbdb.eq_1 <| @ex_of T _ _ zbdc.eq_1
def zbrk := @vi T F.zqs zbde zbhf rfl
theorem zbrl {n : Nat} {H : Hp} {vs : List V} : (orc T (n + 1)).inl F.zqs vs H = finI H.length false [.tmp 4] (unw T (orc T n) n H.length [] (exec T (orc T n) n H.length (.seq (.reg zbc2) zbdc) (params 0 vs) H)) := by rw [zia, zbhf, y7, zh7 zbde rfl]; rfl
def zbrm := rg zbdf.eq_1 <| @ru_of T _ _ zbdg.eq_1
def zbrn := @vd T F.zn5 zbdi [0] zbhg rfl rfl
theorem zbro : zbdi.res = [.tmp 2] ∧ zbdi.rets = [[]] ∧ zbdi.body = (.seq (.reg zbdf) (.seq (.reg zbdg) .ret)) := ⟨rfl, rfl, rfl⟩
def zbrp := rg zbdj.eq_1 <| rg zbdk.eq_1 <| rg zbdl.eq_1 <| rg zbdm.eq_1 <| rg zbdn.eq_1 <| rg zbdo.eq_1 <| rg zbdp.eq_1 <| rg zbdq.eq_1 <| rg zbdr.eq_1 <| rg zbds.eq_1 <| rg zbdt.eq_1 <| xg zbdu.eq_1 <| xg zbdv.eq_1 <| rg zbdw.eq_1 <| rg zbdx.eq_1 <| xg zbdy.eq_1 <| @ex_of T _ _ zbdz.eq_1
def zbrq := @vi T F.zqu zbd1 zbhh rfl
theorem zbrr {n : Nat} {H : Hp} {vs : List V} : (orc T (n + 1)).inl F.zqu vs H = finI H.length false [.tmp 4] (unw T (orc T n) n H.length [] (exec T (orc T n) n H.length (.seq (.reg zbdj) zbdz) (params 0 vs) H)) := by rw [zia, zbhh, y7, zh7 zbd1 rfl]; rfl
end Go.Dvm.C
