/- What each piece of the code comes to: part 1. -/
import Derived.Test.YtnppecdklidmmaaGreatQc0
set_option linter.all false
set_option maxRecDepth 100000
set_option maxHeartbeats 4000000
namespace Go.Dvm.C
open Go Go.Dvm
def ke := And.intro @Ow.enc.eq_1 <| And.intro @Sl.enc.eq_1 <| And.intro @I.zkk.enc.eq_1 <| And.intro @I.zkl.enc.eq_1 <| And.intro @I.zkm.enc.eq_1 <| And.intro @I.zkn.enc.eq_1 <| And.intro @I.zko.enc.eq_1 <| And.intro @I.zkp.enc.eq_1 <| And.intro @arrEnc.eq_1 <| And.intro @I.zkq.enc.eq_1 <| And.intro @I.zkr.enc.eq_1 <| And.intro @I.zks.enc.eq_1 <| @I.zkt.enc.eq_1
def kf := And.intro @ke @kn
def tab : List (Nat × MFun) := [(5, zqc), (8, zqe), (9, zqg), (14, zqi), (15, zqn), (16, zqp), (18, zqr), (22, zqt), (28, zqv), (29, zrd), (30, zrf), (31, zrs), (32, zrw), (38, zry), (41, zr0), (42, zr2), (43, zsd), (46, zsf), (47, zsl), (48, zsn), (49, zs4), (50, zs8), (51, zta), (52, zth), (54, ztq), (55, ztu), (59, ztw), (60, zty), (62, zt2), (74, zt4), (75, zua), (76, zup), (77, zu5), (78, zvj), (79, zvt), (80, zvv), (81, zvz), (82, zv1), (83, zv2), (84, zv4), (85, zv6), (86, zv8), (87, zwd), (88, zwf), (93, zwh), (94, zwj), (95, zwl), (96, zwz), (97, zw1), (98, zw3), (99, zw5), (100, zxk), (101, zxr), (105, zx6), (106, zyr), (107, zyv), (108, zy2), (109, zy9), (110, zzo), (111, zzw), (112, zz3), (113, zz7), (114, z0b), (115, z0g), (117, z0n), (118, z0x), (119, z02), (120, z1z), (124, z13), (125, z2h), (126, z2r), (136, z2x), (144, z22), (145, z3e), (146, z3m), (147, z3v), (148, z38), (149, z4s), (152, z45), (154, z5e), (155, z5i), (156, z5w), (157, z50), (158, z54), (159, z58), (160, z6t), (163, z61), (164, z7e), (165, z7l), (166, z7p), (167, z7u), (168, z70), (169, z75), (170, z79), (171, z8b), (172, z8f), (173, z8i), (174, z8o), (175, z8x), (176, z8z), (177, z85), (180, z9i), (181, z9s), (182, z95), (183, zbaq), (184, zbay), (185, zbbn), (186, zbb0), (187, zbcx), (205, zbcz), (209, zbc0), (211, zbdd), (212, zbdz), (213, zbec), (214, zbeg), (216, zbeo), (219, zbey), (220, zbfh), (221, zbfu), (222, zbfy), (223, zbga), (224, zbgn), (225, zbhc), (226, zbhq), (244, zbim), (253, zbjh), (254, zbj0), (255, zbj6), (270, zbkv), (275, zbk3), (277, zblk), (278, zbls), (279, zblw), (280, zbl0), (286, zbmd), (291, zbmu), (310, zbnr), (318, zbn4), (319, zbom), (320, zbou)]
abbrev T : Nat → Option MFun := look tab
theorem zbov : T F.zon = some zqc := rfl
theorem zbow : T F.zlr = some zqe := rfl
theorem zbox : T F.zlv = some zqg := rfl
theorem zboy : T F.zmz = some zqi := rfl
theorem zboz : T F.zm0 = some zqn := rfl
theorem zbo0 : T F.zoo = some zqp := rfl
theorem zbo1 : T F.zop = some zqr := rfl
theorem zbo2 : T F.zoq = some zqt := rfl
theorem zbo3 : T F.zkw = some zqv := rfl
theorem zbo4 : T F.zlf = some zrd := rfl
theorem zbo5 : T F.zlo = some zrf := rfl
theorem zbo6 : T F.zk2 = some zrs := rfl
theorem zbo7 : T F.zlu = some zrw := rfl
theorem zbo8 : T F.zk4 = some zry := rfl
theorem zbo9 : T F.zl0 = some zr0 := rfl
theorem zbpa : T F.zmg = some zr2 := rfl
theorem zbpb : T F.zmr = some zsd := rfl
theorem zbpc : T F.zmw = some zsf := rfl
theorem zbpd : T F.zmy = some zsl := rfl
theorem zbpe : T F.zor = some zsn := rfl
theorem zbpf : T F.zos = some zs4 := rfl
theorem zbpg : T F.zot = some zs8 := rfl
theorem zbph : T F.zou = some zta := rfl
theorem zbpi : T F.zm1 = some zth := rfl
theorem zbpj : T F.zov = some ztq := rfl
theorem zbpk : T F.zow = some ztu := rfl
theorem zbpl : T F.zlg = some ztw := rfl
theorem zbpm : T F.zox = some zty := rfl
theorem zbpn : T F.zoy = some zt2 := rfl
theorem zbpo : T F.zkv = some zt4 := rfl
theorem zbpp : T F.zk3 = some zua := rfl
theorem zbpq : T F.zk6 = some zup := rfl
theorem zbpr : T F.zlc = some zu5 := rfl
theorem zbps : T F.zle = some zvj := rfl
theorem zbpt : T F.zoz = some zvt := rfl
theorem zbpu : T F.zo0 = some zvv := rfl
theorem zbpv : T F.zo1 = some zvz := rfl
theorem zbpw : T F.zo2 = some zv1 := rfl
theorem zbpx : T F.zlh = some zv2 := rfl
theorem zbpy : T F.zo3 = some zv4 := rfl
theorem zbpz : T F.zkx = some zv6 := rfl
theorem zbp0 : T F.zku = some zv8 := rfl
theorem zbp1 : T F.zkz = some zwd := rfl
theorem zbp2 : T F.zls = some zwf := rfl
theorem zbp3 : T F.zly = some zwh := rfl
theorem zbp4 : T F.zlx = some zwj := rfl
theorem zbp5 : T F.zlz = some zwl := rfl
theorem zbp6 : T F.zmf = some zwz := rfl
theorem zbp7 : T F.zma = some zw1 := rfl
theorem zbp8 : T F.zmk = some zw3 := rfl
theorem zbp9 : T F.zmn = some zw5 := rfl
theorem zbqa : T F.zmp = some zxk := rfl
theorem zbqb : T F.zmq = some zxr := rfl
theorem zbqc : T F.zmv = some zx6 := rfl
theorem zbqd : T F.znd = some zyr := rfl
theorem zbqe : T F.zo4 = some zyv := rfl
theorem zbqf : T F.zo5 = some zy2 := rfl
theorem zbqg : T F.zo6 = some zy9 := rfl
theorem zbqh : T F.zo7 = some zzo := rfl
theorem zbqi : T F.zo8 = some zzw := rfl
theorem zbqj : T F.zo9 = some zz3 := rfl
theorem zbqk : T F.zpa = some zz7 := rfl
theorem zbql : T F.zpb = some z0b := rfl
theorem zbqm : T F.zpc = some z0g := rfl
theorem zbqn : T F.zpd = some z0n := rfl
theorem zbqo : T F.zpe = some z0x := rfl
theorem zbqp : T F.zn8 = some z02 := rfl
theorem zbqq : T F.zol = some z1z := rfl
theorem zbqr : T F.zpf = some z13 := rfl
theorem zbqs : T F.zpg = some z2h := rfl
theorem zbqt : T F.zph = some z2r := rfl
theorem zbqu : T F.zpi = some z2x := rfl
theorem zbqv : T F.zpj = some z22 := rfl
theorem zbqw : T F.zk5 = some z3e := rfl
theorem zbqx : T F.zk9 = some z3m := rfl
theorem zbqy : T F.zk8 = some z3v := rfl
theorem zbqz : T F.zlb = some z38 := rfl
theorem zbq0 : T F.zld = some z4s := rfl
theorem zbq1 : T F.zpk = some z45 := rfl
theorem zbq2 : T F.zpl = some z5e := rfl
theorem zbq3 : T F.zl9 = some z5i := rfl
theorem zbq4 : T F.zl5 = some z5w := rfl
theorem zbq5 : T F.zl6 = some z50 := rfl
theorem zbq6 : T F.zpm = some z54 := rfl
theorem zbq7 : T F.zmh = some z58 := rfl
theorem zbq8 : T F.zmm = some z6t := rfl
theorem zbq9 : T F.zmt = some z61 := rfl
theorem zbra : T F.zna = some z7e := rfl
theorem zbrb : T F.znb = some z7l := rfl
theorem zbrc : T F.zm5 = some z7p := rfl
theorem zbrd : T F.zns = some z7u := rfl
theorem zbre : T F.zpn = some z70 := rfl
theorem zbrf : T F.zpo = some z75 := rfl
theorem zbrg : T F.zpp = some z79 := rfl
theorem zbrh : T F.zpq = some z8b := rfl
theorem zbri : T F.zpr = some z8f := rfl
theorem zbrj : T F.zps = some z8i := rfl
theorem zbrk : T F.zpt = some z8o := rfl
theorem zbrl : T F.zpu = some z8x := rfl
theorem zbrm : T F.zpv = some z8z := rfl
theorem zbrn : T F.zpw = some z85 := rfl
theorem zbro : T F.zni = some z9i := rfl
theorem zbrp : T F.zpx = some z9s := rfl
theorem zbrq : T F.znw = some z95 := rfl
theorem zbrr : T F.zn7 = some zbaq := rfl
theorem zbrs : T F.zm4 = some zbay := rfl
theorem zbrt : T F.zob = some zbbn := rfl
theorem zbru : T F.zod = some zbb0 := rfl
theorem zbrv : T F.zok = some zbcx := rfl
theorem zbrw : T F.zpy = some zbcz := rfl
theorem zbrx : T F.zla = some zbc0 := rfl
theorem zbry : T F.zl8 = some zbdd := rfl
theorem zbrz : T F.zl3 = some zbdz := rfl
theorem zbr0 : T F.zpz = some zbec := rfl
theorem zbr1 : T F.zms = some zbeg := rfl
theorem zbr2 : T F.zp1 = some zbeo := rfl
theorem zbr3 : T F.zp2 = some zbey := rfl
theorem zbr4 : T F.zp3 = some zbfh := rfl
theorem zbr5 : T F.znu = some zbfu := rfl
theorem zbr6 : T F.zne = some zbfy := rfl
theorem zbr7 : T F.zm3 = some zbga := rfl
theorem zbr8 : T F.zoa = some zbgn := rfl
theorem zbr9 : T F.zog = some zbhc := rfl
theorem zbsa : T F.zoh = some zbhq := rfl
theorem zbsb : T F.zng = some zbim := rfl
theorem zbsc : T F.zp4 = some zbjh := rfl
theorem zbsd : T F.zp5 = some zbj0 := rfl
theorem zbse : T F.zp6 = some zbj6 := rfl
theorem zbsf : T F.zm8 = some zbkv := rfl
theorem zbsg : T F.znj = some zbk3 := rfl
theorem zbsh : T F.znr = some zblk := rfl
theorem zbsi : T F.zp7 = some zbls := rfl
theorem zbsj : T F.zp8 = some zblw := rfl
theorem zbsk : T F.zp9 = some zbl0 := rfl
theorem zbsl : T F.zm6 = some zbmd := rfl
theorem zbsm : T F.znp = some zbmu := rfl
theorem zbsn : T F.zno = some zbnr := rfl
theorem zbso : T F.znl = some zbn4 := rfl
theorem zbsp : T F.zqa = some zbom := rfl
theorem zbsq : T F.znm = some zbou := rfl
def rg {P : Prop} {c c' : List MO} (h : c = c') (p : P) := ra (T := T) h p
def xg {P : Prop} {c c' : MC} (h : c = c') (p : P) := xa (T := T) h p
def zbsr := rg o_5_1.eq_1 <| rg o_5_2.eq_1 <| rg o_5_3.eq_1 <| rg o_5_4.eq_1 <| rg o_5_5.eq_1 <| rg o_5_6.eq_1 <| rg o_5_7.eq_1 <| rg o_5_8.eq_1 <| rg o_5_9.eq_1 <| rg o_5_10.eq_1 <| rg o_5_11.eq_1 <| xg c_5_12.eq_1 <| xg c_5_13.eq_1 <| rg o_5_14.eq_1 <| rg o_5_15.eq_1 <| rg o_5_16.eq_1 <| rg o_5_17.eq_1 <| rg o_5_18.eq_1 <| rg o_5_19.eq_1 <| xg c_5_20.eq_1 <| xg c_5_21.eq_1 <| @ex_of T _ _ c_5_22.eq_1
def zbss := @vd T F.zon zqc [0, 0, 0, 0] zbov rfl rfl
theorem zbst : zqc.res = [.tmp 8] ∧ zqc.rets = [[]] ∧ zqc.body = (.seq (.reg o_5_1) (.seq (.reg o_5_2) c_5_22)) := ⟨rfl, rfl, rfl⟩
def zbsu := rg o_8_1.eq_1 <| rg o_8_2.eq_1 <| rg o_8_3.eq_1 <| rg o_8_4.eq_1 <| rg o_8_5.eq_1 <| rg o_8_6.eq_1 <| rg o_8_7.eq_1 <| rg o_8_8.eq_1 <| xg c_8_9.eq_1 <| rg o_8_10.eq_1 <| rg o_8_11.eq_1 <| And.intro (@df_of T _ _ [(1, 6)] o_8_11.eq_1) <| rg o_8_12.eq_1 <| xg c_8_13.eq_1 <| xg c_8_14.eq_1 <| rg o_8_15.eq_1 <| @ex_of T _ _ c_8_16.eq_1
def zbsv := @vd T F.zlr zqe [0, 0] zbow rfl rfl
theorem zbsw : zqe.res = [.cell 4 6 true, .tmp 5] ∧ zqe.rets = [[], []] ∧ zqe.body = (.seq (.reg o_8_1) c_8_16) := ⟨rfl, rfl, rfl⟩
def zbsx := rg o_9_1.eq_1 <| @ru_of T _ _ o_9_2.eq_1
def zbsy := @vd T F.zlv zqg [0] zbox rfl rfl
theorem zbsz : zqg.res = [.tmp 2] ∧ zqg.rets = [[]] ∧ zqg.body = (.seq (.reg o_9_1) (.seq (.reg o_9_2) .ret)) := ⟨rfl, rfl, rfl⟩
def zbs0 := rg o_14_1.eq_1 <| @ru_of T _ _ o_14_2.eq_1
def zbs1 := @vd T F.zmz zqi [0, 0] zboy rfl rfl
theorem zbs2 : zqi.res = [.tmp 4] ∧ zqi.rets = [[]] ∧ zqi.body = (.seq (.reg o_14_1) (.seq (.reg o_14_2) .ret)) := ⟨rfl, rfl, rfl⟩
def zbs3 := rg o_15_1.eq_1 <| rg o_15_2.eq_1 <| rg o_15_3.eq_1 <| rg o_15_4.eq_1 <| rg o_15_5.eq_1 <| rg o_15_6.eq_1 <| rg o_15_7.eq_1 <| rg o_15_8.eq_1 <| rg o_15_9.eq_1 <| rg zqj.eq_1 <| xg zqk.eq_1 <| @ex_of T _ _ zql.eq_1
def zbs4 := @vd T F.zm0 zqn [] zboz rfl rfl
theorem zbs5 : zqn.res = [.tmp 0] ∧ zqn.rets = [[]] ∧ zqn.body = (.seq (.reg o_15_1) (.seq (.reg o_15_2) (.seq (.reg o_15_3) zql))) := ⟨rfl, rfl, rfl⟩
def zbs6 := rg o_16_1.eq_1 <| rg o_16_2.eq_1 <| rg o_16_3.eq_1 <| rg o_16_4.eq_1 <| @ex_of T _ _ c_16_5.eq_1
def zbs7 := @vi T F.zoo zqp zbo0 rfl
theorem zbs8 {n : Nat} {H : Hp} {vs : List V} : (orc T (n + 1)).inl F.zoo vs H = finI H.length false [.tmp 4, .tmp 5] (unw T (orc T n) n H.length [] (exec T (orc T n) n H.length (.seq (.reg o_16_1) c_16_5) (params 0 vs) H)) := by rw [zh9, zbo0, y4, zh7 zqp rfl]; rfl
def zbs9 := rg o_18_1.eq_1 <| rg o_18_2.eq_1 <| rg o_18_3.eq_1 <| rg o_18_4.eq_1 <| rg o_18_5.eq_1 <| rg o_18_6.eq_1 <| rg o_18_7.eq_1 <| xg c_18_8.eq_1 <| @ru_of T _ _ o_18_9.eq_1
def zbta := @vi T F.zop zqr zbo1 rfl
theorem zbtb {n : Nat} {H : Hp} {vs : List V} : (orc T (n + 1)).inl F.zop vs H = finI H.length false [.cell 4 5 true, .tmp 5] (unw T (orc T n) n H.length [] (exec T (orc T n) n H.length (.seq (.reg o_18_1) (.seq (.reg o_18_2) (.seq (.seq (.reg o_18_3) c_18_8) (.seq (.dreg o_18_9 []) .ret)))) (params 0 vs) H)) := by rw [zh9, zbo1, y4, zh7 zqr rfl]; rfl
def zbtc := rg o_22_1.eq_1 <| rg o_22_2.eq_1 <| rg o_22_3.eq_1 <| And.intro (@df_of T _ _ [(5, 3)] o_22_3.eq_1) <| @ru_of T _ _ o_22_4.eq_1
def zbtd := @vi T F.zoq zqt zbo2 rfl
theorem zbte {n : Nat} {H : Hp} {vs : List V} : (orc T (n + 1)).inl F.zoq vs H = finI H.length false [.cell 2 6 true] (unw T (orc T n) n H.length [] (exec T (orc T n) n H.length (.seq (.reg o_22_1) (.seq (.reg o_22_2) (.seq (.dreg o_22_3 [(5, 3)]) (.seq (.reg o_22_4) .ret)))) (params 0 vs) H)) := by rw [zh9, zbo2, y4, zh7 zqt rfl]; rfl
def zbtf := rg o_28_1.eq_1 <| @ru_of T _ _ o_28_2.eq_1
def zbtg := @vd T F.zkw zqv [0] zbo3 rfl rfl
theorem zbth : zqv.res = [.tmp 2] ∧ zqv.rets = [[]] ∧ zqv.body = (.seq (.reg o_28_1) (.seq (.reg o_28_2) .ret)) := ⟨rfl, rfl, rfl⟩
def zbti := rg o_29_1.eq_1 <| rg o_29_2.eq_1 <| rg o_29_3.eq_1 <| rg o_29_4.eq_1 <| rg o_29_5.eq_1 <| rg o_29_6.eq_1 <| rg o_29_7.eq_1 <| rg o_29_8.eq_1 <| rg o_29_9.eq_1 <| rg zqw.eq_1 <| xg zqx.eq_1 <| xg zqy.eq_1 <| rg zqz.eq_1 <| rg zq0.eq_1 <| rg zq1.eq_1 <| rg zq2.eq_1 <| rg zq3.eq_1 <| rg zq4.eq_1 <| rg zq5.eq_1 <| rg zq6.eq_1 <| rg zq7.eq_1 <| xg zq8.eq_1 <| xg zq9.eq_1 <| rg zra.eq_1 <| @ex_of T _ _ zrb.eq_1
def zbtj := @vd T F.zlf zrd [0, 0] zbo4 rfl rfl
theorem zbtk : zrd.res = [.cell 4 4 true, .tmp 5] ∧ zrd.rets = [[], []] ∧ zrd.body = (.seq (.reg o_29_1) (.seq (.blk 0 (.seq (.reg o_29_2) zqy)) zrb)) := ⟨rfl, rfl, rfl⟩
def zbtl := rg o_30_1.eq_1 <| rg o_30_2.eq_1 <| rg o_30_3.eq_1 <| rg o_30_4.eq_1 <| rg o_30_5.eq_1 <| rg o_30_6.eq_1 <| @ex_of T _ _ c_30_7.eq_1
def zbtm := @vd T F.zlo zrf [0, 0] zbo5 rfl rfl
theorem zbtn : zrf.res = [.tmp 4] ∧ zrf.rets = [[4]] ∧ zrf.body = (.seq (.reg o_30_1) (.seq (.reg o_30_2) c_30_7)) := ⟨rfl, rfl, rfl⟩
def zbto := rg o_31_1.eq_1 <| rg o_31_2.eq_1 <| rg o_31_3.eq_1 <| rg o_31_4.eq_1 <| rg o_31_5.eq_1 <| rg o_31_6.eq_1 <| rg o_31_7.eq_1 <| rg o_31_8.eq_1 <| rg o_31_9.eq_1 <| rg zrg.eq_1 <| rg zrh.eq_1 <| rg zri.eq_1 <| rg zrj.eq_1 <| rg zrk.eq_1 <| rg zrl.eq_1 <| xg zrm.eq_1 <| xg zrn.eq_1 <| rg zro.eq_1 <| xg zrp.eq_1 <| @ex_of T _ _ zrq.eq_1
def zbtp := @vd T F.zk2 zrs [0] zbo6 rfl rfl
theorem zbtq : zrs.res = [.tmp 2] ∧ zrs.rets = [[]] ∧ zrs.body = (.seq (.reg o_31_1) zrq) := ⟨rfl, rfl, rfl⟩
def zbtr := rg o_32_1.eq_1 <| rg o_32_2.eq_1 <| rg o_32_3.eq_1 <| rg o_32_4.eq_1 <| rg o_32_5.eq_1 <| rg o_32_6.eq_1 <| rg o_32_7.eq_1 <| xg c_32_8.eq_1 <| xg c_32_9.eq_1 <| rg zrt.eq_1 <| @ex_of T _ _ zru.eq_1
def zbts := @vd T F.zlu zrw [0] zbo7 rfl rfl
theorem zbtt : zrw.res = [.tmp 2] ∧ zrw.rets = [[]] ∧ zrw.body = (.seq (.reg o_32_1) zru) := ⟨rfl, rfl, rfl⟩
def zbtu := rg o_38_1.eq_1 <| rg o_38_2.eq_1 <| rg o_38_3.eq_1 <| rg o_38_4.eq_1 <| @ex_of T _ _ c_38_5.eq_1
def zbtv := @vd T F.zk4 zry [0] zbo8 rfl rfl
theorem zbtw : zry.res = [.tmp 2] ∧ zry.rets = [[2]] ∧ zry.body = (.seq (.reg o_38_1) c_38_5) := ⟨rfl, rfl, rfl⟩
def zbtx := rg o_41_1.eq_1 <| @ru_of T _ _ o_41_2.eq_1
def zbty := @vd T F.zl0 zr0 [2, 0] zbo9 rfl rfl
theorem zbtz : zr0.res = [.tmp 4] ∧ zr0.rets = [[2]] ∧ zr0.body = (.seq (.reg o_41_1) (.seq (.reg o_41_2) .ret)) := ⟨rfl, rfl, rfl⟩
def zbt0 := rg o_42_1.eq_1 <| rg o_42_2.eq_1 <| rg o_42_3.eq_1 <| rg o_42_4.eq_1 <| rg o_42_5.eq_1 <| @ex_of T _ _ c_42_6.eq_1
def zbt1 := @vd T F.zmg zr2 [0] zbpa rfl rfl
theorem zbt2 : zr2.res = [.tmp 2, .tmp 3] ∧ zr2.rets = [[2], []] ∧ zr2.body = (.seq (.reg o_42_1) c_42_6) := ⟨rfl, rfl, rfl⟩
def zbt3 := rg o_43_1.eq_1 <| rg o_43_2.eq_1 <| rg o_43_3.eq_1 <| rg o_43_4.eq_1 <| rg o_43_5.eq_1 <| rg o_43_6.eq_1 <| rg o_43_7.eq_1 <| rg o_43_8.eq_1 <| rg o_43_9.eq_1 <| rg zr3.eq_1 <| xg zr4.eq_1 <| rg zr5.eq_1 <| rg zr6.eq_1 <| And.intro (@df_of T _ _ [(5, 8)] zr6.eq_1) <| rg zr7.eq_1 <| rg zr8.eq_1 <| xg zr9.eq_1 <| xg zsa.eq_1 <| @ex_of T _ _ zsb.eq_1
def zbt4 := @vd T F.zmr zsd [0] zbpb rfl rfl
theorem zbt5 : zsd.res = [.tmp 2, .tmp 3, .tmp 4] ∧ zsd.rets = [[2], [], []] ∧ zsd.body = (.seq (.reg o_43_1) zsb) := ⟨rfl, rfl, rfl⟩
def zbt6 := rg o_46_1.eq_1 <| @ru_of T _ _ o_46_2.eq_1
def zbt7 := @vd T F.zmw zsf [0, 0] zbpc rfl rfl
theorem zbt8 : zsf.res = [.tmp 4] ∧ zsf.rets = [[]] ∧ zsf.body = (.seq (.reg o_46_1) (.seq (.reg o_46_2) .ret)) := ⟨rfl, rfl, rfl⟩
def zbt9 := rg o_47_1.eq_1 <| rg o_47_2.eq_1 <| rg o_47_3.eq_1 <| rg o_47_4.eq_1 <| rg o_47_5.eq_1 <| rg o_47_6.eq_1 <| rg o_47_7.eq_1 <| rg o_47_8.eq_1 <| rg o_47_9.eq_1 <| xg zsg.eq_1 <| xg zsh.eq_1 <| rg zsi.eq_1 <| @ex_of T _ _ zsj.eq_1
def zbua := @vd T F.zmy zsl [0, 0] zbpd rfl rfl
theorem zbub : zsl.res = [.tmp 4] ∧ zsl.rets = [[]] ∧ zsl.body = (.seq (.reg o_47_1) (.seq (.seq (.reg o_47_2) (.cond (.t 10) (.seq (.reg o_47_3) .ret) .skip)) zsj)) := ⟨rfl, rfl, rfl⟩
def zbuc := rg o_52_1.eq_1 <| rg o_52_2.eq_1 <| rg o_52_3.eq_1 <| rg o_52_4.eq_1 <| rg o_52_5.eq_1 <| rg o_52_6.eq_1 <| rg o_52_7.eq_1 <| rg o_52_8.eq_1 <| rg o_52_9.eq_1 <| xg ztb.eq_1 <| rg ztc.eq_1 <| xg ztd.eq_1 <| rg zte.eq_1 <| @ex_of T _ _ ztf.eq_1
def zbud := @vd T F.zm1 zth [0] zbpi rfl rfl
theorem zbue : zth.res = [.cell 2 4 true] ∧ zth.rets = [[]] ∧ zth.body = (.seq (.reg o_52_1) ztf) := ⟨rfl, rfl, rfl⟩
def zbuf := rg o_54_1.eq_1 <| rg o_54_2.eq_1 <| rg o_54_3.eq_1 <| rg o_54_4.eq_1 <| rg o_54_5.eq_1 <| rg o_54_6.eq_1 <| rg o_54_7.eq_1 <| rg o_54_8.eq_1 <| xg c_54_9.eq_1 <| rg zti.eq_1 <| rg ztj.eq_1 <| rg ztk.eq_1 <| rg ztl.eq_1 <| rg ztm.eq_1 <| xg ztn.eq_1 <| @ex_of T _ _ zto.eq_1
def zbug := @vi T F.zov ztq zbpj rfl
theorem zbuh {n : Nat} {H : Hp} {vs : List V} : (orc T (n + 1)).inl F.zov vs H = finI H.length false [.tmp 4] (unw T (orc T n) n H.length [] (exec T (orc T n) n H.length (.seq (.reg o_54_1) (.seq (.reg o_54_2) zto)) (params 0 vs) H)) := by rw [zh9, zbpj, y4, zh7 ztq rfl]; rfl
def zbui := rg o_55_1.eq_1 <| rg o_55_2.eq_1 <| rg o_55_3.eq_1 <| rg o_55_4.eq_1 <| rg o_55_5.eq_1 <| rg o_55_6.eq_1 <| rg o_55_7.eq_1 <| rg o_55_8.eq_1 <| xg c_55_9.eq_1 <| rg ztr.eq_1 <| @ex_of T _ _ zts.eq_1
def zbuj := @vi T F.zow ztu zbpk rfl
theorem zbuk {n : Nat} {H : Hp} {vs : List V} : (orc T (n + 1)).inl F.zow vs H = finI H.length false [.tmp 4] (unw T (orc T n) n H.length [] (exec T (orc T n) n H.length (.seq (.reg o_55_1) (.seq (.reg o_55_2) zts)) (params 0 vs) H)) := by rw [zh9, zbpk, y4, zh7 ztu rfl]; rfl
def zbul := rg o_59_1.eq_1 <| rg o_59_2.eq_1 <| rg o_59_3.eq_1 <| rg o_59_4.eq_1 <| @ex_of T _ _ c_59_5.eq_1
def zbum := @vd T F.zlg ztw [0] zbpl rfl rfl
theorem zbun : ztw.res = [.tmp 2] ∧ ztw.rets = [[4]] ∧ ztw.body = (.seq (.reg o_59_1) c_59_5) := ⟨rfl, rfl, rfl⟩
def zbuo := rg o_74_1.eq_1 <| rg o_74_2.eq_1 <| @dr_of T _ _ [(10, 13), (18, 21)] o_74_2.eq_1 (by decide)
def zbup := @vd T F.zkv zt4 [0] zbpo rfl rfl
theorem zbuq : zt4.res = [.tmp 2] ∧ zt4.rets = [[]] ∧ zt4.body = (.seq (.reg o_74_1) (.seq (.dreg o_74_2 [(10, 13), (18, 21)]) .ret)) := ⟨rfl, rfl, rfl⟩
def zbur := rg o_75_1.eq_1 <| rg o_75_2.eq_1 <| rg o_75_3.eq_1 <| rg o_75_4.eq_1 <| rg o_75_5.eq_1 <| rg o_75_6.eq_1 <| rg o_75_7.eq_1 <| rg o_75_8.eq_1 <| rg o_75_9.eq_1 <| rg zt5.eq_1 <| xg zt6.eq_1 <| rg zt7.eq_1 <| @ex_of T _ _ zt8.eq_1
def zbus := @vd T F.zk3 zua [0, 0] zbpp rfl rfl
theorem zbut : zua.res = [.cell 4 4 true, .tmp 5] ∧ zua.rets = [[], []] ∧ zua.body = (.seq (.reg o_75_1) (.seq (.reg o_75_2) zt8)) := ⟨rfl, rfl, rfl⟩
def zbuu := rg o_76_1.eq_1 <| rg o_76_2.eq_1 <| rg o_76_3.eq_1 <| rg o_76_4.eq_1 <| rg o_76_5.eq_1 <| rg o_76_6.eq_1 <| And.intro (@df_of T _ _ [(4, 2)] o_76_6.eq_1) <| rg o_76_7.eq_1 <| rg o_76_8.eq_1 <| rg o_76_9.eq_1 <| rg zub.eq_1 <| rg zuc.eq_1 <| rg zud.eq_1 <| xg zue.eq_1 <| xg zuf.eq_1 <| rg zug.eq_1 <| rg zuh.eq_1 <| rg zui.eq_1 <| rg zuj.eq_1 <| rg zuk.eq_1 <| rg zul.eq_1 <| xg zum.eq_1 <| @ex_of T _ _ zun.eq_1
def zbuv := @vd T F.zk6 zup [0, 0] zbpq rfl rfl
theorem zbuw : zup.res = [.cell 4 4 true, .tmp 5] ∧ zup.rets = [[], []] ∧ zup.body = (.seq (.reg o_76_1) (.seq (.reg o_76_2) zun)) := ⟨rfl, rfl, rfl⟩
def zbux := rg o_77_1.eq_1 <| rg o_77_2.eq_1 <| rg o_77_3.eq_1 <| rg o_77_4.eq_1 <| rg o_77_5.eq_1 <| rg o_77_6.eq_1 <| xg c_77_7.eq_1 <| rg o_77_8.eq_1 <| rg o_77_9.eq_1 <| rg zuq.eq_1 <| rg zur.eq_1 <| rg zus.eq_1 <| rg zut.eq_1 <| rg zuu.eq_1 <| rg zuv.eq_1 <| And.intro (@dr_of T _ _ [(1, 6), (3, 6)] zuv.eq_1 (by decide)) <| rg zuw.eq_1 <| rg zux.eq_1 <| rg zuy.eq_1 <| xg zuz.eq_1 <| xg zu0.eq_1 <| rg zu1.eq_1 <| xg zu2.eq_1 <| @ex_of T _ _ zu3.eq_1
def zbuy := @vd T F.zlc zu5 [0, 0] zbpr rfl rfl
theorem zbuz : zu5.res = [.cell 4 4 true, .tmp 5] ∧ zu5.rets = [[], []] ∧ zu5.body = (.seq (.reg o_77_1) (.seq (.seq (.reg o_77_2) c_77_7) zu3)) := ⟨rfl, rfl, rfl⟩
def zbu0 := rg o_78_1.eq_1 <| rg o_78_2.eq_1 <| rg o_78_3.eq_1 <| rg o_78_4.eq_1 <| rg o_78_5.eq_1 <| rg o_78_6.eq_1 <| rg o_78_7.eq_1 <| rg o_78_8.eq_1 <| rg o_78_9.eq_1 <| And.intro (@df_of T _ _ [(0, 5)] o_78_9.eq_1) <| rg zu6.eq_1 <| rg zu7.eq_1 <| xg zu8.eq_1 <| xg zu9.eq_1 <| rg zva.eq_1 <| And.intro (@dr_of T _ _ [(7, 4)] zva.eq_1 (by decide)) <| rg zvb.eq_1 <| rg zvc.eq_1 <| rg zvd.eq_1 <| rg zve.eq_1 <| rg zvf.eq_1 <| xg zvg.eq_1 <| @ex_of T _ _ zvh.eq_1
def zbu1 := @vd T F.zle zvj [0, 0] zbps rfl rfl
theorem zbu2 : zvj.res = [.cell 4 4 true, .tmp 5] ∧ zvj.rets = [[], []] ∧ zvj.body = (.seq (.reg o_78_1) zvh) := ⟨rfl, rfl, rfl⟩
def zbu3 := rg o_79_1.eq_1 <| rg o_79_2.eq_1 <| rg o_79_3.eq_1 <| rg o_79_4.eq_1 <| rg o_79_5.eq_1 <| rg o_79_6.eq_1 <| rg o_79_7.eq_1 <| rg o_79_8.eq_1 <| rg o_79_9.eq_1 <| rg zvk.eq_1 <| rg zvl.eq_1 <| xg zvm.eq_1 <| xg zvn.eq_1 <| rg zvo.eq_1 <| rg zvp.eq_1 <| xg zvq.eq_1 <| @ex_of T _ _ zvr.eq_1
def zbu4 := @vi T F.zoz zvt zbpt rfl
theorem zbu5 {n : Nat} {H : Hp} {vs : List V} : (orc T (n + 1)).inl F.zoz vs H = finI H.length true [.tmp 4] (unw T (orc T n) n H.length [] (exec T (orc T n) n H.length (.seq (.reg o_79_1) zvr) (params 0 vs) H)) := by rw [zh9, zbpt, y4, zh7 zvt rfl]; rfl
def zbu6 := rg o_80_1.eq_1 <| @ru_of T _ _ o_80_2.eq_1
def zbu7 := @vi T F.zo0 zvv zbpu rfl
theorem zbu8 {n : Nat} {H : Hp} {vs : List V} : (orc T (n + 1)).inl F.zo0 vs H = finI H.length false [.tmp 3] (unw T (orc T n) n H.length [] (exec T (orc T n) n H.length (.seq (.reg o_80_1) (.seq (.reg o_80_2) .ret)) (params 0 vs) H)) := by rw [zh9, zbpu, y4, zh7 zvv rfl]; rfl
def zbu9 := rg o_81_1.eq_1 <| rg o_81_2.eq_1 <| rg o_81_3.eq_1 <| rg o_81_4.eq_1 <| rg o_81_5.eq_1 <| rg o_81_6.eq_1 <| rg o_81_7.eq_1 <| xg c_81_8.eq_1 <| xg c_81_9.eq_1 <| rg zvw.eq_1 <| @ex_of T _ _ zvx.eq_1
def zbva := @vi T F.zo1 zvz zbpv rfl
theorem zbvb {n : Nat} {H : Hp} {vs : List V} : (orc T (n + 1)).inl F.zo1 vs H = finI H.length false [.tmp 4] (unw T (orc T n) n H.length [] (exec T (orc T n) n H.length (.seq (.reg o_81_1) zvx) (params 0 vs) H)) := by rw [zh9, zbpv, y4, zh7 zvz rfl]; rfl
def zbvc := rg o_82_1.eq_1 <| @ru_of T _ _ o_82_2.eq_1
def zbvd := @vi T F.zo2 zv1 zbpw rfl
theorem zbve {n : Nat} {H : Hp} {vs : List V} : (orc T (n + 1)).inl F.zo2 vs H = finI H.length false [.tmp 3] (unw T (orc T n) n H.length [] (exec T (orc T n) n H.length (.seq (.reg o_82_1) (.seq (.reg o_82_2) .ret)) (params 0 vs) H)) := by rw [zh9, zbpw, y4, zh7 zv1 rfl]; rfl
def zbvf := @vd T F.zlh zv2 [4, 0, 4] zbpx rfl rfl
theorem zbvg : zv2.res = [.tmp 6] ∧ zv2.rets = [[4]] ∧ zv2.body = .fail := ⟨rfl, rfl, rfl⟩
def zbvh := rg o_84_1.eq_1 <| @ru_of T _ _ o_84_2.eq_1
def zbvi := @vi T F.zo3 zv4 zbpy rfl
theorem zbvj {n : Nat} {H : Hp} {vs : List V} : (orc T (n + 1)).inl F.zo3 vs H = finI H.length false [.tmp 4] (unw T (orc T n) n H.length [] (exec T (orc T n) n H.length (.seq (.reg o_84_1) (.seq (.reg o_84_2) .ret)) (params 0 vs) H)) := by rw [zh9, zbpy, y4, zh7 zv4 rfl]; rfl
def zbvk := rg o_85_1.eq_1 <| @ru_of T _ _ o_85_2.eq_1
def zbvl := @vd T F.zkx zv6 [0] zbpz rfl rfl
theorem zbvm : zv6.res = [.tmp 2] ∧ zv6.rets = [[]] ∧ zv6.body = (.seq (.reg o_85_1) (.seq (.reg o_85_2) .ret)) := ⟨rfl, rfl, rfl⟩
def zbvn := rg o_86_1.eq_1 <| @ru_of T _ _ o_86_2.eq_1
def zbvo := @vd T F.zku zv8 [0] zbp0 rfl rfl
theorem zbvp : zv8.res = [.tmp 2] ∧ zv8.rets = [[]] ∧ zv8.body = (.seq (.reg o_86_1) (.seq (.reg o_86_2) .ret)) := ⟨rfl, rfl, rfl⟩
def zbvq := rg o_87_1.eq_1 <| rg o_87_2.eq_1 <| rg o_87_3.eq_1 <| rg o_87_4.eq_1 <| rg o_87_5.eq_1 <| rg o_87_6.eq_1 <| rg o_87_7.eq_1 <| rg o_87_8.eq_1 <| xg c_87_9.eq_1 <| xg zv9.eq_1 <| rg zwa.eq_1 <| @ex_of T _ _ zwb.eq_1
def zbvr := @vd T F.zkz zwd [0, 0] zbp1 rfl rfl
theorem zbvs : zwd.res = [.tmp 4] ∧ zwd.rets = [[]] ∧ zwd.body = (.seq (.reg o_87_1) (.seq (.reg o_87_2) zwb)) := ⟨rfl, rfl, rfl⟩
def zbvt := rg o_88_1.eq_1 <| @ru_of T _ _ o_88_2.eq_1
def zbvu := @vd T F.zls zwf [0] zbp2 rfl rfl
theorem zbvv : zwf.res = [.tmp 2] ∧ zwf.rets = [[]] ∧ zwf.body = (.seq (.reg o_88_1) (.seq (.reg o_88_2) .ret)) := ⟨rfl, rfl, rfl⟩
def zbvw := rg o_93_1.eq_1 <| rg o_93_2.eq_1 <| rg o_93_3.eq_1 <| rg o_93_4.eq_1 <| @ex_of T _ _ c_93_5.eq_1
def zbvx := @vd T F.zly zwh [2, 0] zbp3 rfl rfl
theorem zbvy : zwh.res = [.tmp 4] ∧ zwh.rets = [[2]] ∧ zwh.body = (.seq (.reg o_93_1) c_93_5) := ⟨rfl, rfl, rfl⟩
def zbvz := rg o_94_1.eq_1 <| rg o_94_2.eq_1 <| rg o_94_3.eq_1 <| rg o_94_4.eq_1 <| xg c_94_5.eq_1 <| @ru_of T _ _ o_94_6.eq_1
def zbv0 := @vd T F.zlx zwj [2, 0] zbp4 rfl rfl
theorem zbv1 : zwj.res = [.tmp 4] ∧ zwj.rets = [[2]] ∧ zwj.body = (.seq (.reg o_94_1) (.seq (.blk 0 (.loop [0, 1] c_94_5)) (.seq (.reg o_94_6) .ret))) := ⟨rfl, rfl, rfl⟩
def zbv2 := rg o_95_1.eq_1 <| @ru_of T _ _ o_95_2.eq_1
def zbv3 := @vd T F.zlz zwl [0] zbp5 rfl rfl
theorem zbv4 : zwl.res = [.tmp 2] ∧ zwl.rets = [[]] ∧ zwl.body = (.seq (.reg o_95_1) (.seq (.reg o_95_2) .ret)) := ⟨rfl, rfl, rfl⟩
def zbv5 := rg o_96_1.eq_1 <| rg o_96_2.eq_1 <| rg o_96_3.eq_1 <| rg o_96_4.eq_1 <| rg o_96_5.eq_1 <| rg o_96_6.eq_1 <| rg o_96_7.eq_1 <| rg o_96_8.eq_1 <| xg c_96_9.eq_1 <| xg zwm.eq_1 <| rg zwn.eq_1 <| rg zwo.eq_1 <| rg zwp.eq_1 <| rg zwq.eq_1 <| rg zwr.eq_1 <| rg zws.eq_1 <| xg zwt.eq_1 <| xg zwu.eq_1 <| rg zwv.eq_1 <| xg zww.eq_1 <| @ex_of T _ _ zwx.eq_1
def zbv6 := @vd T F.zmf zwz [0] zbp6 rfl rfl
theorem zbv7 : zwz.res = [.tmp 2] ∧ zwz.rets = [[2]] ∧ zwz.body = (.seq (.reg o_96_1) (.seq (.reg o_96_2) zwx)) := ⟨rfl, rfl, rfl⟩
def zbv8 := rg o_97_1.eq_1 <| @ru_of T _ _ o_97_2.eq_1
def zbv9 := @vd T F.zma zw1 [0, 0] zbp7 rfl rfl
theorem zbwa : zw1.res = [.tmp 4] ∧ zw1.rets = [[2]] ∧ zw1.body = (.seq (.reg o_97_1) (.seq (.reg o_97_2) .ret)) := ⟨rfl, rfl, rfl⟩
def zbwb := rg o_98_1.eq_1 <| @ru_of T _ _ o_98_2.eq_1
def zbwc := @vd T F.zmk zw3 [0] zbp8 rfl rfl
theorem zbwd : zw3.res = [.tmp 2] ∧ zw3.rets = [[]] ∧ zw3.body = (.seq (.reg o_98_1) (.seq (.reg o_98_2) .ret)) := ⟨rfl, rfl, rfl⟩
def zbwe := rg o_99_1.eq_1 <| rg o_99_2.eq_1 <| rg o_99_3.eq_1 <| rg o_99_4.eq_1 <| rg o_99_5.eq_1 <| @ex_of T _ _ c_99_6.eq_1
def zbwf := @vd T F.zmn zw5 [0] zbp9 rfl rfl
theorem zbwg : zw5.res = [.tmp 2, .tmp 3] ∧ zw5.rets = [[], []] ∧ zw5.body = (.seq (.reg o_99_1) (.seq (.reg o_99_2) c_99_6)) := ⟨rfl, rfl, rfl⟩
def zbwh := rg zw6.eq_1 <| rg zw7.eq_1 <| rg zw8.eq_1 <| rg zw9.eq_1 <| rg zxa.eq_1 <| rg zxb.eq_1 <| rg zxc.eq_1 <| rg zxd.eq_1 <| rg zxe.eq_1 <| xg zxf.eq_1 <| xg zxg.eq_1 <| rg zxh.eq_1 <| @ex_of T _ _ zxi.eq_1
def zbwi := @vd T F.zmp zxk [0, 0] zbqa rfl rfl
theorem zbwj : zxk.res = [.tmp 4] ∧ zxk.rets = [[]] ∧ zxk.body = (.seq (.reg zw6) (.seq (.seq (.reg zw7) (.cond (.t 10) (.seq (.reg zw8) .ret) .skip)) zxi)) := ⟨rfl, rfl, rfl⟩
def zbwk := rg zxl.eq_1 <| rg zxm.eq_1 <| rg zxn.eq_1 <| rg zxo.eq_1 <| @ex_of T _ _ zxp.eq_1
def zbwl := @vd T F.zmq zxr [0] zbqb rfl rfl
theorem zbwm : zxr.res = [.tmp 2] ∧ zxr.rets = [[2]] ∧ zxr.body = (.seq (.reg zxl) zxp) := ⟨rfl, rfl, rfl⟩
def zbwn := rg zxs.eq_1 <| rg zxt.eq_1 <| rg zxu.eq_1 <| rg zxv.eq_1 <| rg zxw.eq_1 <| rg zxx.eq_1 <| rg zxy.eq_1 <| rg zxz.eq_1 <| rg zx0.eq_1 <| xg zx1.eq_1 <| xg zx2.eq_1 <| rg zx3.eq_1 <| @ex_of T _ _ zx4.eq_1
def zbwo := @vd T F.zmv zx6 [0, 0] zbqc rfl rfl
theorem zbwp : zx6.res = [.tmp 4] ∧ zx6.rets = [[]] ∧ zx6.body = (.seq (.reg zxs) (.seq (.seq (.reg zxt) (.cond (.t 10) (.seq (.reg zxu) .ret) .skip)) zx4)) := ⟨rfl, rfl, rfl⟩
def zbwq := rg zx7.eq_1 <| rg zx8.eq_1 <| rg zx9.eq_1 <| rg zya.eq_1 <| rg zyb.eq_1 <| rg zyc.eq_1 <| rg zyd.eq_1 <| rg zye.eq_1 <| rg zyf.eq_1 <| And.intro (@df_of T _ _ [(5, 3), (8, 3), (9, 3)] zyf.eq_1) <| rg zyg.eq_1 <| rg zyh.eq_1 <| rg zyi.eq_1 <| xg zyj.eq_1 <| rg zyk.eq_1 <| xg zyl.eq_1 <| xg zym.eq_1 <| rg zyn.eq_1 <| xg zyo.eq_1 <| @ex_of T _ _ zyp.eq_1
def zbwr := @vd T F.znd zyr [0] zbqd rfl rfl
theorem zbws : zyr.res = [.tmp 2, .tmp 3] ∧ zyr.rets = [[2], []] ∧ zyr.body = (.seq (.reg zx7) zyp) := ⟨rfl, rfl, rfl⟩
def zbwt := rg z0y.eq_1 <| rg z0z.eq_1 <| @ru_of T _ _ z00.eq_1
def zbwu := @vd T F.zn8 z02 [0] zbqp rfl rfl
theorem zbwv : z02.res = [.cell 2 3 true, .tmp 3] ∧ z02.rets = [[], []] ∧ z02.body = (.seq (.reg z0y) (.seq (.reg z0z) (.seq (.reg z00) .ret))) := ⟨rfl, rfl, rfl⟩
def zbww := rg z03.eq_1 <| rg z04.eq_1 <| rg z05.eq_1 <| rg z06.eq_1 <| rg z07.eq_1 <| rg z08.eq_1 <| rg z09.eq_1 <| xg z1a.eq_1 <| rg z1b.eq_1 <| rg z1c.eq_1 <| rg z1d.eq_1 <| rg z1e.eq_1 <| rg z1f.eq_1 <| rg z1g.eq_1 <| rg z1h.eq_1 <| rg z1i.eq_1 <| rg z1j.eq_1 <| And.intro (@dr_of T _ _ [(4, 1)] z1j.eq_1 (by decide)) <| rg z1k.eq_1 <| xg z1l.eq_1 <| rg z1m.eq_1 <| rg z1n.eq_1 <| rg z1o.eq_1 <| rg z1p.eq_1 <| rg z1q.eq_1 <| rg z1r.eq_1 <| rg z1s.eq_1 <| xg z1t.eq_1 <| xg z1u.eq_1 <| xg z1v.eq_1 <| xg z1w.eq_1 <| @ex_of T _ _ z1x.eq_1
def zbwx := @vd T F.zol z1z [0] zbqq rfl rfl
theorem zbwy : z1z.res = [.cell 2 6 true, .tmp 3] ∧ z1z.rets = [[], []] ∧ z1z.body = (.seq (.reg z03) (.seq (.reg z04) z1x)) := ⟨rfl, rfl, rfl⟩
def zbwz := rg z23.eq_1 <| rg z24.eq_1 <| rg z25.eq_1 <| rg z26.eq_1 <| rg z27.eq_1 <| rg z28.eq_1 <| rg z29.eq_1 <| rg z3a.eq_1 <| xg z3b.eq_1 <| @ex_of T _ _ z3c.eq_1
def zbw0 := @vd T F.zk5 z3e [2, 0, 0] zbqw rfl rfl
theorem zbw1 : z3e.res = [.tmp 6] ∧ z3e.rets = [[2]] ∧ z3e.body = (.seq (.reg z23) z3c) := ⟨rfl, rfl, rfl⟩
def zbw2 := rg z3f.eq_1 <| rg z3g.eq_1 <| rg z3h.eq_1 <| rg z3i.eq_1 <| rg z3j.eq_1 <| @ex_of T _ _ z3k.eq_1
def zbw3 := @vd T F.zk9 z3m [0, 0] zbqx rfl rfl
theorem zbw4 : z3m.res = [.tmp 4] ∧ z3m.rets = [[]] ∧ z3m.body = (.seq (.reg z3f) z3k) := ⟨rfl, rfl, rfl⟩
def zbw5 := rg z3n.eq_1 <| rg z3o.eq_1 <| rg z3p.eq_1 <| rg z3q.eq_1 <| xg z3r.eq_1 <| rg z3s.eq_1 <| @ex_of T _ _ z3t.eq_1
def zbw6 := @vd T F.zk8 z3v [0, 0] zbqy rfl rfl
theorem zbw7 : z3v.res = [.tmp 4, .tmp 5] ∧ z3v.rets = [[], []] ∧ z3v.body = (.seq (.reg z3n) z3t) := ⟨rfl, rfl, rfl⟩
def zbw8 := rg z3w.eq_1 <| rg z3x.eq_1 <| rg z3y.eq_1 <| rg z3z.eq_1 <| rg z30.eq_1 <| rg z31.eq_1 <| rg z32.eq_1 <| rg z33.eq_1 <| xg z34.eq_1 <| rg z35.eq_1 <| @ex_of T _ _ z36.eq_1
def zbw9 := @vd T F.zlb z38 [0, 0, 0] zbqz rfl rfl
theorem zbxa : z38.res = [.tmp 6, .tmp 7] ∧ z38.rets = [[], []] ∧ z38.body = (.seq (.reg z3w) z36) := ⟨rfl, rfl, rfl⟩
def zbxb := rg z39.eq_1 <| rg z4a.eq_1 <| rg z4b.eq_1 <| rg z4c.eq_1 <| rg z4d.eq_1 <| And.intro (@dr_of T _ _ [(5, 3)] z4d.eq_1 (by decide)) <| rg z4e.eq_1 <| rg z4f.eq_1 <| rg z4g.eq_1 <| rg z4h.eq_1 <| xg z4i.eq_1 <| rg z4j.eq_1 <| rg z4k.eq_1 <| rg z4l.eq_1 <| rg z4m.eq_1 <| rg z4n.eq_1 <| xg z4o.eq_1 <| xg z4p.eq_1 <| @ex_of T _ _ z4q.eq_1
def zbxc := @vd T F.zld z4s [0, 0] zbq0 rfl rfl
theorem zbxd : z4s.res = [.cell 4 4 true, .tmp 5] ∧ z4s.rets = [[], []] ∧ z4s.body = (.seq (.reg z39) z4q) := ⟨rfl, rfl, rfl⟩
def zbxe := rg z4t.eq_1 <| rg z4u.eq_1 <| rg z4v.eq_1 <| rg z4w.eq_1 <| rg z4x.eq_1 <| rg z4y.eq_1 <| rg z4z.eq_1 <| xg z40.eq_1 <| xg z41.eq_1 <| rg z42.eq_1 <| @ex_of T _ _ z43.eq_1
def zbxf := @vi T F.zpk z45 zbq1 rfl
theorem zbxg {n : Nat} {H : Hp} {vs : List V} : (orc T (n + 1)).inl F.zpk vs H = finI H.length false [.tmp 4] (unw T (orc T n) n H.length [] (exec T (orc T n) n H.length (.seq (.reg z4t) z43) (params 0 vs) H)) := by rw [zh9, zbq1, y4, zh7 z45 rfl]; rfl
def zbxh := rg z46.eq_1 <| rg z47.eq_1 <| rg z48.eq_1 <| rg z49.eq_1 <| rg z5a.eq_1 <| rg z5b.eq_1 <| @ex_of T _ _ z5c.eq_1
def zbxi := @vi T F.zpl z5e zbq2 rfl
theorem zbxj {n : Nat} {H : Hp} {vs : List V} : (orc T (n + 1)).inl F.zpl vs H = finI H.length false [.tmp 4] (unw T (orc T n) n H.length [] (exec T (orc T n) n H.length (.seq (.reg z46) (.seq (.seq (.reg z47) (.cond (.t 6) .fail .skip)) z5c)) (params 0 vs) H)) := by rw [zh9, zbq2, y4, zh7 z5e rfl]; rfl
def zbxk := rg z5f.eq_1 <| @ru_of T _ _ z5g.eq_1
def zbxl := @vd T F.zl9 z5i [0] zbq3 rfl rfl
theorem zbxm : z5i.res = [.tmp 2] ∧ z5i.rets = [[2]] ∧ z5i.body = (.seq (.reg z5f) (.seq (.reg z5g) .ret)) := ⟨rfl, rfl, rfl⟩
def zbxn := rg z5j.eq_1 <| rg z5k.eq_1 <| rg z5l.eq_1 <| rg z5m.eq_1 <| rg z5n.eq_1 <| rg z5o.eq_1 <| rg z5p.eq_1 <| rg z5q.eq_1 <| xg z5r.eq_1 <| xg z5s.eq_1 <| rg z5t.eq_1 <| @ex_of T _ _ z5u.eq_1
def zbxo := @vd T F.zl5 z5w [0, 0] zbq4 rfl rfl
theorem zbxp : z5w.res = [.tmp 4] ∧ z5w.rets = [[]] ∧ z5w.body = (.seq (.reg z5j) (.seq (.reg z5k) (.seq (.reg z5l) z5u))) := ⟨rfl, rfl, rfl⟩
def zbxq := rg z5x.eq_1 <| @ru_of T _ _ z5y.eq_1
def zbxr := @vd T F.zl6 z50 [0] zbq5 rfl rfl
theorem zbxs : z50.res = [.tmp 2] ∧ z50.rets = [[]] ∧ z50.body = (.seq (.reg z5x) (.seq (.reg z5y) .ret)) := ⟨rfl, rfl, rfl⟩
def zbxt := rg z51.eq_1 <| @ru_of T _ _ z52.eq_1
def zbxu := @vi T F.zpm z54 zbq6 rfl
theorem zbxv {n : Nat} {H : Hp} {vs : List V} : (orc T (n + 1)).inl F.zpm vs H = finI H.length false [.tmp 4] (unw T (orc T n) n H.length [] (exec T (orc T n) n H.length (.seq (.reg z51) (.seq (.reg z52) .ret)) (params 0 vs) H)) := by rw [zh9, zbq6, y4, zh7 z54 rfl]; rfl
def zbxw := rg z55.eq_1 <| @ru_of T _ _ z56.eq_1
def zbxx := @vd T F.zmh z58 [0] zbq7 rfl rfl
theorem zbxy : z58.res = [.tmp 2] ∧ z58.rets = [[]] ∧ z58.body = (.seq (.reg z55) (.seq (.reg z56) .ret)) := ⟨rfl, rfl, rfl⟩
def zbxz := rg z59.eq_1 <| rg z6a.eq_1 <| rg z6b.eq_1 <| rg z6c.eq_1 <| rg z6d.eq_1 <| rg z6e.eq_1 <| rg z6f.eq_1 <| rg z6g.eq_1 <| rg z6h.eq_1 <| rg z6i.eq_1 <| xg z6j.eq_1 <| rg z6k.eq_1 <| rg z6l.eq_1 <| xg z6m.eq_1 <| rg z6n.eq_1 <| xg z6o.eq_1 <| xg z6p.eq_1 <| rg z6q.eq_1 <| @ex_of T _ _ z6r.eq_1
def zbx0 := @vd T F.zmm z6t [0] zbq8 rfl rfl
theorem zbx1 : z6t.res = [.tmp 2, .tmp 3] ∧ z6t.rets = [[], []] ∧ z6t.body = (.seq (.reg z59) (.seq (.reg z6a) z6r)) := ⟨rfl, rfl, rfl⟩
def zbx2 := rg z6u.eq_1 <| rg z6v.eq_1 <| rg z6w.eq_1 <| rg z6x.eq_1 <| rg z6y.eq_1 <| @ex_of T _ _ z6z.eq_1
def zbx3 := @vd T F.zmt z61 [0] zbq9 rfl rfl
theorem zbx4 : z61.res = [.tmp 2, .tmp 3] ∧ z61.rets = [[], []] ∧ z61.body = (.seq (.reg z6u) (.seq (.reg z6v) z6z)) := ⟨rfl, rfl, rfl⟩
def zbx5 := rg z62.eq_1 <| rg z63.eq_1 <| rg z64.eq_1 <| rg z65.eq_1 <| rg z66.eq_1 <| rg z67.eq_1 <| rg z68.eq_1 <| xg z69.eq_1 <| xg z7a.eq_1 <| rg z7b.eq_1 <| @ex_of T _ _ z7c.eq_1
def zbx6 := @vd T F.zna z7e [0] zbra rfl rfl
theorem zbx7 : z7e.res = [.tmp 2] ∧ z7e.rets = [[]] ∧ z7e.body = (.seq (.reg z62) z7c) := ⟨rfl, rfl, rfl⟩
def zbx8 := rg z7f.eq_1 <| rg z7g.eq_1 <| rg z7h.eq_1 <| rg z7i.eq_1 <| And.intro (@df_of T _ _ [(5, 3), (8, 3), (8, 6)] z7i.eq_1) <| @ex_of T _ _ z7j.eq_1
def zbx9 := @vd T F.znb z7l [2, 0] zbrb rfl rfl
theorem zbya : z7l.res = [.tmp 4, .tmp 5] ∧ z7l.rets = [[2], []] ∧ z7l.body = (.seq (.reg z7f) z7j) := ⟨rfl, rfl, rfl⟩
def zbyb := rg z7m.eq_1 <| @ru_of T _ _ z7n.eq_1
def zbyc := @vd T F.zm5 z7p [0] zbrc rfl rfl
theorem zbyd : z7p.res = [.tmp 2] ∧ z7p.rets = [[]] ∧ z7p.body = (.seq (.reg z7m) (.seq (.reg z7n) .ret)) := ⟨rfl, rfl, rfl⟩
def zbye := rg z7q.eq_1 <| rg z7r.eq_1 <| @ru_of T _ _ z7s.eq_1
def zbyf := @vd T F.zns z7u [0] zbrd rfl rfl
theorem zbyg : z7u.res = [.tmp 2] ∧ z7u.rets = [[2]] ∧ z7u.body = (.seq (.reg z7q) (.seq (.reg z7r) (.seq (.reg z7s) .ret))) := ⟨rfl, rfl, rfl⟩
def zbyh := rg z86.eq_1 <| rg z87.eq_1 <| rg z88.eq_1 <| rg z89.eq_1 <| rg z9a.eq_1 <| rg z9b.eq_1 <| rg z9c.eq_1 <| xg z9d.eq_1 <| xg z9e.eq_1 <| rg z9f.eq_1 <| @ex_of T _ _ z9g.eq_1
def zbyi := @vd T F.zni z9i [0, 0] zbro rfl rfl
theorem zbyj : z9i.res = [.tmp 4] ∧ z9i.rets = [[]] ∧ z9i.body = (.seq (.reg z86) z9g) := ⟨rfl, rfl, rfl⟩
def zbyk := rg z9t.eq_1 <| rg z9u.eq_1 <| rg z9v.eq_1 <| rg z9w.eq_1 <| rg z9x.eq_1 <| rg z9y.eq_1 <| rg z9z.eq_1 <| xg z90.eq_1 <| xg z91.eq_1 <| rg z92.eq_1 <| @ex_of T _ _ z93.eq_1
def zbyl := @vd T F.znw z95 [0] zbrq rfl rfl
theorem zbym : z95.res = [.tmp 2] ∧ z95.rets = [[2]] ∧ z95.body = (.seq (.reg z9t) (.seq (.reg z9u) z93)) := ⟨rfl, rfl, rfl⟩
def zbyn := rg z96.eq_1 <| rg z97.eq_1 <| rg z98.eq_1 <| rg z99.eq_1 <| rg zbaa.eq_1 <| rg zbab.eq_1 <| xg zbac.eq_1 <| rg zbad.eq_1 <| rg zbae.eq_1 <| rg zbaf.eq_1 <| rg zbag.eq_1 <| rg zbah.eq_1 <| rg zbai.eq_1 <| rg zbaj.eq_1 <| And.intro (@df_of T _ _ [(4, 1), (5, 1)] zbaj.eq_1) <| rg zbak.eq_1 <| rg zbal.eq_1 <| xg zbam.eq_1 <| xg zban.eq_1 <| @ex_of T _ _ zbao.eq_1
def zbyo := @vd T F.zn7 zbaq [0] zbrr rfl rfl
theorem zbyp : zbaq.res = [.cell 2 3 true, .tmp 3, .tmp 4] ∧ zbaq.rets = [[], [2], []] ∧ zbaq.body = (.seq (.reg z96) (.seq (.reg z97) zbao)) := ⟨rfl, rfl, rfl⟩
def zbyq := rg zbar.eq_1 <| rg zbas.eq_1 <| rg zbat.eq_1 <| rg zbau.eq_1 <| rg zbav.eq_1 <| @ex_of T _ _ zbaw.eq_1
def zbyr := @vd T F.zm4 zbay [0] zbrs rfl rfl
theorem zbys : zbay.res = [.tmp 2, .tmp 3] ∧ zbay.rets = [[2], []] ∧ zbay.body = (.seq (.reg zbar) (.seq (.reg zbas) zbaw)) := ⟨rfl, rfl, rfl⟩
def zbyt := rg zbaz.eq_1 <| rg zba0.eq_1 <| rg zba1.eq_1 <| rg zba2.eq_1 <| rg zba3.eq_1 <| rg zba4.eq_1 <| rg zba5.eq_1 <| rg zba6.eq_1 <| rg zba7.eq_1 <| rg zba8.eq_1 <| rg zba9.eq_1 <| rg zbba.eq_1 <| rg zbbb.eq_1 <| rg zbbc.eq_1 <| rg zbbd.eq_1 <| rg zbbe.eq_1 <| rg zbbf.eq_1 <| xg zbbg.eq_1 <| rg zbbh.eq_1 <| rg zbbi.eq_1 <| xg zbbj.eq_1 <| xg zbbk.eq_1 <| @ex_of T _ _ zbbl.eq_1
def zbyu := @vd T F.zob zbbn [0] zbrt rfl rfl
theorem zbyv : zbbn.res = [.cell 2 3 true, .tmp 3] ∧ zbbn.rets = [[], []] ∧ zbbn.body = (.seq (.reg zbaz) (.seq (.seq (.reg zba0) (.cond (.t 16) (.seq (.reg zba1) .ret) .skip)) zbbl)) := ⟨rfl, rfl, rfl⟩
def zbyw := rg zbbo.eq_1 <| rg zbbp.eq_1 <| rg zbbq.eq_1 <| rg zbbr.eq_1 <| rg zbbs.eq_1 <| rg zbbt.eq_1 <| rg zbbu.eq_1 <| xg zbbv.eq_1 <| xg zbbw.eq_1 <| rg zbbx.eq_1 <| @ex_of T _ _ zbby.eq_1
def zbyx := @vd T F.zod zbb0 [0] zbru rfl rfl
theorem zbyy : zbb0.res = [.tmp 2] ∧ zbb0.rets = [[]] ∧ zbb0.body = (.seq (.reg zbbo) zbby) := ⟨rfl, rfl, rfl⟩
def zbyz := rg zbb1.eq_1 <| rg zbb2.eq_1 <| rg zbb3.eq_1 <| rg zbb4.eq_1 <| rg zbb5.eq_1 <| rg zbb6.eq_1 <| rg zbb7.eq_1 <| rg zbb8.eq_1 <| rg zbb9.eq_1 <| rg zbca.eq_1 <| rg zbcb.eq_1 <| rg zbcc.eq_1 <| rg zbcd.eq_1 <| rg zbce.eq_1 <| rg zbcf.eq_1 <| rg zbcg.eq_1 <| rg zbch.eq_1 <| rg zbci.eq_1 <| And.intro (@df_of T _ _ [(1, 3), (7, 3), (7, 4), (7, 9)] zbci.eq_1) <| xg zbcj.eq_1 <| rg zbck.eq_1 <| xg zbcl.eq_1 <| xg zbcm.eq_1 <| rg zbcn.eq_1 <| rg zbco.eq_1 <| rg zbcp.eq_1 <| rg zbcq.eq_1 <| xg zbcr.eq_1 <| xg zbcs.eq_1 <| xg zbct.eq_1 <| xg zbcu.eq_1 <| @ex_of T _ _ zbcv.eq_1
def zby0 := @vd T F.zok zbcx [0] zbrv rfl rfl
theorem zby1 : zbcx.res = [.cell 2 6 true, .tmp 3] ∧ zbcx.rets = [[], []] ∧ zbcx.body = (.seq (.reg zbb1) (.seq (.reg zbb2) zbcv)) := ⟨rfl, rfl, rfl⟩
def zby2 := @vd T F.zla zbc0 [2, 0, 2] zbrx rfl rfl
theorem zby3 : zbc0.res = [.tmp 6] ∧ zbc0.rets = [[2]] ∧ zbc0.body = .fail := ⟨rfl, rfl, rfl⟩
def zby4 := rg zbc1.eq_1 <| rg zbc2.eq_1 <| rg zbc3.eq_1 <| rg zbc4.eq_1 <| rg zbc5.eq_1 <| rg zbc6.eq_1 <| rg zbc7.eq_1 <| xg zbc8.eq_1 <| xg zbc9.eq_1 <| rg zbda.eq_1 <| @ex_of T _ _ zbdb.eq_1
def zby5 := @vd T F.zl8 zbdd [0, 0] zbry rfl rfl
theorem zby6 : zbdd.res = [.tmp 4] ∧ zbdd.rets = [[2]] ∧ zbdd.body = (.seq (.reg zbc1) (.seq (.reg zbc2) zbdb)) := ⟨rfl, rfl, rfl⟩
def zby7 := rg zbde.eq_1 <| rg zbdf.eq_1 <| rg zbdg.eq_1 <| rg zbdh.eq_1 <| rg zbdi.eq_1 <| rg zbdj.eq_1 <| rg zbdk.eq_1 <| rg zbdl.eq_1 <| rg zbdm.eq_1 <| rg zbdn.eq_1 <| rg zbdo.eq_1 <| xg zbdp.eq_1 <| xg zbdq.eq_1 <| rg zbdr.eq_1 <| xg zbds.eq_1 <| rg zbdt.eq_1 <| xg zbdu.eq_1 <| xg zbdv.eq_1 <| rg zbdw.eq_1 <| @ex_of T _ _ zbdx.eq_1
def zby8 := @vd T F.zl3 zbdz [] zbrz rfl rfl
theorem zby9 : zbdz.res = [.cell 0 256 true] ∧ zbdz.rets = [[]] ∧ zbdz.body = (.seq (.reg zbde) (.seq (.reg zbdf) zbdx)) := ⟨rfl, rfl, rfl⟩
def zbza := rg zbd0.eq_1 <| rg zbd1.eq_1 <| rg zbd2.eq_1 <| rg zbd3.eq_1 <| rg zbd4.eq_1 <| rg zbd5.eq_1 <| rg zbd6.eq_1 <| xg zbd7.eq_1 <| xg zbd8.eq_1 <| rg zbd9.eq_1 <| @ex_of T _ _ zbea.eq_1
def zbzb := @vi T F.zpz zbec zbr0 rfl
theorem zbzc {n : Nat} {H : Hp} {vs : List V} : (orc T (n + 1)).inl F.zpz vs H = finI H.length false [.tmp 4] (unw T (orc T n) n H.length [] (exec T (orc T n) n H.length (.seq (.reg zbd0) zbea) (params 0 vs) H)) := by rw [zh9, zbr0, y4, zh7 zbec rfl]; rfl
def zbzd := rg zbed.eq_1 <| @ru_of T _ _ zbee.eq_1
def zbze := @vd T F.zms zbeg [0] zbr1 rfl rfl
theorem zbzf : zbeg.res = [.tmp 2] ∧ zbeg.rets = [[]] ∧ zbeg.body = (.seq (.reg zbed) (.seq (.reg zbee) .ret)) := ⟨rfl, rfl, rfl⟩
def zbzg := rg zbez.eq_1 <| rg zbe0.eq_1 <| rg zbe1.eq_1 <| rg zbe2.eq_1 <| rg zbe3.eq_1 <| rg zbe4.eq_1 <| rg zbe5.eq_1 <| rg zbe6.eq_1 <| rg zbe7.eq_1 <| rg zbe8.eq_1 <| xg zbe9.eq_1 <| rg zbfa.eq_1 <| xg zbfb.eq_1 <| xg zbfc.eq_1 <| rg zbfd.eq_1 <| xg zbfe.eq_1 <| @ex_of T _ _ zbff.eq_1
def zbzh := @vi T F.zp3 zbfh zbr4 rfl
theorem zbzi {n : Nat} {H : Hp} {vs : List V} : (orc T (n + 1)).inl F.zp3 vs H = finI H.length false [.tmp 4, .tmp 5] (unw T (orc T n) n H.length [] (exec T (orc T n) n H.length (.seq (.reg zbez) zbff) (params 0 vs) H)) := by rw [zh9, zbr4, y4, zh7 zbfh rfl]; rfl
def zbzj := rg zbfi.eq_1 <| rg zbfj.eq_1 <| rg zbfk.eq_1 <| rg zbfl.eq_1 <| rg zbfm.eq_1 <| rg zbfn.eq_1 <| rg zbfo.eq_1 <| xg zbfp.eq_1 <| xg zbfq.eq_1 <| rg zbfr.eq_1 <| @ex_of T _ _ zbfs.eq_1
def zbzk := @vd T F.znu zbfu [0] zbr5 rfl rfl
theorem zbzl : zbfu.res = [.tmp 2] ∧ zbfu.rets = [[2]] ∧ zbfu.body = (.seq (.reg zbfi) (.seq (.reg zbfj) zbfs)) := ⟨rfl, rfl, rfl⟩
def zbzm := rg zbfv.eq_1 <| @ru_of T _ _ zbfw.eq_1
def zbzn := @vd T F.zne zbfy [0, 0] zbr6 rfl rfl
theorem zbzo : zbfy.res = [.tmp 4] ∧ zbfy.rets = [[]] ∧ zbfy.body = (.seq (.reg zbfv) (.seq (.reg zbfw) .ret)) := ⟨rfl, rfl, rfl⟩
def zbzp := rg zbfz.eq_1 <| rg zbf0.eq_1 <| rg zbf1.eq_1 <| rg zbf2.eq_1 <| rg zbf3.eq_1 <| rg zbf4.eq_1 <| rg zbf5.eq_1 <| xg zbf6.eq_1 <| xg zbf7.eq_1 <| @ru_of T _ _ zbf8.eq_1
def zbzq := @vd T F.zm3 zbga [0] zbr7 rfl rfl
theorem zbzr : zbga.res = [.tmp 2, .tmp 3, .tmp 4] ∧ zbga.rets = [[2], [], []] ∧ zbga.body = (.seq (.reg zbfz) (.seq (.blk 0 (.loop [0, 2, 3] zbf7)) (.seq (.reg zbf8) .ret))) := ⟨rfl, rfl, rfl⟩
def zbzs := rg zbgb.eq_1 <| rg zbgc.eq_1 <| rg zbgd.eq_1 <| rg zbge.eq_1 <| rg zbgf.eq_1 <| rg zbgg.eq_1 <| rg zbgh.eq_1 <| xg zbgi.eq_1 <| xg zbgj.eq_1 <| rg zbgk.eq_1 <| @ex_of T _ _ zbgl.eq_1
def zbzt := @vd T F.zoa zbgn [0] zbr8 rfl rfl
theorem zbzu : zbgn.res = [.tmp 2] ∧ zbgn.rets = [[]] ∧ zbgn.body = (.seq (.reg zbgb) (.seq (.reg zbgc) zbgl)) := ⟨rfl, rfl, rfl⟩
def zbzv := rg zbgo.eq_1 <| rg zbgp.eq_1 <| rg zbgq.eq_1 <| rg zbgr.eq_1 <| rg zbgs.eq_1 <| rg zbgt.eq_1 <| rg zbgu.eq_1 <| rg zbgv.eq_1 <| rg zbgw.eq_1 <| rg zbgx.eq_1 <| rg zbgy.eq_1 <| And.intro (@df_of T _ _ [(1, 3), (1, 4)] zbgy.eq_1) <| rg zbgz.eq_1 <| xg zbg0.eq_1 <| xg zbg1.eq_1 <| rg zbg2.eq_1 <| rg zbg3.eq_1 <| rg zbg4.eq_1 <| rg zbg5.eq_1 <| xg zbg6.eq_1 <| rg zbg7.eq_1 <| xg zbg8.eq_1 <| xg zbg9.eq_1 <| @ex_of T _ _ zbha.eq_1
def zbzw := @vd T F.zog zbhc [0] zbr9 rfl rfl
theorem zbzx : zbhc.res = [.cell 2 4 true, .tmp 3] ∧ zbhc.rets = [[], []] ∧ zbhc.body = (.seq (.reg zbgo) zbha) := ⟨rfl, rfl, rfl⟩
def zbzy := rg zbhd.eq_1 <| rg zbhe.eq_1 <| rg zbhf.eq_1 <| rg zbhg.eq_1 <| rg zbhh.eq_1 <| rg zbhi.eq_1 <| rg zbhj.eq_1 <| rg zbhk.eq_1 <| rg zbhl.eq_1 <| rg zbhm.eq_1 <| xg zbhn.eq_1 <| @ex_of T _ _ zbho.eq_1
def zbzz := @vd T F.zoh zbhq [0] zbsa rfl rfl
theorem zbz0 : zbhq.res = [.cell 2 3 true, .tmp 3] ∧ zbhq.rets = [[], []] ∧ zbhq.body = (.seq (.reg zbhd) (.seq (.reg zbhe) (.seq (.reg zbhf) zbho))) := ⟨rfl, rfl, rfl⟩
def zbz1 := rg zbhr.eq_1 <| rg zbhs.eq_1 <| rg zbht.eq_1 <| rg zbhu.eq_1 <| rg zbhv.eq_1 <| rg zbhw.eq_1 <| rg zbhx.eq_1 <| rg zbhy.eq_1 <| rg zbhz.eq_1 <| rg zbh0.eq_1 <| rg zbh1.eq_1 <| rg zbh2.eq_1 <| rg zbh3.eq_1 <| rg zbh4.eq_1 <| rg zbh5.eq_1 <| rg zbh6.eq_1 <| rg zbh7.eq_1 <| rg zbh8.eq_1 <| And.intro (@df_of T _ _ [(6, 2), (6, 3)] zbh8.eq_1) <| xg zbh9.eq_1 <| xg zbia.eq_1 <| rg zbib.eq_1 <| xg zbic.eq_1 <| xg zbid.eq_1 <| rg zbie.eq_1 <| rg zbif.eq_1 <| rg zbig.eq_1 <| rg zbih.eq_1 <| xg zbii.eq_1 <| xg zbij.eq_1 <| @ex_of T _ _ zbik.eq_1
def zbz2 := @vd T F.zng zbim [0] zbsb rfl rfl
theorem zbz3 : zbim.res = [.tmp 2, .tmp 3] ∧ zbim.rets = [[8], []] ∧ zbim.body = (.seq (.reg zbhr) (.seq (.reg zbhs) (.seq (.reg zbht) zbik))) := ⟨rfl, rfl, rfl⟩
def zbz4 := rg zbin.eq_1 <| rg zbio.eq_1 <| rg zbip.eq_1 <| rg zbiq.eq_1 <| rg zbir.eq_1 <| rg zbis.eq_1 <| rg zbit.eq_1 <| rg zbiu.eq_1 <| rg zbiv.eq_1 <| rg zbiw.eq_1 <| rg zbix.eq_1 <| rg zbiy.eq_1 <| rg zbiz.eq_1 <| xg zbi0.eq_1 <| rg zbi1.eq_1 <| xg zbi2.eq_1 <| xg zbi3.eq_1 <| rg zbi4.eq_1 <| rg zbi5.eq_1 <| rg zbi6.eq_1 <| rg zbi7.eq_1 <| rg zbi8.eq_1 <| rg zbi9.eq_1 <| xg zbja.eq_1 <| rg zbjb.eq_1 <| And.intro (@df_of T _ _ [(6, 12), (8, 12)] zbjb.eq_1) <| rg zbjc.eq_1 <| xg zbjd.eq_1 <| xg zbje.eq_1 <| @ex_of T _ _ zbjf.eq_1
def zbz5 := @vi T F.zp4 zbjh zbsc rfl
theorem zbz6 {n : Nat} {H : Hp} {vs : List V} : (orc T (n + 1)).inl F.zp4 vs H = finI H.length false [.tmp 4] (unw T (orc T n) n H.length [] (exec T (orc T n) n H.length (.seq (.reg zbin) zbjf) (params 0 vs) H)) := by rw [zh9, zbsc, y4, zh7 zbjh rfl]; rfl
def zbz7 := rg zbji.eq_1 <| rg zbjj.eq_1 <| rg zbjk.eq_1 <| rg zbjl.eq_1 <| rg zbjm.eq_1 <| rg zbjn.eq_1 <| rg zbjo.eq_1 <| rg zbjp.eq_1 <| rg zbjq.eq_1 <| rg zbjr.eq_1 <| rg zbjs.eq_1 <| rg zbjt.eq_1 <| xg zbju.eq_1 <| rg zbjv.eq_1 <| rg zbjw.eq_1 <| xg zbjx.eq_1 <| @ex_of T _ _ zbjy.eq_1
def zbz8 := @vi T F.zp5 zbj0 zbsd rfl
theorem zbz9 {n : Nat} {H : Hp} {vs : List V} : (orc T (n + 1)).inl F.zp5 vs H = finI H.length false [.tmp 4] (unw T (orc T n) n H.length [] (exec T (orc T n) n H.length (.seq (.reg zbji) (.seq (.reg zbjj) (.seq (.reg zbjk) zbjy))) (params 0 vs) H)) := by rw [zh9, zbsd, y4, zh7 zbj0 rfl]; rfl
def zb0a := rg zbj1.eq_1 <| rg zbj2.eq_1 <| rg zbj3.eq_1 <| @ru_of T _ _ zbj4.eq_1
def zb0b := @vi T F.zp6 zbj6 zbse rfl
theorem zb0c {n : Nat} {H : Hp} {vs : List V} : (orc T (n + 1)).inl F.zp6 vs H = finI H.length false [.tmp 2, .tmp 3, .tmp 4] (unw T (orc T n) n H.length [] (exec T (orc T n) n H.length (.seq (.reg zbj1) (.seq (.reg zbj2) (.seq (.reg zbj3) (.seq (.reg zbj4) .ret)))) (params 0 vs) H)) := by rw [zh9, zbse, y4, zh7 zbj6 rfl]; rfl
def zb0d := rg zbj7.eq_1 <| rg zbj8.eq_1 <| rg zbj9.eq_1 <| rg zbka.eq_1 <| rg zbkb.eq_1 <| rg zbkc.eq_1 <| rg zbkd.eq_1 <| rg zbke.eq_1 <| rg zbkf.eq_1 <| rg zbkg.eq_1 <| rg zbkh.eq_1 <| rg zbki.eq_1 <| rg zbkj.eq_1 <| rg zbkk.eq_1 <| rg zbkl.eq_1 <| xg zbkm.eq_1 <| rg zbkn.eq_1 <| xg zbko.eq_1 <| xg zbkp.eq_1 <| rg zbkq.eq_1 <| xg zbkr.eq_1 <| xg zbks.eq_1 <| @ex_of T _ _ zbkt.eq_1
def zb0e := @vd T F.zm8 zbkv [0] zbsf rfl rfl
theorem zb0f : zbkv.res = [.cell 2 7 true, .tmp 3] ∧ zbkv.rets = [[], []] ∧ zbkv.body = (.seq (.reg zbj7) zbkt) := ⟨rfl, rfl, rfl⟩
def zb0g := rg zbkw.eq_1 <| rg zbkx.eq_1 <| rg zbky.eq_1 <| rg zbkz.eq_1 <| rg zbk0.eq_1 <| @ex_of T _ _ zbk1.eq_1
def zb0h := @vd T F.znj zbk3 [0] zbsg rfl rfl
theorem zb0i : zbk3.res = [.tmp 2] ∧ zbk3.rets = [[2]] ∧ zbk3.body = (.seq (.reg zbkw) (.seq (.reg zbkx) zbk1)) := ⟨rfl, rfl, rfl⟩
def zb0j := rg zbk4.eq_1 <| rg zbk5.eq_1 <| rg zbk6.eq_1 <| rg zbk7.eq_1 <| rg zbk8.eq_1 <| rg zbk9.eq_1 <| rg zbla.eq_1 <| rg zblb.eq_1 <| rg zblc.eq_1 <| rg zbld.eq_1 <| And.intro (@df_of T _ _ [(8, 2), (8, 3)] zbld.eq_1) <| xg zble.eq_1 <| xg zblf.eq_1 <| xg zblg.eq_1 <| rg zblh.eq_1 <| @ex_of T _ _ zbli.eq_1
def zb0k := @vd T F.znr zblk [0, 0] zbsh rfl rfl
theorem zb0l : zblk.res = [.tmp 4, .tmp 5] ∧ zblk.rets = [[8], []] ∧ zblk.body = (.seq (.reg zbk4) zbli) := ⟨rfl, rfl, rfl⟩
def zb0m := rg zbll.eq_1 <| rg zblm.eq_1 <| rg zbln.eq_1 <| rg zblo.eq_1 <| rg zblp.eq_1 <| @ex_of T _ _ zblq.eq_1
def zb0n := @vi T F.zp7 zbls zbsi rfl
theorem zb0o {n : Nat} {H : Hp} {vs : List V} : (orc T (n + 1)).inl F.zp7 vs H = finI H.length false [.tmp 4] (unw T (orc T n) n H.length [] (exec T (orc T n) n H.length (.seq (.reg zbll) zblq) (params 0 vs) H)) := by rw [zh9, zbsi, y4, zh7 zbls rfl]; rfl
def zb0p := rg zblt.eq_1 <| @ru_of T _ _ zblu.eq_1
def zb0q := @vi T F.zp8 zblw zbsj rfl
theorem zb0r {n : Nat} {H : Hp} {vs : List V} : (orc T (n + 1)).inl F.zp8 vs H = finI H.length false [.tmp 1] (unw T (orc T n) n H.length [] (exec T (orc T n) n H.length (.seq (.reg zblt) (.seq (.reg zblu) .ret)) (params 0 vs) H)) := by rw [zh9, zbsj, y4, zh7 zblw rfl]; rfl
def zb0s := rg zblx.eq_1 <| @ru_of T _ _ zbly.eq_1
def zb0t := @vi T F.zp9 zbl0 zbsk rfl
theorem zb0u {n : Nat} {H : Hp} {vs : List V} : (orc T (n + 1)).inl F.zp9 vs H = finI H.length false [.tmp 1] (unw T (orc T n) n H.length [] (exec T (orc T n) n H.length (.seq (.reg zblx) (.seq (.reg zbly) .ret)) (params 0 vs) H)) := by rw [zh9, zbsk, y4, zh7 zbl0 rfl]; rfl
def zb0v := rg zbl1.eq_1 <| rg zbl2.eq_1 <| rg zbl3.eq_1 <| rg zbl4.eq_1 <| rg zbl5.eq_1 <| rg zbl6.eq_1 <| rg zbl7.eq_1 <| rg zbl8.eq_1 <| rg zbl9.eq_1 <| And.intro (@df_of T _ _ [(0, 4), (2, 4), (2, 6)] zbl9.eq_1) <| xg zbma.eq_1 <| @ex_of T _ _ zbmb.eq_1
def zb0w := @vd T F.zm6 zbmd [0] zbsl rfl rfl
theorem zb0x : zbmd.res = [.cell 2 3 true, .tmp 3] ∧ zbmd.rets = [[], []] ∧ zbmd.body = (.seq (.reg zbl1) (.seq (.reg zbl2) zbmb)) := ⟨rfl, rfl, rfl⟩
def zb0y := rg zbme.eq_1 <| rg zbmf.eq_1 <| rg zbmg.eq_1 <| rg zbmh.eq_1 <| rg zbmi.eq_1 <| rg zbmj.eq_1 <| rg zbmk.eq_1 <| rg zbml.eq_1 <| xg zbmm.eq_1 <| rg zbmn.eq_1 <| rg zbmo.eq_1 <| rg zbmp.eq_1 <| rg zbmq.eq_1 <| xg zbmr.eq_1 <| @ex_of T _ _ zbms.eq_1
def zb0z := @vd T F.znp zbmu [0] zbsm rfl rfl
theorem zb00 : zbmu.res = [.cell 2 7 true, .tmp 3] ∧ zbmu.rets = [[], []] ∧ zbmu.body = (.seq (.reg zbme) (.seq (.seq (.reg zbmf) (.cond (.t 10) (.seq (.reg zbmg) .ret) .skip)) zbms)) := ⟨rfl, rfl, rfl⟩
def zb01 := rg zbmv.eq_1 <| rg zbmw.eq_1 <| rg zbmx.eq_1 <| rg zbmy.eq_1 <| rg zbmz.eq_1 <| rg zbm0.eq_1 <| rg zbm1.eq_1 <| rg zbm2.eq_1 <| rg zbm3.eq_1 <| rg zbm4.eq_1 <| rg zbm5.eq_1 <| rg zbm6.eq_1 <| rg zbm7.eq_1 <| rg zbm8.eq_1 <| rg zbm9.eq_1 <| rg zbna.eq_1 <| xg zbnb.eq_1 <| rg zbnc.eq_1 <| rg zbnd.eq_1 <| rg zbne.eq_1 <| xg zbnf.eq_1 <| xg zbng.eq_1 <| xg zbnh.eq_1 <| xg zbni.eq_1 <| rg zbnj.eq_1 <| rg zbnk.eq_1 <| rg zbnl.eq_1 <| rg zbnm.eq_1 <| xg zbnn.eq_1 <| rg zbno.eq_1 <| @ex_of T _ _ zbnp.eq_1
def zb02 := @vd T F.zno zbnr [0, 0] zbsn rfl rfl
theorem zb03 : zbnr.res = [.cell 4 7 true, .tmp 5] ∧ zbnr.rets = [[], []] ∧ zbnr.body = (.seq (.reg zbmv) (.seq (.reg zbmw) zbnp)) := ⟨rfl, rfl, rfl⟩
def zb04 := rg zbns.eq_1 <| rg zbnt.eq_1 <| rg zbnu.eq_1 <| rg zbnv.eq_1 <| rg zbnw.eq_1 <| rg zbnx.eq_1 <| rg zbny.eq_1 <| xg zbnz.eq_1 <| xg zbn0.eq_1 <| rg zbn1.eq_1 <| @ex_of T _ _ zbn2.eq_1
def zb05 := @vd T F.znl zbn4 [0, 0] zbso rfl rfl
theorem zb06 : zbn4.res = [.tmp 4] ∧ zbn4.rets = [[]] ∧ zbn4.body = (.seq (.reg zbns) zbn2) := ⟨rfl, rfl, rfl⟩
def zb07 := rg zbn5.eq_1 <| rg zbn6.eq_1 <| rg zbn7.eq_1 <| rg zbn8.eq_1 <| rg zbn9.eq_1 <| rg zboa.eq_1 <| rg zbob.eq_1 <| rg zboc.eq_1 <| rg zbod.eq_1 <| rg zboe.eq_1 <| rg zbof.eq_1 <| rg zbog.eq_1 <| xg zboh.eq_1 <| xg zboi.eq_1 <| xg zboj.eq_1 <| @ru_of T _ _ zbok.eq_1
def zb08 := @vi T F.zqa zbom zbsp rfl
theorem zb09 {n : Nat} {H : Hp} {vs : List V} : (orc T (n + 1)).inl F.zqa vs H = finI H.length false [.tmp 6] (unw T (orc T n) n H.length [] (exec T (orc T n) n H.length (.seq (.reg zbn5) (.seq (.seq (.reg zbn6) zboj) (.seq (.reg zbok) .ret))) (params 0 vs) H)) := by rw [zh9, zbsp, y4, zh7 zbom rfl]; rfl
def zb1a := rg zbon.eq_1 <| rg zboo.eq_1 <| rg zbop.eq_1 <| rg zboq.eq_1 <| rg zbor.eq_1 <| @ex_of T _ _ zbos.eq_1
def zb1b := @vd T F.znm zbou [0] zbsq rfl rfl
theorem zb1c : zbou.res = [.tmp 2] ∧ zbou.rets = [[]] ∧ zbou.body = (.seq (.reg zbon) (.seq (.reg zboo) zbos)) := ⟨rfl, rfl, rfl⟩
end Go.Dvm.C
