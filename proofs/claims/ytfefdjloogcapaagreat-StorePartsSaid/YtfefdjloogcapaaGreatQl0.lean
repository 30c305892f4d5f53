/- The table of the functions, and what calls of them come to: part 1. -/
import Derived.Test.YtfefdjloogcapaaGreatQc0
set_option linter.all false
set_option maxRecDepth 100000
set_option maxHeartbeats 4000000
namespace Go.Dvm.C
open Go Go.Dvm
def ke:=ai @Ow.enc.eq_1<| ai @Sl.enc.eq_1<| ai @I.zlf.enc.eq_1<| ai @I.zld.enc.eq_1<| ai @I.zle.enc.eq_1<| ai @I.zlg.enc.eq_1<| ai @I.zli.enc.eq_1<| ai @I.zlh.enc.eq_1<| ai @arrEnc.eq_1<| ai @I.zlj.enc.eq_1<| ai @I.zlk.enc.eq_1<| ai @I.zll.enc.eq_1<| ai @I.zlm.enc.eq_1<| ai @I.zln.enc.eq_1<| ai @I.zlo.enc.eq_1<| @I.zlp.enc.eq_1
def kf:=ai @ke @kn
def tab:List (Nat×MFun):=[(3,fD 2 ((sr [mc 4 (.bool false)] (sr [ma 21 12 [],mt 5 21] zoo))) [.tmp 4] [0,0] [[]]),
 (12,fD 0 ((sr [mc 0 (.bool false)] (sr [ma 7 14 [(ci 10000)],mt 1 7] zos))) [.tmp 0] [] [[]]),
 (13,fD 1 ((sr [mc 2 (.bool false)] zov)) [.tmp 2] [0] [[]]),
 (14,⟨1, .fail,[.tmp 2],true,[0],[],false,none,some pNew⟩),
 (15,fI 2 ((sr [mc 4 .nilp,mz 5 0] (.seq (.blk 0 (sr [mt 8 1,mk 9 .lss 8 0,mt 10 9,gt 11 1 10 false,gk 12 .geq 11 6 10 false,pt 13 10 12,mt 7 13] zow)) zoy))) [.tmp 4, .tmp 5] [0,0]),
 (16,fD 2 ((sr [mo 3 (.box (.t 1)),mc 4 (.sl true [])] (sr [mo 5 (.nil 7)] (.seq (sr [mz 6 0] (bl 0 [0,3,5,6] zo0)) (sr [mt 30 5,mt 4 30] .ret))))) [.tmp 4] [0,0] [[8]]),
 (17,fI 1 ((sr [mz 2 0] (.seq (.dreg [mt 3 0,mq 4 3,mf 5 4 5,ml 6 5,mt 7 0,mq 8 7,mf 9 8 4,ml 10 9,mh 11 10,mb 12 .add 6 11,mt 2 12] []) .ret))) [.tmp 2] [0]),
 (18,fI 2 ((sr [mz 4 0] (sr [mt 12 1,ma 13 50 [.t 12],mt 11 13,me 14 11 0,me 15 11 1,mt 5 14,mt 6 15] zpb))) [.tmp 4] [0,0]),
 (19,fI 1 ((sr [mz 2 0] (sr [mt 4 0,ma 5 45 [.t 4],mt 3 5] zpc))) [.tmp 2] [0]),
 (20,fI 3 ((sr [mc 6 (.sl true []),mz 7 0] zpf)) [.tmp 6, .tmp 7] [0,0,0]),
 (21,fD 2 ((sr [mc 4 (.bool false)] zpi)) [.tmp 4] [0,0] [[]]),
 (22,fD 2 ((sr [mo 2 (.box (.t 0)),mo 3 (.box (.t 1)),mc 4 (.bool false)] zpj)) [.tmp 4] [0,0] [[]]),
 (23,fI 1 ((sr [mo 2 (.alloc [(.int .i64 0),(.int .i64 0),(.sl true []),(.bool false),(.int .i64 0),(.sl true [])])] (sr [mt 3 0,mq 4 3,mf 5 4 7,mw 6 5 6,ma 7 57 [.t 6],ms 2 7 6] .ret))) [.cell 2 6 true] [0]),
 (26,⟨3, .fail,[.tmp 6],true,[0,0,0],[],false,none,some pApp⟩),
 (34,fD 2 ((sr [mo 2 (.box (.t 0)),mo 4 (.alloc [(.int .i64 0),(.int .i64 0),(.sl true []),(.bool false),(.int .i64 0),(.sl true [])]),mz 5 0] (.seq (sr [mt 8 1,mh 9 8,mz 10 0] (bl 0 [2,4,8,9,10] zpp)) (sr [mw 46 2 6,ms 4 46 6,mz 5 0] .ret)))) [.cell 4 6 true, .tmp 5] [0,0] [[],[]]),
 (35,fD 1 ((sr [mo 2 (.alloc [(.int .i64 0),(.sl true []),(.bool false),(.int .i64 0)])] zps)) [.cell 2 4 true] [0] [[]]),
 (36,fI 1 ((sr [mo 2 (.alloc [(.int .i64 0),(.int .i64 0),(.sl true []),(.bool false),(.int .i64 0),(.sl true [])])] zpt)) [.cell 2 6 true] [0]),
 (37,fI 1 ((sr [mz 2 0] (sr [mt 3 0,mq 4 3,mf 5 4 6,ml 6 5,mt 2 6] .ret))) [.tmp 2] [0]),
 (45,fI 1 ((sr [mz 2 0] zpx)) [.tmp 2] [0]),
 (46,⟨1, .fail,[.tmp 2],true,[0],[],false,none,some pNames⟩),
 (47,⟨1, .fail,[.tmp 2],true,[0],[],false,none,some pOn⟩),
 (48,fI 1 ((sr [mt 15 0,mt 16 0,mq 17 16,mf 18 17 1,ml 19 18,ma 20 35 [.t 19],mo 21 (.bld [(.int .i64 0),(.int .i64 0),(.sl true []),(.bool false),(.int .i64 0),(.sl true [])] [(1,4,(.t 20))]),mo 22 (.bsl 6 [.t 21] 1),mq 23 15,mf 24 23 2,ms 24 22 1] zp3)) [] [0]),
 (49,fI 1 ((sr [mc 2 (.bool false)] (sr [mt 6 0,ma 7 36 [.t 6],mo 8 (.fld (.t 7) 0 1 false),mt 3 8] zp6))) [.tmp 2] [0]),
 (50,fD 1 ((sr [mc 2 (.sl true []),mz 3 0] zqd)) [.tmp 2, .tmp 3] [0] [[2],[]]),
 (51,fD 1 ((sr [mc 2 (.sl true []),mz 3 0] zqf)) [.tmp 2, .tmp 3] [0] [[2],[]]),
 (52,fD 3 ((sr [mc 6 (.sl true []),mz 7 0] (.seq (.blk 0 (sr [mt 9 0,ma 10 100 [.t 9],mo 11 (.un .not (.t 10)),mt 8 11] zqg)) zqh))) [.tmp 6, .tmp 7] [0,0,0] [[2],[]]),
 (53,fI 2 ((sr [mz 4 0] zqj)) [.tmp 4] [0,0]),
 (54,fD 1 ((sr [mc 2 (.sl true [])] zqk)) [.tmp 2] [0] [[8]]),
 (55,fD 2 ((sr [mo 2 (.box (.t 0)),mo 3 (.box (.t 1)),mc 4 (.bool false)] zql)) [.tmp 4] [0,0] [[]]),
 (56,fD 2 ((sr [mc 4 (.bool false)] zqo)) [.tmp 4] [0,0] [[]]),
 (57,fD 1 ((sr [mo 1 (.box (.t 0)),mo 2 (.alloc [(.int .i64 0),(.int .i64 0),(.sl true []),(.bool false),(.int .i64 0),(.sl true [])])] (.seq (.dreg zqp [(5,3)]) (sr [mw 13 1 6,ms 2 13 6] .ret)))) [.cell 2 6 true] [0] [[]]),
 (73,⟨2, .fail,[.tmp 4],true,[0,0],[],false,none,some pSync⟩),
 (76,⟨1, .fail,[.tmp 2],true,[0],[],false,none,some pSyncD⟩),
 (79,fD 1 ((sr [mo 1 (.box (.t 0)),mc 2 (.bool false)] (.seq (.reg zqq) .ret))) [.tmp 2] [0] [[]]),
 (80,fD 2 ((sr [mo 2 (.box (.t 0)),mo 3 (.box (.t 1)),mo 4 (.alloc [(.int .i64 0),(.sl true []),(.bool false),(.int .i64 0)]),mz 5 0] zqx)) [.cell 4 4 true, .tmp 5] [0,0] [[],[]]),
 (81,fD 2 ((sr [mo 3 (.box (.t 1)),mc 4 (.sl true [])] (sr [mt 7 0,ma 8 85 [.t 7],mo 9 (.mkfn 129 [.t 3]),ma 10 128 [.t 8, .t 9],mt 5 10] zqz))) [.tmp 4] [0,0] [[4]]),
 (82,fD 1 ((sr [mo 2 (.alloc [(.int .i64 0),(.int .i64 0),(.sl true []),(.bool false),(.int .i64 0),(.sl true [])]),mc 3 (.bool false)] zq0)) [.cell 2 6 true, .tmp 3] [0] [[],[]]),
 (84,fD 1 ((sr [mc 2 (.sl true [])] zq1)) [.tmp 2] [0] [[2]]),
 (85,fD 1 ((sr [mc 2 (.sl true [])] zq2)) [.tmp 2] [0] [[4]]),
 (90,⟨2, .fail,[.tmp 4],true,[0,0],[],false,none,some pFiles⟩),
 (91,fI 2 ((sr [mc 4 (.sl true []),mz 5 0] zq3)) [.tmp 4, .tmp 5] [0,0]),
 (94,fD 1 ((sr [mc 2 (.bool false)] (.seq (sr [mt 5 0,mh 6 5,mz 7 0] (bl 0 [0,5,6,7] zq6)) zq7))) [.tmp 2] [0] [[]]),
 (95,fD 2 ((sr [mc 4 (.sl true [])] zq8)) [.tmp 4] [2,0] [[2]]),
 (96,fD 2 ((sr [mc 4 (.sl true [])] (sr [mt 5 0,mt 6 1,ma 7 152 [.t 6],ma 8 151 [.t 5, .t 7],mt 4 8] .ret))) [.tmp 4] [2,0] [[2]]),
 (97,fD 2 ((sr [mo 3 (.box (.t 1)),mc 4 (.sl true []),mz 5 0] zra)) [.tmp 4, .tmp 5] [2,0] [[2],[]]),
 (98,fD 1 ((sr [mc 2 (.sl true [])] (sr [mz 3 0] (.seq (sr [mt 9 0,mh 10 9,mz 11 0] (bl 0 [0,3,9,10,11] zrc)) zrf)))) [.tmp 2] [0] [[2]]),
 (99,fD 2 ((sr [mc 4 (.sl true [])] (sr [mt 5 0,ma 6 116 [.t 5],mt 7 1,ma 8 154 [.t 6, .t 7],ma 9 115 [.t 8],mt 4 9] .ret))) [.tmp 4] [0,0] [[2]]),
 (100,fD 1 ((sr [mc 2 (.bool false)] (sr [mt 3 0,mk 4 .geq 3 1,mt 5 4,gt 6 0 5 true,gk 7 .leq 6 3 5 true,pf 8 5 7,mt 2 8] .ret))) [.tmp 2] [0] [[]]),
 (101,fD 1 ((sr [mc 2 (.sl true [])] (sr [mt 6 0,ma 7 51 [.t 6],mt 5 7,me 8 5 0,me 9 5 1,mt 3 8,mt 4 9] (sr [mt 10 3,mt 2 10] .ret)))) [.tmp 2] [0] [[2]]),
 (102,fD 1 ((sr [mz 2 0,mc 3 (.bool false)] zrg)) [.tmp 2, .tmp 3] [0] [[],[]]),
 (103,fD 2 ((sr [mc 4 (.bool false)] zrj)) [.tmp 4] [0,0] [[]]),
 (115,fD 1 ((sr [mc 2 (.sl true [])] (sr [mt 3 0,mo 4 (.conv .u64 (.t 3)),ma 5 173 [.t 4,(ci 4)],mt 2 5] .ret))) [.tmp 2] [0] [[2]]),
 (116,fD 1 ((sr [mc 2 (.int .u32 0)] (sr [mt 3 0,ma 4 154 [(.c (.int .u32 0)), .t 3],mt 2 4] .ret))) [.tmp 2] [0] [[]]),
 (117,fI 2 ((sr [mc 4 .nilp,mz 5 0] zrk)) [.tmp 4, .tmp 5] [0,0]),
 (122,fD 1 ((sr [mo 1 (.box (.t 0)),mc 2 (.bool false)] (.seq (.dreg zrl [(10,13),(18,21)]) .ret))) [.tmp 2] [0] [[]]),
 (123,fD 1 ((sr [mo 1 (.box (.t 0)),mc 2 (.bool false)] zrq)) [.tmp 2] [0] [[]]),
 (124,fD 2 ((sr [mo 2 (.box (.t 0)),mo 3 (.box (.t 1)),mo 4 (.alloc [(.int .i64 0),(.sl true []),(.bool false),(.int .i64 0)]),mz 5 0] zru)) [.cell 4 4 true, .tmp 5] [0,0] [[],[]]),
 (125,fD 2 ((sr [mo 2 (.box (.t 0)),mo 3 (.box (.t 1)),mo 4 (.alloc [(.int .i64 0),(.sl true []),(.bool false),(.int .i64 0)]),mz 5 0] zr1)) [.cell 4 4 true, .tmp 5] [0,0] [[],[]]),
 (126,fD 2 ((sr [mo 2 (.box (.t 0)),mo 3 (.box (.t 1)),mo 4 (.alloc [(.int .i64 0),(.sl true []),(.bool false),(.int .i64 0)]),mz 5 0] (.seq (sr [mf 11 3 0,ml 12 11] zr2) zr7))) [.cell 4 4 true, .tmp 5] [0,0] [[],[]]),
 (127,fD 2 ((sr [mo 2 (.box (.t 0)),mo 3 (.box (.t 1)),mo 4 (.alloc [(.int .i64 0),(.sl true []),(.bool false),(.int .i64 0)]),mz 5 0] (.seq (.blk 0 (sr [mf 10 3 0,ml 11 10,mk 12 .eql 11 9,mt 9 12] zsc)) (.seq (.dreg zsd [(7,4)]) zsf)))) [.cell 4 4 true, .tmp 5] [0,0] [[],[]]),
 (128,⟨2,(.seq (.reg [mc 4 (.sl true [])]) (.seq (.reg [mt 8 0,mt 9 1,ma 10 130 [.t 8, .t 9],mt 5 10]) zsk)),[.tmp 4],true,[4,0],[],true,none,none⟩),
 (129,fI 2 ((sr [mo 2 (.box (.t 0)),mc 3 (.bool false)] (sr [mf 4 2 0,ml 5 4,mf 6 1 1,ml 7 6,mb 8 .eql 5 7,mt 3 8] .ret))) [.tmp 3] [0]),
 (130,fI 2 ((sr [mz 4 0] (.seq (sr [mt 6 0,mh 7 6,mz 8 0] (bl 0 [0,1,7,8] zsm)) (sr [mc 4 (.int .i64 (-1))] .ret)))) [.tmp 4] [0,0]),
 (131,fI 2 ((sr [mo 2 (.box (.t 0)),mc 3 (.bool false)] (sr [mf 4 2 0,ml 5 4,mf 6 1 1,ml 7 6,mb 8 .gtr 5 7,mt 3 8] .ret))) [.tmp 3] [0]),
 (132,⟨3, .fail,[.tmp 6],false,[4,0,4],[[4]],false,some (insP 3),none⟩),
 (151,fD 2 ((sr [mc 4 (.sl true [])] zsp)) [.tmp 4] [2,0] [[2]]),
 (152,fD 1 ((sr [mc 2 (.int .u64 0)] zsq)) [.tmp 2] [0] [[]]),
 (153,fI 2 ((sr [mc 4 (.sl true [])] (.seq (sr [mt 5 1,mk 6 .lss 5 0] (cs 6 .fail .skip)) zss))) [.tmp 4] [0,0]),
 (154,fD 2 ((sr [mc 4 (.int .u32 0)] (sr [ma 9 201 [],mo 5 (.alloc (List.replicate 256 (.int .u32 0))),ms 5 9 256] zsv))) [.tmp 4] [0,0] [[]]),
 (173,fD 2 ((sr [mc 4 (.sl true [])] (sr [mo 5 (.nil 1)] (.seq (sr [mt 7 1,mz 8 0] (bl 0 [0,5,7,8] zsx)) (sr [mt 20 5,mt 4 20] .ret))))) [.tmp 4] [0,0] [[2]]),
 (175,fD 1 ((sr [mz 2 0] (sr [mt 3 0,mo 4 (.mm false [.t 3,(ci 1099511627776)]),mo 5 (.mm true [(.c (.int .i64 (-1099511627776))), .t 4]),mt 2 5] .ret))) [.tmp 2] [0] [[]]),
 (176,fI 2 ((sr [mc 4 (.bool false)] (sr [mt 5 0,mt 6 1,ma 7 191 [.t 5, .t 6],mk 8 .geq 7 0,mt 4 8] .ret))) [.tmp 4] [0,0]),
 (177,fD 1 ((sr [mc 2 (.bool false)] (sr [mt 3 0,mt 4 0,ma 5 175 [.t 4],mb 6 .neq 3 5,mt 2 6] .ret))) [.tmp 2] [0] [[]]),
 (178,fD 2 ((sr [mc 4 (.bool false)] (sr [mc 5 (.int .i64 (-1))] (.seq (sr [mz 6 0] (bl 0 [0,1,5,6] zsz)) zs0)))) [.tmp 4] [0,0] [[]]),
 (179,fD 3 ((sr [mc 6 (.sl true [])] (sr [mt 8 0,mt 9 1,mt 10 2,mt 11 0,mh 12 11,mo 13 (.slc (.t 8) (some (.t 9)) (some (.t 10)) (some (.t 12)) 1)] zs3))) [.tmp 6] [2,0,0] [[2]]),
 (180,fD 2 ((sr [mz 4 0] zs4)) [.tmp 4] [0,0] [[]]),
 (181,fD 2 ((sr [mz 4 0,mc 5 (.bool false)] (sr [mz 6 0] (.seq (bl 0 [0,1,6] zs5) zs6)))) [.tmp 4, .tmp 5] [0,0] [[],[]]),
 (182,fD 3 ((sr [mc 6 (.sl true []),mc 7 (.bool false)] zs9)) [.tmp 6, .tmp 7] [0,0,0] [[],[]]),
 (183,fD 2 ((sr [mo 2 (.box (.t 0)),mo 3 (.box (.t 1)),mo 4 (.alloc [(.int .i64 0),(.sl true []),(.bool false),(.int .i64 0)]),mz 5 0] ztg)) [.cell 4 4 true, .tmp 5] [0,0] [[],[]]),
 (191,fI 2 ((sr [mz 4 0] (.seq (sr [mt 6 0,mh 7 6,mz 8 0] (bl 0 [0,1,7,8] zti)) (sr [mc 4 (.int .i64 (-1))] .ret)))) [.tmp 4] [0,0]),
 (201,fD 0 ((sr [mo 0 (.alloc (List.replicate 256 (.int .u32 0)))] zto)) [.cell 0 256 true] [] [[]]),
 (226,⟨3, .fail,[.tmp 6],false,[2,0,2],[[2]],false,some (insP 1),none⟩)]
abbrev T:Nat->Option MFun:=look tab
theorem vD (f:Nat) (md:List Nat) {mf:MFun} (h:T f=some mf:=by rfl) (hi:mf.inline=false:=by rfl) (hm:mf.modes=md:=by rfl) ⦃O:Orc⦄ ⦃H:Hp⦄ ⦃vs:List V⦄ :vcall T O f vs H=(args H md vs).bind fun p=>vk H p.2 md vs (O.deep f p.1):=vd h hi hm
theorem vI (f:Nat) {mf:MFun} (h:T f=some mf:=by rfl) (hi:mf.inline=true:=by rfl) ⦃O:Orc⦄ ⦃H:Hp⦄ ⦃vs:List V⦄ :vcall T O f vs H=ik (O.inl f vs H):=vi h hi
theorem iX (f:Nat) {np:Nat} {b:MC} {res:List MRes} {md:List Nat} {rets:List (List Nat)} {w:Bool} {p:Option (List V->Option (List V))} (h:T f=some ⟨np,b,res,true,md,rets,w,p,none⟩:=by rfl) ⦃n:Nat⦄ ⦃H:Hp⦄ ⦃vs:List V⦄ :(orc T (n+1)).inl f vs H=finI H.length w res (unw T (orc T n) n H.length [] (exec T (orc T n) n H.length b (params 0 vs) H)):=ix h
def ztp:= @df_of T zoc zoc [(4,1),(5,1)] rfl
def ztq:=vD 3 [0,0]
def ztr:=vD 12 []
def zts:=vD 13 [0]
def ztt:=vI 14
theorem ztu {n:Nat} {H:Hp} {vs:List V}:(orc T (n+1)).inl 14 vs H=finG H.length false (pNew vs H):=by rw [zh8,show T 14=some _ from rfl,y4,zh6 _ rfl]<;>rfl
def ztv:=ai ztt (ai @ztu @dk_l)
def ztw:=vI 15
def ztx:=ai ztw (iX 15)
def zty:=vD 16 [0,0]
def ztz:=vI 17
def zt0:=ai ztz (iX 17)
def zt1:=ai (@dr_of T zo1 zo1 [(1,5),(3,5)] rfl (by decide))<| ai (@df_of T zo2 zo2 [(3,5)] rfl)<| @df_of T zo4 zo4 [(4,7),(4,9)] rfl
def zt2:=vI 18
def zt3:=ai zt2 (iX 18)
def zt4:=vI 19
def zt5:=ai zt4 (iX 19)
def zt6:=vI 20
def zt7:=ai zt6 (iX 20)
def zt8:=vD 21 [0,0]
def zt9:=vD 22 [0,0]
def zua:=vI 23
def zub:=ai zua (iX 23)
def zuc:=vI 26
theorem zud {n:Nat} {H:Hp} {vs:List V}:(orc T (n+1)).inl 26 vs H=finG H.length false (pApp vs H):=by rw [zh8,show T 26=some _ from rfl,y4,zh6 _ rfl]<;>rfl
def zue:=ai zuc (ai @zud @dk_l)
def zuf:= @df_of T zpm zpm [(1,6)] rfl
def zug:=vD 34 [0,0]
def zuh:=vD 35 [0]
def zui:=vI 36
def zuj:=ai zui (iX 36)
def zuk:=vI 45
def zul:=ai zuk (iX 45)
def zum:=vI 47
theorem zun {n:Nat} {H:Hp} {vs:List V}:(orc T (n+1)).inl 47 vs H=finG H.length false (pOn vs H):=by rw [zh8,show T 47=some _ from rfl,y4,zh6 _ rfl]<;>rfl
def zuo:=ai zum (ai @zun @dk_l)
def zup:=vI 48
def zuq:=ai zup (iX 48)
def zur:= @df_of T zp4 zp4 [(5,1),(5,17),(10,1),(10,17),(12,1),(12,17)] rfl
def zus:=vI 49
def zut:=ai zus (iX 49)
def zuu:= @df_of T zp7 zp7 [(5,3),(8,3),(9,3)] rfl
def zuv:=vD 50 [0]
def zuw:=vD 51 [0]
def zux:=vD 52 [0,0,0]
def zuy:=vI 53
def zuz:=ai zuy (iX 53)
def zu0:=vD 54 [0]
def zu1:=vD 55 [0,0]
def zu2:=vD 56 [0,0]
def zu3:= @df_of T zqp zqp [(5,3)] rfl
def zu4:=vD 57 [0]
def zu5:=vI 73
theorem zu6 {n:Nat} {H:Hp} {vs:List V}:(orc T (n+1)).inl 73 vs H=finG H.length false (pSync vs H):=by rw [zh8,show T 73=some _ from rfl,y4,zh6 _ rfl]<;>rfl
def zu7:=ai zu5 (ai @zu6 @dk_l)
def zu8:=vI 76
theorem zu9 {n:Nat} {H:Hp} {vs:List V}:(orc T (n+1)).inl 76 vs H=finG H.length false (pSyncD vs H):=by rw [zh8,show T 76=some _ from rfl,y4,zh6 _ rfl]<;>rfl
def zva:=ai zu8 (ai @zu9 @dk_l)
def zvb:=vD 79 [0]
def zvc:=vD 80 [0,0]
def zvd:=vD 81 [0,0]
def zve:=vD 82 [0]
def zvf:=vD 84 [0]
def zvg:=vD 85 [0]
def zvh:=vI 90
theorem zvi {n:Nat} {H:Hp} {vs:List V}:(orc T (n+1)).inl 90 vs H=finG H.length false (pFiles vs H):=by rw [zh8,show T 90=some _ from rfl,y4,zh6 _ rfl]<;>rfl
def zvj:=ai zvh (ai @zvi @dk_l)
def zvk:=vI 91
def zvl:=ai zvk (iX 91)
def zvm:=vD 94 [0]
def zvn:=vD 95 [2,0]
def zvo:=vD 96 [2,0]
def zvp:= @df_of T zq9 zq9 [(5,3),(8,3),(8,6)] rfl
def zvq:=vD 97 [2,0]
def zvr:=vD 98 [0]
def zvs:=vD 99 [0,0]
def zvt:=vD 100 [0]
def zvu:=vD 101 [0]
def zvv:=vD 102 [0]
def zvw:=vD 103 [0,0]
def zvx:=vD 115 [0]
def zvy:=vD 116 [0]
def zvz:=vI 117
def zv0:=ai zvz (iX 117)
def zv1:= @dr_of T zrl zrl [(10,13),(18,21)] rfl (by decide)
def zv2:=vD 122 [0]
def zv3:=vD 123 [0]
def zv4:=vD 124 [0,0]
def zv5:= @df_of T zrv zrv [(4,2)] rfl
def zv6:=vD 125 [0,0]
def zv7:= @dr_of T zr3 zr3 [(1,6),(3,6)] rfl (by decide)
def zv8:=vD 126 [0,0]
def zv9:=ai (@df_of T zr8 zr8 [(0,5)] rfl)<| @dr_of T zsd zsd [(7,4)] rfl (by decide)
def zwa:=vD 127 [0,0]
def zwb:=vI 128
def zwc:=ai zwb (iX 128)
def zwd:=vI 129
def zwe:=ai zwd (iX 129)
def zwf:=vI 130
def zwg:=ai zwf (iX 130)
def zwh:=vI 131
def zwi:=ai zwh (iX 131)
def zwj:=vD 132 [4,0,4]
def zwk:=vD 151 [2,0]
def zwl:=vD 152 [0]
def zwm:=vI 153
def zwn:=ai zwm (iX 153)
def zwo:=vD 154 [0,0]
def zwp:=vD 173 [0,0]
def zwq:=vD 175 [0]
def zwr:=vI 176
def zws:=ai zwr (iX 176)
def zwt:=vD 177 [0]
def zwu:=vD 178 [0,0]
def zwv:=vD 179 [2,0,0]
def zww:=vD 180 [0,0]
def zwx:=vD 181 [0,0]
def zwy:=vD 182 [0,0,0]
def zwz:= @dr_of T zta zta [(5,3)] rfl (by decide)
def zw0:=vD 183 [0,0]
def zw1:=vI 191
def zw2:=ai zw1 (iX 191)
def zw3:=vD 201 []
def zw4:=vD 226 [2,0,2]
end Go.Dvm.C
