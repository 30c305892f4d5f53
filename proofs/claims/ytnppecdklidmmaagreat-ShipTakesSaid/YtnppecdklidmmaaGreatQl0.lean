/- The table of the functions, and what calls of them come to: part 1. -/
import Derived.Test.YtnppecdklidmmaaGreatQc0
set_option linter.all false
set_option maxRecDepth 100000
set_option maxHeartbeats 4000000
namespace Go.Dvm.C
open Go Go.Dvm
def ke:=ai @Ow.enc.eq_1<| ai @Sl.enc.eq_1<| ai @I.zkm.enc.eq_1<| ai @I.zkn.enc.eq_1<| ai @I.zko.enc.eq_1<| ai @I.zkp.enc.eq_1<| ai @I.zkq.enc.eq_1<| ai @I.zkr.enc.eq_1<| ai @arrEnc.eq_1<| ai @I.zks.enc.eq_1<| ai @I.zkt.enc.eq_1<| ai @I.zku.enc.eq_1<| @I.zkv.enc.eq_1
def kf:=ai @ke @kn
def tab:List (Nat×MFun):=[(4,fD 3 ((sr [mc 6 (.bool false)] (sr [ma 19 15 [],mt 7 19] zrn))) [.tmp 6] [0,0,0] [[]]),
 (7,fD 1 ((sr [mo 1 (.box (.t 0)),mc 2 (.bool false)] zrp)) [.tmp 2] [0] [[]]),
 (8,fD 2 ((sr [mo 2 (.box (.t 0)),mo 4 (.alloc [(.int .i64 0),(.int .i64 0),(.sl true []),(.bool false),(.int .i64 0),(.sl true [])]),mz 5 0] (.seq (sr [mt 8 1,mh 9 8,mz 10 0] (bl 0 [2,4,8,9,10] zrv)) (sr [mw 46 2 6,ms 4 46 6,mz 5 0] .ret)))) [.cell 4 6 true, .tmp 5] [0,0] [[],[]]),
 (9,fD 1 ((sr [mo 1 (.box (.t 0)),mc 2 (.bool false)] zrw)) [.tmp 2] [0] [[]]),
 (15,fD 0 ((sr [mc 0 (.bool false)] zr3)) [.tmp 0] [] [[]]),
 (16,fI 2 ((sr [mc 4 .nilp,mz 5 0] zr5)) [.tmp 4, .tmp 5] [0,0]),
 (17,fI 2 ((sr [mc 4 .nilp,mz 5 0] zr7)) [.tmp 4, .tmp 5] [0,0]),
 (18,fI 2 ((sr [mo 3 (.box (.t 1)),mo 4 (.alloc [(.int .i64 0),(.int .i64 0),(.int .i64 0),(.int .i64 0),(.sl true [])]),mz 5 0] (sr [mz 6 1] (.seq (sr [mf 7 3 2,ml 8 7] (.blk 0 (sr [mk 10 .eql 8 0,mt 9 10] zr8))) zr9)))) [.cell 4 5 true, .tmp 5] [0,0]),
 (19,fI 2 ((sr [mo 3 (.box (.t 1)),mo 4 (.alloc [(.int .i64 0),(.int .i64 0),(.int .i64 0),(.int .i64 0),(.sl true [])]),mz 5 0] (sr [mz 6 1] zsc))) [.cell 4 5 true, .tmp 5] [0,0]),
 (20,fD 2 ((sr [mo 2 (.box (.t 0)),mo 3 (.box (.t 1)),mc 4 (.bool false)] (.seq (.reg zsd) .ret))) [.tmp 4] [0,0] [[]]),
 (21,fD 2 ((sr [mo 2 (.box (.t 0)),mo 3 (.box (.t 1)),mc 4 (.bool false)] (sr [mf 7 2 1,mw 8 7 4,mf 9 3 1,mw 10 9 4,ma 11 58 [.t 8, .t 10],mt 5 11] zsg))) [.tmp 4] [0,0] [[]]),
 (22,fI 1 ((sr [mo 2 (.alloc [(.int .i64 0),(.int .i64 0),(.sl true []),(.bool false),(.int .i64 0),(.sl true [])])] zsi)) [.cell 2 6 true] [0]),
 (26,fD 1 ((sr [mo 1 (.box (.t 0)),mc 2 (.bool false)] zsp)) [.tmp 2] [0] [[]]),
 (27,fD 1 ((sr [mc 2 (.bool false)] (.seq (sr [mz 3 0] (bl 0 [0,3] zss)) (sr [mc 2 (.bool true)] .ret)))) [.tmp 2] [0] [[]]),
 (28,fD 1 ((sr [mo 1 (.box (.t 0)),mc 2 (.bool false)] (.seq (.reg zst) .ret))) [.tmp 2] [0] [[]]),
 (29,fD 2 ((sr [mo 2 (.box (.t 0)),mo 3 (.box (.t 1)),mo 4 (.alloc [(.int .i64 0),(.sl true []),(.bool false),(.int .i64 0)]),mz 5 0] zs0)) [.cell 4 4 true, .tmp 5] [0,0] [[],[]]),
 (30,fD 2 ((sr [mo 3 (.box (.t 1)),mc 4 (.sl true [])] (sr [mt 7 0,ma 8 59 [.t 7],mo 9 (.mkfn 80 [.t 3]),ma 10 79 [.t 8, .t 9],mt 5 10] zs2))) [.tmp 4] [0,0] [[4]]),
 (31,fD 1 ((sr [mo 1 (.box (.t 0)),mc 2 (.bool false)] zs7)) [.tmp 2] [0] [[]]),
 (32,fD 1 ((sr [mc 2 (.bool false)] (.seq (sr [mt 5 0,mh 6 5,mz 7 0] (bl 0 [0,5,6,7] zta)) (sr [mc 2 (.bool true)] .ret)))) [.tmp 2] [0] [[]]),
 (38,fD 1 ((sr [mc 2 (.sl true [])] ztb)) [.tmp 2] [0] [[2]]),
 (41,fD 2 ((sr [mc 4 (.sl true [])] (sr [mt 5 0,mt 6 1,ma 7 95 [.t 6],ma 8 94 [.t 5, .t 7],mt 4 8] .ret))) [.tmp 4] [2,0] [[2]]),
 (42,fD 1 ((sr [mc 2 (.sl true []),mz 3 0] ztd)) [.tmp 2, .tmp 3] [0] [[2],[]]),
 (43,fD 1 ((sr [mc 2 (.sl true []),mz 3 0,mz 4 0] ztj)) [.tmp 2, .tmp 3, .tmp 4] [0] [[2],[],[]]),
 (48,fI 1 ((sr [mc 2 .nilp] (sr [ma 6 60 [(ci 1000000)],mt 3 6] ztk))) [.tmp 2] [0]),
 (49,fI 2 ((sr [mz 4 0] (sr [mt 12 1,ma 13 106 [.t 12],mt 11 13,me 14 11 0,me 15 11 1,mt 5 14,mt 6 15] ztv))) [.tmp 4] [0,0]),
 (50,fI 1 ((sr [mz 2 0] ztz)) [.tmp 2] [0]),
 (51,fI 4 ((sr [mo 8 (.alloc [(.int .i64 0),(.int .i64 0),(.int .i64 0),(.int .i64 0),(.sl true [])]),mz 9 0] zt5)) [.cell 8 5 true, .tmp 9] [0,0,0,0]),
 (52,fD 1 ((sr [mo 2 (.alloc [(.int .i64 0),(.sl true []),(.bool false),(.int .i64 0)])] zt8)) [.cell 2 4 true] [0] [[]]),
 (53,fD 1 ((sr [mo 2 (.alloc [(.int .i64 0),(.sl true []),(.bool false),(.int .i64 0)])] zub)) [.cell 2 4 true] [0] [[]]),
 (54,fI 2 ((sr [mz 4 0] zuh)) [.tmp 4] [0,0]),
 (55,fI 2 ((sr [mz 4 0] zuk)) [.tmp 4] [0,0]),
 (56,fI 2 ((sr [mz 4 0] zuq)) [.tmp 4] [0,0]),
 (57,fI 2 ((sr [mz 4 0] zut)) [.tmp 4] [0,0]),
 (58,fD 2 ((sr [mo 2 (.box (.t 0)),mo 3 (.box (.t 1)),mc 4 (.bool false)] zuw)) [.tmp 4] [0,0] [[]]),
 (59,fD 1 ((sr [mc 2 (.sl true [])] zux)) [.tmp 2] [0] [[4]]),
 (60,fI 1 ((sr [mc 2 .nilp] zuy)) [.tmp 2] [0]),
 (62,fI 2 ((sr [mc 4 .nilp,mz 5 0] (.seq (.blk 0 (sr [mt 8 1,mk 9 .lss 8 0,mt 10 9,gt 11 1 10 false,gk 12 .geq 11 6 10 false,pt 13 10 12,mt 7 13] zuz)) zu1))) [.tmp 4, .tmp 5] [0,0]),
 (72,fD 2 ((sr [mc 4 (.bool false)] zu4)) [.tmp 4] [0,0] [[]]),
 (73,fD 1 ((sr [mz 2 0] zu5)) [.tmp 2] [0] [[]]),
 (74,fD 1 ((sr [mo 1 (.box (.t 0)),mc 2 (.bool false)] (.seq (.dreg zu6 [(10,13),(18,21)]) .ret))) [.tmp 2] [0] [[]]),
 (75,fD 2 ((sr [mo 2 (.box (.t 0)),mo 3 (.box (.t 1)),mo 4 (.alloc [(.int .i64 0),(.sl true []),(.bool false),(.int .i64 0)]),mz 5 0] zva)) [.cell 4 4 true, .tmp 5] [0,0] [[],[]]),
 (76,fD 2 ((sr [mo 2 (.box (.t 0)),mo 3 (.box (.t 1)),mo 4 (.alloc [(.int .i64 0),(.sl true []),(.bool false),(.int .i64 0)]),mz 5 0] zvh)) [.cell 4 4 true, .tmp 5] [0,0] [[],[]]),
 (77,fD 2 ((sr [mo 2 (.box (.t 0)),mo 3 (.box (.t 1)),mo 4 (.alloc [(.int .i64 0),(.sl true []),(.bool false),(.int .i64 0)]),mz 5 0] (.seq (sr [mf 11 3 0,ml 12 11] zvi) zvn))) [.cell 4 4 true, .tmp 5] [0,0] [[],[]]),
 (78,fD 2 ((sr [mo 2 (.box (.t 0)),mo 3 (.box (.t 1)),mo 4 (.alloc [(.int .i64 0),(.sl true []),(.bool false),(.int .i64 0)]),mz 5 0] (.seq (.blk 0 (sr [mf 10 3 0,ml 11 10,mk 12 .eql 11 9,mt 9 12] zvs)) (.seq (.dreg zvt [(7,4)]) zvv)))) [.cell 4 4 true, .tmp 5] [0,0] [[],[]]),
 (79,⟨2,(.seq (.reg [mc 4 (.sl true [])]) (.seq (.reg [mt 8 0,mt 9 1,ma 10 81 [.t 8, .t 9],mt 5 10]) zv0)),[.tmp 4],true,[4,0],[],true,none,none⟩),
 (80,fI 2 ((sr [mo 2 (.box (.t 0)),mc 3 (.bool false)] (sr [mf 4 2 0,ml 5 4,mf 6 1 1,ml 7 6,mb 8 .eql 5 7,mt 3 8] .ret))) [.tmp 3] [0]),
 (81,fI 2 ((sr [mz 4 0] (.seq (sr [mt 6 0,mh 7 6,mz 8 0] (bl 0 [0,1,7,8] zv2)) (sr [mc 4 (.int .i64 (-1))] .ret)))) [.tmp 4] [0,0]),
 (82,fI 2 ((sr [mo 2 (.box (.t 0)),mc 3 (.bool false)] (sr [mf 4 2 0,ml 5 4,mf 6 1 1,ml 7 6,mb 8 .gtr 5 7,mt 3 8] .ret))) [.tmp 3] [0]),
 (83,⟨3, .fail,[.tmp 6],false,[4,0,4],[[4]],false,some (insP 3),none⟩),
 (84,fI 2 ((sr [mc 4 (.bool false)] (sr [mt 5 0,mt 6 1,ma 7 152 [.t 5, .t 6],mk 8 .geq 7 0,mt 4 8] .ret))) [.tmp 4] [0,0]),
 (85,fD 1 ((sr [mc 2 (.bool false)] (sr [mt 3 0,mt 4 0,ma 5 86 [.t 4],mb 6 .neq 3 5,mt 2 6] .ret))) [.tmp 2] [0] [[]]),
 (86,fD 1 ((sr [mz 2 0] (sr [mt 3 0,mo 4 (.mm false [.t 3,(ci 1099511627776)]),mo 5 (.mm true [(.c (.int .i64 (-1099511627776))), .t 4]),mt 2 5] .ret))) [.tmp 2] [0] [[]]),
 (87,fD 2 ((sr [mc 4 (.bool false)] (sr [mc 5 (.int .i64 (-1))] (.seq (sr [mz 6 0] (bl 0 [0,1,5,6] zv4)) zv5)))) [.tmp 4] [0,0] [[]]),
 (88,fD 1 ((sr [mo 1 (.box (.t 0)),mc 2 (.bool false)] zv6)) [.tmp 2] [0] [[]]),
 (93,fD 2 ((sr [mc 4 (.sl true [])] zv7)) [.tmp 4] [2,0] [[2]]),
 (94,fD 2 ((sr [mc 4 (.sl true [])] zwa)) [.tmp 4] [2,0] [[2]]),
 (95,fD 1 ((sr [mc 2 (.int .u64 0)] zwb)) [.tmp 2] [0] [[]]),
 (96,fD 1 ((sr [mc 2 (.sl true [])] (sr [mz 3 0] (.seq (sr [mt 9 0,mh 10 9,mz 11 0] (bl 0 [0,3,9,10,11] zwd)) zwg)))) [.tmp 2] [0] [[2]]),
 (97,fD 2 ((sr [mc 4 (.sl true [])] (sr [mt 5 0,ma 6 157 [.t 5],mt 7 1,ma 8 156 [.t 6, .t 7],ma 9 155 [.t 8],mt 4 9] .ret))) [.tmp 4] [0,0] [[2]]),
 (98,fD 1 ((sr [mc 2 (.bool false)] zwh)) [.tmp 2] [0] [[]]),
 (99,fD 1 ((sr [mz 2 0,mz 3 0] (sr [mt 7 0,ma 8 160 [.t 7],mt 6 8,me 9 6 0,me 10 6 1,mt 4 9,mt 5 10] zwi))) [.tmp 2, .tmp 3] [0] [[],[]]),
 (100,fD 2 ((sr [mc 4 (.bool false)] zwl)) [.tmp 4] [0,0] [[]]),
 (101,fD 1 ((sr [mc 2 (.sl true [])] zwm)) [.tmp 2] [0] [[2]]),
 (106,fD 1 ((sr [mc 2 (.sl true []),mz 3 0] zwt)) [.tmp 2, .tmp 3] [0] [[2],[]]),
 (107,fI 1 ((sr [mz 2 0] (.seq (.dreg [mt 3 0,mq 4 3,mf 5 4 5,ml 6 5,mt 7 0,mq 8 7,mf 9 8 4,ml 10 9,mh 11 10,mb 12 .add 6 11,mt 2 12] []) .ret))) [.tmp 2] [0]),
 (108,fD 3 ((sr [mc 6 (.sl true []),mz 7 0] (.seq (.blk 0 (sr [mt 9 0,ma 10 166 [.t 9],mo 11 (.un .not (.t 10)),mt 8 11] zwu)) zwv))) [.tmp 6, .tmp 7] [0,0,0] [[2],[]]),
 (109,fI 2 ((sr [mz 4 0] zww)) [.tmp 4] [0,0]),
 (110,fI 3 ((sr [mo 4 (.box (.t 1)),mz 6 0] (.seq (.blk 0 (sr [mt 10 0,mq 11 10,mf 12 11 4,ml 13 12,mt 9 13] zwy)) zw1))) [.tmp 6] [0,0,0]),
 (111,fI 2 ((sr [mz 4 0] zw3)) [.tmp 4] [0,0]),
 (112,fI 1 ((sr [mz 2 0] (.seq (sr [mt 3 0,mq 4 3,mf 5 4 4,ml 6 5] (cs 6 (.seq .fail .ret) .skip)) zw4))) [.tmp 2] [0]),
 (113,fI 1 ((sr [mz 2 0] (sr [mt 3 0,mq 4 3,mf 5 4 6,ml 6 5,mt 2 6] .ret))) [.tmp 2] [0]),
 (114,fI 1 ((sr [mz 2 0] (sr [mt 3 0,mq 4 3,mf 5 4 5,ml 6 5,mt 2 6] .ret))) [.tmp 2] [0]),
 (115,fI 1 ((sr [mo 2 (.alloc [(.int .i64 0),(.int .i64 0),(.sl true []),(.bool false),(.int .i64 0),(.sl true [])])] zw5)) [.cell 2 6 true] [0]),
 (117,fI 3 ((sr [mc 6 (.sl true []),mz 7 0] zw8)) [.tmp 6, .tmp 7] [0,0,0]),
 (118,fD 2 ((sr [mo 3 (.box (.t 1)),mc 4 (.sl true []),mz 5 0] zxb)) [.tmp 4, .tmp 5] [0,0] [[2],[]]),
 (119,fD 1 ((sr [mo 2 (.alloc [(.int .i64 0),(.int .i64 0),(.sl true [])]),mz 3 0] zxc)) [.cell 2 3 true, .tmp 3] [0] [[],[]]),
 (120,fD 1 ((sr [mo 2 (.alloc [(.int .i64 0),(.int .i64 0),(.sl true []),(.bool false),(.int .i64 0),(.sl true [])]),mz 3 0] (sr [mo 4 (.alloc [(.int .i64 0),(.int .i64 0),(.sl true []),(.bool false),(.int .i64 0),(.sl true [])])] zxm))) [.cell 2 6 true, .tmp 3] [0] [[],[]]),
 (121,fD 1 ((sr [mo 2 (.alloc [(.int .i64 0),(.int .i64 0),(.sl true [])]),mz 3 0] (sr [mt 13 0,ma 14 188 [.t 13],mt 12 14,me 15 12 0,me 16 12 1,mt 4 15,mt 5 16] zxs))) [.cell 2 3 true, .tmp 3] [0] [[],[]]),
 (122,fD 2 ((sr [mo 2 (.box (.t 0)),mo 4 (.alloc [(.int .i64 0),(.int .i64 0),(.sl true []),(.bool false),(.int .i64 0),(.sl true [])]),mz 5 0] (.seq (sr [mz 6 0] (bl 0 [1,2,4,6] zx0)) (sr [mw 62 2 6,ms 4 62 6,mz 5 0] .ret)))) [.cell 4 6 true, .tmp 5] [0,0] [[],[]]),
 (123,fD 1 ((sr [mo 2 (.alloc [(.int .i64 0),(.int .i64 0),(.sl true []),(.bool false),(.int .i64 0),(.sl true [])]),mz 3 0] zyc)) [.cell 2 6 true, .tmp 3] [0] [[],[]]),
 (124,fI 1 ((sr [mc 2 (.bool false)] (sr [mt 3 0,mq 4 3,mf 5 4 4,ml 6 5,mo 7 (.un .not (.t 6)),mt 2 7] .ret))) [.tmp 2] [0]),
 (125,fI 1 ((sr [mt 15 0,mt 16 0,mq 17 16,mf 18 17 1,ml 19 18,ma 20 52 [.t 19],mo 21 (.bld [(.int .i64 0),(.int .i64 0),(.sl true []),(.bool false),(.int .i64 0),(.sl true [])] [(1,4,(.t 20))]),mo 22 (.bsl 6 [.t 21] 1),mq 23 15,mf 24 23 2,ms 24 22 1] zyh)) [] [0]),
 (126,fI 1 ((sr [mc 2 (.bool false)] (sr [mt 6 0,ma 7 115 [.t 6],mo 8 (.fld (.t 7) 0 1 false),mt 3 8] zyk))) [.tmp 2] [0]),
 (136,fD 1 ((sr [mc 2 (.sl true [])] zyl)) [.tmp 2] [0] [[8]]),
 (144,fD 1 ((sr [mo 1 (.box (.t 0)),mo 2 (.alloc [(.int .i64 0),(.int .i64 0),(.sl true []),(.bool false),(.int .i64 0),(.sl true [])])] (.seq (.dreg zym [(5,3)]) (sr [mw 13 1 6,ms 2 13 6] .ret)))) [.cell 2 6 true] [0] [[]]),
 (145,fD 3 ((sr [mc 6 (.sl true [])] (sr [mt 8 0,mt 9 1,mt 10 2,mt 11 0,mh 12 11,mo 13 (.slc (.t 8) (some (.t 9)) (some (.t 10)) (some (.t 12)) 1)] zyp))) [.tmp 6] [2,0,0] [[2]]),
 (146,fD 2 ((sr [mz 4 0] zyq)) [.tmp 4] [0,0] [[]]),
 (147,fD 2 ((sr [mz 4 0,mc 5 (.bool false)] (sr [mz 6 0] (.seq (bl 0 [0,1,6] zyr) zys)))) [.tmp 4, .tmp 5] [0,0] [[],[]]),
 (148,fD 3 ((sr [mc 6 (.sl true []),mc 7 (.bool false)] zyv)) [.tmp 6, .tmp 7] [0,0,0] [[],[]]),
 (149,fD 2 ((sr [mo 2 (.box (.t 0)),mo 3 (.box (.t 1)),mo 4 (.alloc [(.int .i64 0),(.sl true []),(.bool false),(.int .i64 0)]),mz 5 0] zy2)) [.cell 4 4 true, .tmp 5] [0,0] [[],[]]),
 (152,fI 2 ((sr [mz 4 0] (.seq (sr [mt 6 0,mh 7 6,mz 8 0] (bl 0 [0,1,7,8] zy4)) (sr [mc 4 (.int .i64 (-1))] .ret)))) [.tmp 4] [0,0]),
 (154,fI 2 ((sr [mc 4 (.sl true [])] (.seq (sr [mt 5 1,mk 6 .lss 5 0] (cs 6 .fail .skip)) zy6))) [.tmp 4] [0,0]),
 (155,fD 1 ((sr [mc 2 (.sl true [])] (sr [mt 3 0,mo 4 (.conv .u64 (.t 3)),ma 5 211 [.t 4,(ci 4)],mt 2 5] .ret))) [.tmp 2] [0] [[2]]),
 (156,fD 2 ((sr [mc 4 (.int .u32 0)] (sr [ma 9 212 [],mo 5 (.alloc (List.replicate 256 (.int .u32 0))),ms 5 9 256] zy9))) [.tmp 4] [0,0] [[]]),
 (157,fD 1 ((sr [mc 2 (.int .u32 0)] (sr [mt 3 0,ma 4 156 [(.c (.int .u32 0)), .t 3],mt 2 4] .ret))) [.tmp 2] [0] [[]]),
 (158,fI 2 ((sr [mc 4 (.bool false)] (sr [mt 5 0,mt 6 1,ma 7 213 [.t 5, .t 6],mk 8 .geq 7 0,mt 4 8] .ret))) [.tmp 4] [0,0]),
 (159,fD 1 ((sr [mc 2 (.bool false)] (sr [mt 3 0,mo 4 (.bin .lss (.t 3) (.c (.int .u8 128))),mt 2 4] .ret))) [.tmp 2] [0] [[]]),
 (160,fD 1 ((sr [mc 2 (.int .u64 0),mz 3 0] (sr [mc 4 (.int .u64 0)] zzf))) [.tmp 2, .tmp 3] [0] [[],[]]),
 (163,fD 1 ((sr [mz 2 0,mz 3 0] (sr [mt 7 0,ma 8 160 [.t 7],mt 6 8,me 9 6 0,me 10 6 1,mt 4 9,mt 5 10] zzg))) [.tmp 2, .tmp 3] [0] [[],[]]),
 (164,fD 1 ((sr [mc 2 (.bool false)] (.seq (sr [mt 5 0,mh 6 5,mz 7 0] (bl 0 [0,5,6,7] zzj)) zzk))) [.tmp 2] [0] [[]]),
 (165,fD 2 ((sr [mo 3 (.box (.t 1)),mc 4 (.sl true []),mz 5 0] zzm)) [.tmp 4, .tmp 5] [2,0] [[2],[]]),
 (166,fD 1 ((sr [mc 2 (.bool false)] (sr [mt 3 0,mk 4 .geq 3 1,mt 5 4,gt 6 0 5 true,gk 7 .leq 6 3 5 true,pf 8 5 7,mt 2 8] .ret))) [.tmp 2] [0] [[]]),
 (167,fD 1 ((sr [mc 2 (.sl true [])] (sr [mt 6 0,ma 7 42 [.t 6],mt 5 7,me 8 5 0,me 9 5 1,mt 3 8,mt 4 9] (sr [mt 10 3,mt 2 10] .ret)))) [.tmp 2] [0] [[2]]),
 (168,fD 1 ((sr [mz 2 0,mc 3 (.bool false)] (.seq (sr [mt 4 0,mh 5 4,mk 6 .eql 5 0] (cs 6 (sr [mt 7 2,mt 2 7,mc 3 (.bool false)] .ret) .skip)) (.seq .fail .ret)))) [.tmp 2, .tmp 3] [0] [[],[]]),
 (169,fI 2 ((sr [mo 3 (.box (.t 1)),mc 4 (.sl true [])] zzn)) [.tmp 4] [0,0]),
 (170,fD 1 ((sr [mc 2 (.bool false)] (sr [mt 3 0,mk 4 .geq 3 0,mt 5 4,gt 6 0 5 true,gk 7 .lss 6 1048576 5 true,pf 8 5 7,mt 2 8] .ret))) [.tmp 2] [0] [[]]),
 (171,⟨1, .fail,[.tmp 2],true,[0],[],false,none,some dskU⟩),
 (172,fI 2 ((sr [mt 4 1,mt 5 0,mq 6 5,mf 7 6 2,ml 8 7,mo 9 (.callv (.t 4) [.t 8])] (.reg [mt 10 0,mt 11 0,mq 12 11,mf 13 12 3,ml 14 13,mt 15 1,mo 16 (.bsl 1 [.t 15] 2),mo 17 (.papp (.t 14) (.t 16)),mq 18 10,mf 19 18 3,ms 19 17 1]))) [] [0,0]),
 (173,fI 3 ((.reg [mt 4 0,ml 5 2,ml 6 1,mn (.pput (.t 4) (.t 5) (.t 6))])) [] [0]),
 (174,fI 1 ((sr [mz 2 0] (.seq (sr [mt 3 0,mq 4 3,mf 5 4 5,ml 6 5] (cs 6 (.seq .fail (.seq .fail .fail)) .skip)) (sr [mz 2 0] .ret)))) [.tmp 2] [0]),
 (175,fI 2 ((sr [mc 4 .nilp,mz 5 0] (sr [mt 7 0,mq 8 7,mf 9 8 2,ml 10 9,mt 11 1,mo 12 (.plook (.t 10) (.t 11)),mt 6 12] zzo))) [.tmp 4, .tmp 5] [0,0]),
 (176,⟨1, .fail,[.tmp 2],true,[0],[],false,none,some dskC⟩),
 (177,fD 1 ((sr [mo 2 (.alloc [(.int .i64 0),(.int .i64 0),(.sl true []),(.bool false),(.int .i64 0),(.sl true [])]),mc 3 (.bool false)] zzp)) [.cell 2 6 true, .tmp 3] [0] [[],[]]),
 (180,fD 2 ((sr [mc 4 (.bool false)] (.seq (sr [mt 7 0,mh 8 7,mz 9 0] (bl 0 [0,1,7,8,9] zzs)) (sr [mt 26 0,mh 27 26,mk 28 .leq 27 4096,mt 4 28] .ret)))) [.tmp 4] [0,0] [[]]),
 (181,fD 2 ((sr [mc 4 (.sl true [])] (sr [mo 5 (.nil 1)] (.seq (bl 0 [0,1,5] zzu) (sr [mt 26 5,mt 4 26] .ret))))) [.tmp 4] [0,0] [[2]]),
 (182,fD 1 ((sr [mc 2 (.sl true [])] (sr [mt 6 0,mh 7 6,mk 8 .sub 7 1,ma 9 93 [(.c (.sl true [])), .t 8],mt 3 9] zzx))) [.tmp 2] [0] [[2]]),
 (183,fD 1 ((sr [mo 2 (.alloc [(.int .i64 0),(.int .i64 0),(.sl true [])]),mc 3 (.sl true []),mz 4 0] zz4)) [.cell 2 3 true, .tmp 3, .tmp 4] [0] [[],[2],[]]),
 (184,fD 1 ((sr [mc 2 (.sl true []),mz 3 0] (sr [mt 8 0,ma 9 223 [.t 8],mt 7 9,me 10 7 0,me 11 7 1,me 12 7 2,mt 4 10,mt 5 11,mt 6 12] zz5))) [.tmp 2, .tmp 3] [0] [[2],[]]),
 (185,fD 1 ((sr [mo 2 (.alloc [(.int .i64 0),(.int .i64 0),(.int .u64 0)]),mz 3 0] z0b)) [.cell 2 3 true, .tmp 3] [0] [[],[]]),
 (186,fD 1 ((sr [mc 2 (.bool false)] (.seq (sr [mt 5 0,mh 6 5,mz 7 0] (bl 0 [0,5,6,7] z0d)) (sr [mc 2 (.bool true)] .ret)))) [.tmp 2] [0] [[]]),
 (187,fD 1 ((sr [mo 2 (.alloc [(.int .i64 0),(.int .i64 0),(.sl true []),(.bool false),(.int .i64 0),(.sl true [])]),mz 3 0] (sr [mt 11 0,ma 12 99 [.t 11],mt 10 12,me 13 10 0,me 14 10 1,mt 4 13,mt 5 14] z0n))) [.cell 2 6 true, .tmp 3] [0] [[],[]]),
 (188,fD 1 ((sr [mc 2 (.sl true []),mz 3 0] (sr [mt 8 0,ma 9 227 [.t 8],mt 7 9,me 10 7 0,me 11 7 1,me 12 7 2,mt 4 10,mt 5 11,mt 6 12] z0o))) [.tmp 2, .tmp 3] [0] [[2],[]]),
 (189,fD 1 ((sr [mz 2 0,mo 3 (.alloc [(.int .i64 0),(.int .i64 0),(.sl true [])]),mz 4 0,mz 5 0] z0v)) [.tmp 2, .cell 3 3 true, .tmp 4, .tmp 5] [0] [[],[],[],[]]),
 (190,fD 1 ((sr [mc 2 (.sl true [])] (sr [mo 3 (.nil 1)] (.seq (sr [mz 4 0] (bl 0 [0,3,4] z0x)) (sr [mt 25 3,mt 2 25] .ret))))) [.tmp 2] [0] [[2]]),
 (191,fD 2 ((sr [mc 4 (.sl true [])] z00)) [.tmp 4] [0,0] [[2]]),
 (192,fD 1 ((sr [mo 1 (.box (.t 0)),mc 2 (.bool false)] (sr [mf 4 1 3,mw 5 4 3,ma 6 232 [.t 5],mt 3 6] (.seq (.reg z01) .ret)))) [.tmp 2] [0] [[]]),
 (193,fD 2 ((sr [mo 2 (.box (.t 0)),mo 3 (.box (.t 1)),mo 4 (.alloc [(.int .i64 0),(.sl true []),(.bool false),(.int .i64 0)]),mz 5 0] z1b)) [.cell 4 4 true, .tmp 5] [0,0] [[],[]]),
 (194,fD 2 ((sr [mo 3 (.box (.t 1)),mc 4 (.sl true [])] (sr [mo 5 (.nil 3)] (sr [mc 6 (.bool false)] z1h)))) [.tmp 4] [0,0] [[4]]),
 (195,fD 1 ((sr [mz 2 0,mz 3 0,mc 4 (.int .u64 0),mz 5 0] z1o)) [.tmp 2, .tmp 3, .tmp 4, .tmp 5] [0] [[],[],[],[]]),
 (196,fD 1 ((sr [mc 2 (.bool false)] (.seq (sr [mz 3 0] (bl 0 [0,3] z1q)) (sr [mc 2 (.bool true)] .ret)))) [.tmp 2] [0] [[]]),
 (197,fD 1 ((sr [mc 2 (.int .u32 0)] (sr [mt 3 0,ma 4 239 [(.c (.int .u32 0)), .t 3],mt 2 4] .ret))) [.tmp 2] [0] [[]]),
 (198,fD 1 ((sr [mo 2 (.alloc [(.int .i64 0),(.int .i64 0),(.sl true []),(.bool false),(.int .i64 0),(.sl true [])]),mz 3 0] (sr [mt 11 0,ma 12 237 [.t 11],mt 10 12,me 13 10 0,me 14 10 1,mt 4 13,mt 5 14] z1w))) [.cell 2 6 true, .tmp 3] [0] [[],[]]),
 (205,⟨1, .fail,[.tmp 2],true,[0],[],false,none,some dskN⟩),
 (209,⟨3, .fail,[.tmp 6],false,[2,0,2],[[2]],false,some (insP 1),none⟩),
 (211,fD 2 ((sr [mc 4 (.sl true [])] (sr [mo 5 (.nil 1)] (.seq (sr [mt 7 1,mz 8 0] (bl 0 [0,5,7,8] z1y)) (sr [mt 20 5,mt 4 20] .ret))))) [.tmp 4] [0,0] [[2]]),
 (212,fD 0 ((sr [mo 0 (.alloc (List.replicate 256 (.int .u32 0)))] z14)) [.cell 0 256 true] [] [[]]),
 (213,fI 2 ((sr [mz 4 0] (.seq (sr [mt 6 0,mh 7 6,mz 8 0] (bl 0 [0,1,7,8] z16)) (sr [mc 4 (.int .i64 (-1))] .ret)))) [.tmp 4] [0,0]),
 (214,fD 1 ((sr [mz 2 0] z17)) [.tmp 2] [0] [[]]),
 (216,fI 2 ((sr [mc 4 (.sl true [])] (sr [mt 8 0,mt 9 1,ma 10 152 [.t 8, .t 9],mt 5 10] z19))) [.tmp 4] [2,0]),
 (219,fD 2 ((sr [mc 4 (.sl true [])] (.seq (sr [mt 12 0,mk 13 .eql 12 3] z2a) (.seq .fail (.seq (.seq .fail (bl 0 [0,7,20,21,22] z2b)) (.seq .fail .ret)))))) [.tmp 4] [0,0] [[2]]),
 (220,fI 2 ((sr [mz 4 0,mz 5 0] z2g)) [.tmp 4, .tmp 5] [0,0]),
 (221,fD 1 ((sr [mc 2 (.sl true [])] (sr [mo 3 (.nil 1)] (.seq (sr [mt 6 0,mh 7 6,mz 8 0] (bl 0 [3,6,7,8] z2i)) (sr [mt 18 3,mt 2 18] .ret))))) [.tmp 2] [0] [[2]]),
 (222,fD 2 ((sr [mc 4 (.bool false)] (sr [mt 5 0,mo 6 (.b2s (.t 5)),mt 7 1,mo 8 (.b2s (.t 7)),mb 9 .eql 6 8,mt 4 9] .ret))) [.tmp 4] [0,0] [[]]),
 (223,fD 1 ((sr [mo 2 (.nil 1),mz 3 0,mz 4 0] (.seq (bl 0 [0,2,3] z2l) (sr [mt 32 2,mt 33 3,mt 2 32,mt 3 33,mz 4 0] .ret)))) [.tmp 2, .tmp 3, .tmp 4] [0] [[2],[],[]]),
 (224,fD 1 ((sr [mc 2 (.int .u64 0)] z2o)) [.tmp 2] [0] [[]]),
 (225,fD 1 ((sr [mo 2 (.alloc [(.int .i64 0),(.sl true []),(.bool false),(.int .i64 0)]),mz 3 0] z2w)) [.cell 2 4 true, .tmp 3] [0] [[],[]]),
 (226,fD 1 ((sr [mo 2 (.alloc [(.int .i64 0),(.int .i64 0),(.int .i64 0)]),mz 3 0] (sr [mz 4 0,mz 5 0,mz 6 0] (sr [mt 8 0,ma 9 99 [.t 8],mt 7 9,me 10 7 0,me 11 7 1,mf 12 2 0,ms 12 10 1,mt 4 11] z2z)))) [.cell 2 3 true, .tmp 3] [0] [[],[]]),
 (227,fD 1 ((sr [mc 2 (.sl true []),mz 3 0,mz 4 0] (sr [mo 5 (.nil 1)] (sr [mz 6 0] (.seq (bl 0 [0,5,6] z22) (sr [mt 34 5,mt 35 6,mt 2 34,mt 3 35,mz 4 0] .ret)))))) [.tmp 2, .tmp 3, .tmp 4] [0] [[2],[],[]]),
 (228,fI 1 ((sr [mz 2 0,mo 3 (.alloc [(.int .i64 0),(.int .i64 0),(.sl true [])]),mz 4 0] (sr [mo 12 (.bld [(.int .i64 0),(.int .i64 0),(.sl true [])] []),mo 5 (.alloc [(.int .i64 0),(.int .i64 0),(.sl true [])]),ms 5 12 3] z29))) [.tmp 2, .cell 3 3 true, .tmp 4] [0]),
 (229,fD 3 ((sr [mc 6 (.sl true []),mc 7 (.bool false)] (sr [mc 8 (.sl true [])] (.seq (sr [mt 14 0,mk 15 .lss 14 3] z3b) z3c)))) [.tmp 6, .tmp 7] [0,0,0] [[8],[]]),
 (230,fD 1 ((sr [mc 2 (.sl true []),mz 3 0] z3f)) [.tmp 2, .tmp 3] [0] [[2],[]]),
 (231,fD 2 ((sr [mc 4 (.sl true [])] (sr [mt 6 0,mo 7 (.app (.c (.sl true [])) (.t 6) 1),mt 5 7] z3g))) [.tmp 4] [0,0] [[2]]),
 (232,fD 1 ((sr [mo 1 (.box (.t 0)),mc 2 (.bool false)] (.seq (.dreg z3h [(10,13),(18,21)]) .ret))) [.tmp 2] [0] [[]]),
 (233,fD 2 ((sr [mo 2 (.box (.t 0)),mo 3 (.box (.t 1)),mo 4 (.alloc [(.int .i64 0),(.sl true []),(.bool false),(.int .i64 0)]),mz 5 0] (sr [mf 7 2 1,ml 8 7,mo 9 (.iaddr (.t 8) (ci 0) 1),ml 10 9,mt 6 10] z3m))) [.cell 4 4 true, .tmp 5] [0,0] [[],[]]),
 (234,fD 2 ((sr [mo 2 (.box (.t 0)),mo 3 (.box (.t 1)),mo 4 (.alloc [(.int .i64 0),(.sl true []),(.bool false),(.int .i64 0)]),mz 5 0] (sr [mf 9 2 1,ml 10 9,mh 11 10,mt 6 11] z3v))) [.cell 4 4 true, .tmp 5] [0,0] [[],[]]),
 (235,fD 2 ((sr [mo 2 (.box (.t 0)),mo 3 (.box (.t 1)),mo 4 (.alloc [(.int .i64 0),(.sl true []),(.bool false),(.int .i64 0)]),mz 5 0] z31)) [.cell 4 4 true, .tmp 5] [0,0] [[],[]]),
 (236,fD 2 ((sr [mo 2 (.box (.t 0)),mo 3 (.box (.t 1)),mo 4 (.alloc [(.int .i64 0),(.sl true []),(.bool false),(.int .i64 0)]),mz 5 0] (.seq (sr [mf 11 3 0,ml 12 11,mk 13 .eql 12 9] z32) z4a))) [.cell 4 4 true, .tmp 5] [0,0] [[],[]]),
 (237,fD 1 ((sr [mz 2 0,mz 3 0] (sr [mt 7 0,ma 8 266 [.t 7],mt 6 8,me 9 6 0,me 10 6 1,mt 4 9,mt 5 10] z4b))) [.tmp 2, .tmp 3] [0] [[],[]]),
 (238,fD 1 ((sr [mc 2 (.int .u64 0)] (sr [mc 3 (.int .u64 0)] (.seq (sr [mz 4 7] (bl 0 [0,3,4] z4d)) (sr [mt 21 3,mt 2 21] .ret))))) [.tmp 2] [0] [[]]),
 (239,fD 2 ((sr [mc 4 (.int .u32 0)] z4g)) [.tmp 4] [0,0] [[]]),
 (240,fD 1 ((sr [mo 2 (.alloc [(.int .i64 0),(.sl true []),(.bool false),(.int .i64 0)]),mz 3 0] (sr [mt 17 0,ma 18 237 [.t 17],mt 16 18,me 19 16 0,me 20 16 1,mt 4 19,mt 5 20] z4r))) [.cell 2 4 true, .tmp 3] [0] [[],[]]),
 (241,fD 1 ((sr [mc 2 (.sl true []),mc 3 (.bool false)] (sr [mt 15 0,ma 16 237 [.t 15],mt 14 16,me 17 14 0,me 18 14 1,mt 4 17,mt 5 18] z4z))) [.tmp 2, .tmp 3] [0] [[4],[]]),
 (244,fD 1 ((sr [mc 2 (.sl true []),mz 3 0] (sr [mt 17 0,ma 18 99 [.t 17],mt 16 18,me 19 16 0,me 20 16 1,mt 4 19,mt 5 20] z49))) [.tmp 2, .tmp 3] [0] [[8],[]]),
 (253,fI 2 ((sr [mz 4 0] z5h)) [.tmp 4] [0,0]),
 (254,fI 2 ((sr [mz 4 0] z5n)) [.tmp 4] [0,0]),
 (255,fI 1 ((sr [mo 1 (.box (.t 0)),mc 2 .nilf,mc 3 .nilf,mc 4 .nilf] (sr [mo 5 (.alloc [(.bool false)]),mn (.store (.t 5) (.c (.bool true)) 1)] z5o))) [.tmp 2, .tmp 3, .tmp 4] [0]),
 (256,fD 1 ((sr [mc 2 (.sl true []),mz 3 0,mz 4 0] (sr [mt 10 0,ma 11 281 [.t 10],mt 5 11] z5t))) [.tmp 2, .tmp 3, .tmp 4] [0] [[2],[],[]]),
 (257,fD 2 ((sr [mc 4 (.sl true []),mc 5 (.bool false)] (sr [mo 6 (.nil 7)] (.seq (bl 0 [0,1,6] z5x) (sr [mt 63 6,mt 4 63,mc 5 (.bool true)] .ret))))) [.tmp 4, .tmp 5] [0,0] [[8],[]]),
 (258,fD 1 ((sr [mc 2 (.sl true []),mz 3 0] (sr [mt 16 0,ma 17 237 [.t 16],mt 15 17,me 18 15 0,me 19 15 1,mt 4 18,mt 5 19] z55))) [.tmp 2, .tmp 3] [0] [[8],[]]),
 (259,fD 2 ((sr [mc 4 (.bool false)] z59)) [.tmp 4] [0,0] [[]]),
 (260,fD 2 ((sr [mc 4 (.sl true [])] (sr [mo 5 (.nil 1)] (.seq (sr [mz 6 0] (bl 0 [0,1,5,6] z6b)) (sr [mt 20 5,mt 4 20] .ret))))) [.tmp 4] [0,0] [[2]]),
 (261,fD 1 ((sr [mc 2 (.sl true [])] (sr [mo 3 (.nil 1)] z6e))) [.tmp 2] [0] [[2]]),
 (262,fD 2 ((sr [mz 4 0] (.seq (sr [mz 5 0] (bl 0 [0,1,5] z6g)) (sr [mc 4 (.int .i64 (-1))] .ret)))) [.tmp 4] [0,0] [[]]),
 (263,fD 2 ((sr [mc 4 (.sl true [])] (sr [mo 5 (.nil 1)] (.seq (sr [mz 6 0] (bl 0 [0,1,5,6] z6i)) (sr [mt 34 5,mt 4 34] .ret))))) [.tmp 4] [0,0] [[2]]),
 (264,fD 3 ((sr [mc 6 (.sl true [])] (sr [mo 7 (.nil 1)] (sr [mc 8 (.bool false)] z6o)))) [.tmp 6] [0,0,0] [[2]]),
 (265,fD 2 ((sr [mo 2 (.box (.t 0)),mo 3 (.box (.t 1)),mo 4 (.alloc [(.int .i64 0),(.sl true []),(.bool false),(.int .i64 0)]),mz 5 0] z6w)) [.cell 4 4 true, .tmp 5] [0,0] [[],[]]),
 (266,fD 1 ((sr [mc 2 (.int .u64 0),mz 3 0] z62)) [.tmp 2, .tmp 3] [0] [[],[]]),
 (267,fD 1 ((sr [mc 2 (.int .u32 0)] (sr [mt 6 0,mo 7 (.conv .u32 (.t 6)),mt 3 7] (.seq (sr [mz 4 0] (bl 0 [3,4] z65)) (sr [mt 20 3,mt 2 20] .ret))))) [.tmp 2] [0] [[]]),
 (268,fD 1 ((sr [mz 2 0,mz 3 0] (sr [mt 7 0,ma 8 266 [.t 7],mt 6 8,me 9 6 0,me 10 6 1,mt 4 9,mt 5 10] z66))) [.tmp 2, .tmp 3] [0] [[],[]]),
 (270,fD 1 ((sr [mo 2 (.alloc [(.int .i64 0),(.int .i64 0),(.int .i64 0),(.int .i64 0),(.int .i64 0),(.int .i64 0),(.int .i64 0)]),mz 3 0] (sr [mo 4 (.alloc [(.int .i64 0),(.int .i64 0),(.int .i64 0),(.int .i64 0)])] z7e))) [.cell 2 7 true, .tmp 3] [0] [[],[]]),
 (275,fD 1 ((sr [mc 2 (.sl true [])] z7g)) [.tmp 2] [0] [[2]]),
 (277,fD 2 ((sr [mc 4 (.sl true []),mc 5 (.bool false)] (sr [mo 6 (.nil 7)] (.seq (bl 0 [0,1,6] z7l) (sr [mt 63 6,mt 4 63,mc 5 (.bool true)] .ret))))) [.tmp 4, .tmp 5] [0,0] [[8],[]]),
 (278,fI 3 ((sr [mz 4 0] (sr [mt 8 0,ml 9 1,mo 10 (.callv (.t 8) [.t 9]),mt 7 10,me 11 7 0,me 12 7 1,mt 5 11,mt 6 12] z7m))) [.tmp 4] [0]),
 (279,fI 1 ((sr [mc 1 (.bool false)] (sr [ml 2 0,mt 1 2] .ret))) [.tmp 1] []),
 (280,fI 1 ((sr [mz 1 0] (sr [ml 2 0,mh 3 2,mt 1 3] .ret))) [.tmp 1] []),
 (281,fD 1 ((sr [mc 2 (.bool false)] (.seq (sr [mz 3 0] (bl 0 [0,3] z7o)) (sr [mt 15 0,mh 16 15,mk 17 .lss 16 10,mt 2 17] .ret)))) [.tmp 2] [0] [[]]),
 (282,fD 1 ((sr [mo 2 (.alloc [(.int .i64 0),(.int .i64 0),(.int .i64 0),(.int .i64 0),(.int .i64 0),(.int .i64 0),(.int .i64 0)]),mz 3 0] z74)) [.cell 2 7 true, .tmp 3] [0] [[],[]]),
 (283,fD 2 ((sr [mo 4 (.alloc [(.int .i64 0),(.int .i64 0),(.int .i64 0),(.int .i64 0),(.int .i64 0),(.int .i64 0),(.int .i64 0)]),mz 5 0] z8b)) [.cell 4 7 true, .tmp 5] [0,0] [[],[]]),
 (284,fD 1 ((sr [mc 2 (.sl true []),mz 3 0] (sr [mt 9 0,ma 10 296 [.t 9],mt 4 10] z8h))) [.tmp 2, .tmp 3] [0] [[2],[]]),
 (285,fD 1 ((sr [mz 2 0] z8i)) [.tmp 2] [0] [[]]),
 (286,fD 1 ((sr [mo 2 (.alloc [(.int .i64 0),(.int .i64 0),(.int .i64 0)]),mz 3 0] z8n)) [.cell 2 3 true, .tmp 3] [0] [[],[]]),
 (291,fD 1 ((sr [mo 2 (.alloc [(.int .i64 0),(.int .i64 0),(.int .i64 0),(.int .i64 0),(.int .i64 0),(.int .i64 0),(.int .i64 0)]),mz 3 0] (.seq (sr [mt 8 0,mh 9 8,mk 10 .eql 9 0] z8o) z8t))) [.cell 2 7 true, .tmp 3] [0] [[],[]]),
 (292,fD 2 ((sr [mc 4 (.bool false)] z8u)) [.tmp 4] [0,0] [[]]),
 (293,fD 3 ((sr [mo 3 (.box (.t 0)),mo 6 (.alloc [(.int .i64 0),(.int .i64 0),(.int .i64 0),(.int .i64 0),(.int .i64 0),(.int .i64 0),(.int .i64 0)]),mz 7 0] (sr [mt 15 2,ma 16 237 [.t 15],mt 14 16,me 17 14 0,me 18 14 1,mt 8 17,mt 9 18] z8y))) [.cell 6 7 true, .tmp 7] [0,0,0] [[],[]]),
 (294,fD 1 ((sr [mo 2 (.alloc [(.int .i64 0),(.int .i64 0),(.int .i64 0)]),mz 3 0] (sr [mt 13 0,ma 14 237 [.t 13],mt 12 14,me 15 12 0,me 16 12 1,mt 4 15,mt 5 16] z82))) [.cell 2 3 true, .tmp 3] [0] [[],[]]),
 (295,fD 2 ((sr [mz 4 0] (.seq (sr [mt 6 0,mh 7 6,mk 8 .sub 7 1,mt 5 8] (bl 0 [0,1,5] z84)) (sr [mz 4 0] .ret)))) [.tmp 4] [0,0] [[]]),
 (296,fD 1 ((sr [mc 2 (.bool false)] z88)) [.tmp 2] [0] [[]]),
 (297,fD 2 ((sr [mc 4 (.sl true [])] z89)) [.tmp 4] [0,0] [[2]]),
 (298,fD 2 ((sr [mo 3 (.box (.t 1)),mc 4 (.sl true []),mz 5 0] z9c)) [.tmp 4, .tmp 5] [0,0] [[2],[]]),
 (310,fD 2 ((sr [mo 4 (.alloc [(.int .i64 0),(.int .i64 0),(.int .i64 0),(.int .i64 0),(.int .i64 0),(.int .i64 0),(.int .i64 0)]),mz 5 0] (sr [mt 12 0,ma 13 275 [.t 12],ma 14 38 [.t 13],mt 6 14] z9j))) [.cell 4 7 true, .tmp 5] [0,0] [[],[]]),
 (311,fD 1 ((sr [mc 2 (.int .u64 0)] z9l)) [.tmp 2] [0] [[]]),
 (318,fD 2 ((sr [mz 4 0] (.seq (sr [mt 6 0,mh 7 6,mz 8 0] (bl 0 [0,1,7,8] z9n)) (sr [mc 4 (.int .i64 (-1))] .ret)))) [.tmp 4] [0,0] [[]]),
 (319,fI 3 ((sr [mz 6 0] (.seq (sr [mt 7 1] (.blk 0 (sr [mk 9 .eql 7 1,mt 8 9] z9r))) (sr [mt 58 6,mt 6 58] .ret)))) [.tmp 6] [0,0,0]),
 (320,fD 1 ((sr [mz 2 0] (sr [mt 6 0,ma 7 99 [.t 6],mt 5 7,me 8 5 0,me 9 5 1,mt 3 8,mt 4 9] z9s))) [.tmp 2] [0] [[]])]
abbrev T:Nat->Option MFun:=look tab
theorem vD (f:Nat) (md:List Nat) {mf:MFun} (h:T f=some mf:=by rfl) (hi:mf.inline=false:=by rfl) (hm:mf.modes=md:=by rfl) ⦃O:Orc⦄ ⦃H:Hp⦄ ⦃vs:List V⦄ :vcall T O f vs H=(args H md vs).bind fun p=>vk H p.2 md vs (O.deep f p.1):=vd h hi hm
theorem vI (f:Nat) {mf:MFun} (h:T f=some mf:=by rfl) (hi:mf.inline=true:=by rfl) ⦃O:Orc⦄ ⦃H:Hp⦄ ⦃vs:List V⦄ :vcall T O f vs H=ik (O.inl f vs H):=vi h hi
theorem iX (f:Nat) {np:Nat} {b:MC} {res:List MRes} {md:List Nat} {rets:List (List Nat)} {w:Bool} {p:Option (List V->Option (List V))} (h:T f=some ⟨np,b,res,true,md,rets,w,p,none⟩:=by rfl) ⦃n:Nat⦄ ⦃H:Hp⦄ ⦃vs:List V⦄ :(orc T (n+1)).inl f vs H=finI H.length w res (unw T (orc T n) n H.length [] (exec T (orc T n) n H.length b (params 0 vs) H)):=ix h
def z9t:= @df_of T zrf zrf [(5,1)] rfl
def z9u:=vD 4 [0,0,0]
def z9v:=vD 7 [0]
def z9w:= @df_of T zrs zrs [(1,6)] rfl
def z9x:=vD 8 [0,0]
def z9y:=vD 9 [0]
def z9z:=vD 15 []
def z90:=vI 16
def z91:=ai z90 (iX 16)
def z92:=vI 17
def z93:=ai z92 (iX 17)
def z94:=vI 18
def z95:=ai z94 (iX 18)
def z96:=vI 19
def z97:=ai z96 (iX 19)
def z98:=vD 20 [0,0]
def z99:=vD 21 [0,0]
def zbaa:= @df_of T zsh zsh [(5,3)] rfl
def zbab:=vI 22
def zbac:=ai zbab (iX 22)
def zbad:= @dr_of T zsj zsj [(1,10),(3,10),(4,10)] rfl (by decide)
def zbae:=vD 26 [0]
def zbaf:=vD 27 [0]
def zbag:=vD 28 [0]
def zbah:=vD 29 [0,0]
def zbai:=vD 30 [0,0]
def zbaj:=vD 31 [0]
def zbak:=vD 32 [0]
def zbal:=vD 38 [0]
def zbam:=vD 41 [2,0]
def zban:=vD 42 [0]
def zbao:= @df_of T ztf ztf [(5,8)] rfl
def zbap:=vD 43 [0]
def zbaq:=vD 52 [0]
def zbar:=vD 53 [0]
def zbas:=vI 54
def zbat:=ai zbas (iX 54)
def zbau:=vI 55
def zbav:=ai zbau (iX 55)
def zbaw:= @df_of T zul zul [(3,12),(5,12),(7,12)] rfl
def zbax:=vI 56
def zbay:=ai zbax (iX 56)
def zbaz:=vI 57
def zba0:=ai zbaz (iX 57)
def zba1:=vD 58 [0,0]
def zba2:=vD 59 [0]
def zba3:=vD 72 [0,0]
def zba4:=vD 73 [0]
def zba5:= @dr_of T zu6 zu6 [(10,13),(18,21)] rfl (by decide)
def zba6:=vD 74 [0]
def zba7:=vD 75 [0,0]
def zba8:= @df_of T zvb zvb [(4,2)] rfl
def zba9:=vD 76 [0,0]
def zbba:= @dr_of T zvj zvj [(1,6),(3,6)] rfl (by decide)
def zbbb:=vD 77 [0,0]
def zbbc:=ai (@df_of T zvo zvo [(0,5)] rfl)<| @dr_of T zvt zvt [(7,4)] rfl (by decide)
def zbbd:=vD 78 [0,0]
def zbbe:=vI 79
def zbbf:=ai zbbe (iX 79)
def zbbg:=vI 80
def zbbh:=ai zbbg (iX 80)
def zbbi:=vI 81
def zbbj:=ai zbbi (iX 81)
def zbbk:=vI 82
def zbbl:=ai zbbk (iX 82)
def zbbm:=vD 83 [4,0,4]
def zbbn:=vI 84
def zbbo:=ai zbbn (iX 84)
def zbbp:=vD 85 [0]
def zbbq:=vD 86 [0]
def zbbr:=vD 87 [0,0]
def zbbs:=vD 88 [0]
def zbbt:=vD 93 [2,0]
def zbbu:=vD 94 [2,0]
def zbbv:=vD 95 [0]
def zbbw:=vD 96 [0]
def zbbx:=vD 97 [0,0]
def zbby:=vD 98 [0]
def zbbz:=vD 99 [0]
def zbb0:=vD 100 [0,0]
def zbb1:=vD 101 [0]
def zbb2:= @df_of T zwn zwn [(5,3),(8,3),(9,3)] rfl
def zbb3:=vD 106 [0]
def zbb4:=vD 119 [0]
def zbb5:= @dr_of T zxe zxe [(4,1)] rfl (by decide)
def zbb6:=vD 120 [0]
def zbb7:= @df_of T zxn zxn [(9,5),(10,5),(11,5)] rfl
def zbb8:=vD 121 [0]
def zbb9:= @df_of T zxv zxv [(1,11),(4,11),(6,11)] rfl
def zbca:=vD 122 [0,0]
def zbcb:=vD 123 [0]
def zbcc:=vD 145 [2,0,0]
def zbcd:=vD 146 [0,0]
def zbce:=vD 147 [0,0]
def zbcf:=vD 148 [0,0,0]
def zbcg:= @dr_of T zyw zyw [(5,3)] rfl (by decide)
def zbch:=vD 149 [0,0]
def zbci:=vI 152
def zbcj:=ai zbci (iX 152)
def zbck:=vI 154
def zbcl:=ai zbck (iX 154)
def zbcm:=vD 155 [0]
def zbcn:=vD 156 [0,0]
def zbco:=vD 157 [0]
def zbcp:=vI 158
def zbcq:=ai zbcp (iX 158)
def zbcr:=vD 159 [0]
def zbcs:=vD 160 [0]
def zbct:=vD 163 [0]
def zbcu:=vD 164 [0]
def zbcv:= @df_of T zzl zzl [(5,3),(8,3),(8,6)] rfl
def zbcw:=vD 165 [2,0]
def zbcx:=vD 166 [0]
def zbcy:=vD 167 [0]
def zbcz:=vD 180 [0,0]
def zbc0:=vD 182 [0]
def zbc1:= @df_of T zz0 zz0 [(4,1),(5,1)] rfl
def zbc2:=vD 183 [0]
def zbc3:=vD 184 [0]
def zbc4:=vD 185 [0]
def zbc5:=vD 186 [0]
def zbc6:= @df_of T z0e z0e [(1,3),(7,3),(7,4),(7,9)] rfl
def zbc7:=vD 187 [0]
def zbc8:=vD 188 [0]
def zbc9:= @df_of T z0t z0t [(3,5)] rfl
def zbda:=vD 189 [0]
def zbdb:=vD 190 [0]
def zbdc:=vD 191 [0,0]
def zbdd:=vD 192 [0]
def zbde:=vD 193 [0,0]
def zbdf:=vD 194 [0,0]
def zbdg:=vD 195 [0]
def zbdh:=vD 196 [0]
def zbdi:=vD 197 [0]
def zbdj:=vD 198 [0]
def zbdk:=vD 209 [2,0,2]
def zbdl:=vD 211 [0,0]
def zbdm:=vD 212 []
def zbdn:=vI 213
def zbdo:=ai zbdn (iX 213)
def zbdp:=vD 214 [0]
def zbdq:=vI 220
def zbdr:=ai zbdq (iX 220)
def zbds:=vD 221 [0]
def zbdt:=vD 222 [0,0]
def zbdu:=vD 223 [0]
def zbdv:=vD 224 [0]
def zbdw:= @df_of T z2p z2p [(1,3),(1,4)] rfl
def zbdx:=vD 225 [0]
def zbdy:=vD 226 [0]
def zbdz:=vD 227 [0]
def zbd0:=vI 228
def zbd1:=ai zbd0 (iX 228)
def zbd2:=vD 229 [0,0,0]
def zbd3:=vD 230 [0]
def zbd4:=vD 231 [0,0]
def zbd5:= @dr_of T z3h z3h [(10,13),(18,21)] rfl (by decide)
def zbd6:=vD 232 [0]
def zbd7:=vD 233 [0,0]
def zbd8:=ai (@df_of T z3o z3o [(2,4),(3,4)] rfl)<| @df_of T z3q z3q [(4,6),(5,6)] rfl
def zbd9:=vD 234 [0,0]
def zbea:= @df_of T z3w z3w [(1,6),(3,6)] rfl
def zbeb:=vD 235 [0,0]
def zbec:=vD 236 [0,0]
def zbed:=vD 237 [0]
def zbee:=vD 238 [0]
def zbef:=vD 239 [0,0]
def zbeg:=vD 240 [0]
def zbeh:=vD 241 [0]
def zbei:= @df_of T z40 z40 [(6,2),(6,3)] rfl
def zbej:=vD 244 [0]
def zbek:= @df_of T z5e z5e [(6,12),(8,12)] rfl
def zbel:=vI 253
def zbem:=ai zbel (iX 253)
def zben:=vI 254
def zbeo:=ai zben (iX 254)
def zbep:=vI 255
def zbeq:=ai zbep (iX 255)
def zber:=vD 256 [0]
def zbes:=vD 257 [0,0]
def zbet:=vD 258 [0]
def zbeu:=vD 259 [0,0]
def zbev:=vD 260 [0,0]
def zbew:=vD 261 [0]
def zbex:=vD 262 [0,0]
def zbey:=vD 263 [0,0]
def zbez:=vD 264 [0,0,0]
def zbe0:=vD 265 [0,0]
def zbe1:=vD 266 [0]
def zbe2:=vD 267 [0]
def zbe3:=vD 268 [0]
def zbe4:=vD 270 [0]
def zbe5:=vD 275 [0]
def zbe6:= @df_of T z7h z7h [(8,2),(8,3)] rfl
def zbe7:=vD 277 [0,0]
def zbe8:=vI 278
def zbe9:=ai zbe8 (iX 278)
def zbfa:=vI 279
def zbfb:=ai zbfa (iX 279)
def zbfc:=vI 280
def zbfd:=ai zbfc (iX 280)
def zbfe:=vD 281 [0]
def zbff:= @df_of T z7p z7p [(0,9),(4,9)] rfl
def zbfg:=vD 282 [0]
def zbfh:=vD 283 [0,0]
def zbfi:= @df_of T z8c z8c [(3,14),(5,14)] rfl
def zbfj:=vD 284 [0]
def zbfk:=vD 285 [0]
def zbfl:= @df_of T z8j z8j [(0,4),(2,4),(2,6)] rfl
def zbfm:=vD 286 [0]
def zbfn:=vD 291 [0]
def zbfo:=vD 292 [0,0]
def zbfp:=vD 293 [0,0,0]
def zbfq:=vD 294 [0]
def zbfr:=vD 295 [0,0]
def zbfs:=vD 296 [0]
def zbft:=vD 297 [0,0]
def zbfu:=vD 298 [0,0]
def zbfv:=vD 310 [0,0]
def zbfw:=vD 311 [0]
def zbfx:=vD 318 [0,0]
def zbfy:=vI 319
def zbfz:=ai zbfy (iX 319)
def zbf0:=vD 320 [0]
end Go.Dvm.C
