/- The machine comes to these answers: part 3. -/
import Derived.Test.YtnppecdklidmmaaGreatQl0
import Derived.Test.YtnppecdklidmmaaGreatQr0
import Derived.Test.YtnppecdklidmmaaGreatQr1
set_option linter.all false
set_option maxRecDepth 100000
set_option maxHeartbeats 4000000
namespace Go.Dvm.C
open Go Go.Dvm Go.Dvm.I
instance zbpn (a0:Int) (a1:(Sl Int)) (a2:Int): ∀q,Aq q (zpz q a0 a1 a2) (Dp T 229 [(V.int .i64) a0,(Sl.enc (V.int .u8)) a1,(V.int .i64) a2] fun r=>[(Ow.enc 7 zkq.enc) r.1,V.bool r.2]):=snd (fun q=>zpz.eq_2 ..) (ai @zbes<| ai @zbet<| @zbeu)
def zbpo:=(ai @zbc9<| ai @zbd2<| ai @zbed<| @zbd1)
abbrev zbpp (q:Nat):Prop:= ∀(v0z:Bool) (v0l:List (Sl Int)) (v6 h1_0 h1_1:Int),Aq q (zp1 q v0z v0l v6 h1_0 h1_1) fun M r=> ∀A,some [(V.int .i64) r.1,zks.enc r.2.1,(V.int .i64) r.2.2.1,(V.int .i64) r.2.2.2]=A-> ∀j,q<=j->Lz T (M+7) 0 [0,3,6,7,9,10] [.blk 0, .code (.seq (.dreg z0t [(3,5)]) .ret)] z0s j (fin [.tmp 2, .cell 3 3 true, .tmp 4, .tmp 5] [[],[],[],[]]) [(0,(.sl v0z (List.map (Sl.enc (V.int .u8)) v0l))),(3,(.ptr 0 0)),(6,(.int .i64 v6)),(7,(.ptr 1 0)),(9,(.int .i64 16)),(10,(.int .i64 1))] [(.box [(.int .i64 0),(.int .i64 0),(.sl true [])]),(.box [(.int .i64 h1_0),(.int .i64 h1_1),(.sl true [])])] A
abbrev zbpq (q:Nat):Prop:= ∀(v0z:Bool) (v0l:List (Sl Int)) (v6 v9 v10 h1_0 h1_1:Int) (h2z:Bool) (h2l:List zkq),Aq q (zp0 q v0z v0l v6 v9 v10 h1_0 h1_1 h2z h2l) fun M r=> ∀A,some [(V.int .i64) r.1,zks.enc r.2.1,(V.int .i64) r.2.2.1,(V.int .i64) r.2.2.2]=A-> ∀j,q<=j->Lz T (M+7) 0 [0,3,6,7,9,10] [.blk 0, .code (.seq (.dreg z0t [(3,5)]) .ret)] z0s j (fin [.tmp 2, .cell 3 3 true, .tmp 4, .tmp 5] [[],[],[],[]]) [(0,(.sl v0z (List.map (Sl.enc (V.int .u8)) v0l))),(3,(.ptr 0 0)),(6,(.int .i64 v6)),(7,(.ptr 1 0)),(9,(.int .i64 v9)),(10,(.int .i64 v10))] [(.box [(.int .i64 0),(.int .i64 0),(.sl true [])]),(.box [(.int .i64 h1_0),(.int .i64 h1_1),(.vw 2 0 0 h2l.length 1)]),(.row 0 h2z 7 (List.map zkq.enc h2l) true)] A
theorem zbpr: ∀q,zbpp q/\zbpq q:=lpn @zbpo (ai @zp1.eq_2<| @zp0.eq_2)
instance zbps (q):zbpp q:=(zbpr q).1
instance zbpt (q):zbpq q:=(zbpr q).2
instance zbpu (a0:(Sl (Sl Int))): ∀q,Aq q (zp2 q a0) (Dp T 189 [(Sl.enc (Sl.enc (V.int .u8))) a0] fun r=>[(V.int .i64) r.1,zks.enc r.2.1,(V.int .i64) r.2.2.1,(V.int .i64) r.2.2.2]):=snd (fun q=>zp2.eq_2 ..) @zbpo
def zbpv:=trivial
abbrev zbpw (q:Nat):Prop:= ∀(v0 v1 v6:Int) (h0z:Bool) (h0l:List Int),Aq q (zp3 q v0 v1 v6 h0z h0l) fun M r=> ∀A,some [(Ow.enc 1 (V.int .u8)) r]=A-> ∀j,q<=j->Lz T (M+7) 0 [0,1,5,6] [.blk 0, .code (.seq (.reg [mt 20 5,mt 4 20]) .ret)] z6b j (fin [.tmp 4] [[2]]) [(0,(.int .u64 v0)),(1,(.int .i64 v1)),(5,(.vw 0 0 0 h0l.length 1)),(6,(.int .i64 v6))] [(.row 0 h0z 1 (List.map (V.int .u8) h0l) true)] A
instance zbpx: ∀q,zbpw q:=lp1 @zbpv @zp3.eq_2
instance zbpy (a0 a1:Int): ∀q,Aq q (zp4 q a0 a1) (Dp T 260 [(V.int .u64) a0,(V.int .i64) a1] fun r=>[(Ow.enc 1 (V.int .u8)) r]):=snd (fun q=>zp4.eq_2 ..) @zbpv
instance zbpz (a0:(Sl Int)): ∀q,Aq q (zp5 q a0) (Dp T 230 [(Sl.enc (V.int .u8)) a0] fun r=>[(Ow.enc 1 (V.int .u8)) r.1,(V.int .i64) r.2]):=snd (fun q=>zp5.eq_2 ..) (ai @zbdi<| ai @zbd4<| ai @zbef<| @zbev)
def zbp0:= @zbd3
abbrev zbp1 (q:Nat):Prop:= ∀(v0z:Bool) (v0l:List (Sl Int)) (v4:Int) (h0z:Bool) (h0l:List (Sl Int)),Aq q (zp6 q v0z v0l v4 h0z h0l) fun M r=> ∀A,some [(Ow.enc 1 (Sl.enc (V.int .u8))) r]=A-> ∀j,q<=j->Lz T (M+7) 0 [0,3,4] [.blk 0, .code (.seq (.reg [mt 25 3,mt 2 25]) .ret)] z0x j (fin [.tmp 2] [[2]]) [(0,(.sl v0z (List.map (Sl.enc (V.int .u8)) v0l))),(3,(.vw 0 0 0 h0l.length 1)),(4,(.int .i64 v4))] [(.row 0 h0z 1 (List.map (Sl.enc (V.int .u8)) h0l) true)] A
instance zbp2: ∀q,zbp1 q:=lp1 @zbp0 @zp6.eq_2
instance zbp3 (a0:(Sl (Sl Int))): ∀q,Aq q (zp7 q a0) (Dp T 190 [(Sl.enc (Sl.enc (V.int .u8))) a0] fun r=>[(Ow.enc 1 (Sl.enc (V.int .u8))) r]):=snd (fun q=>zp7.eq_2 ..) @zbp0
def zbp4:= @zbd4
abbrev zbp5 (q:Nat):Prop:= ∀(v1z:Bool) (v1l:List (Sl Int)) (v6 v7:Int) (h0z:Bool) (h0l:List Int) (h0x:Bool),Aq q (zp8 q v1z v1l v6 v7 h0z h0l h0x) fun M r=> ∀A,some [(Ow.enc 1 (V.int .u8)) r]=A-> ∀j,q<=j->Lz T (M+7) 0 [1,5,6,7] [.blk 0, .code (.seq (.reg [mt 27 5,mt 4 27]) .ret)] z0z j (fin [.tmp 4] [[2]]) [(1,(.sl v1z (List.map (Sl.enc (V.int .u8)) v1l))),(5,(.vw 0 0 0 h0l.length 1)),(6,(.int .i64 v6)),(7,(.int .i64 v7))] [(.row 0 h0z 1 (List.map (V.int .u8) h0l) h0x)] A
instance zbp6: ∀q,zbp5 q:=lp1 @zbp4 @zp8.eq_2
instance zbp7 (a0:(Sl Int)) (a1:(Sl (Sl Int))): ∀q,Aq q (zp9 q a0 a1) (Dp T 191 [(Sl.enc (V.int .u8)) a0,(Sl.enc (Sl.enc (V.int .u8))) a1] fun r=>[(Ow.enc 1 (V.int .u8)) r]):=snd (fun q=>zp9.eq_2 ..) @zbp4
instance zbp8 (a0:(Sl Int)): ∀q,Aq q (zqa q a0) (Dp T 121 [(Sl.enc (V.int .u8)) a0] fun r=>[zks.enc r.1,(V.int .i64) r.2]):=snd (fun q=>zqa.eq_2 ..) (ai @zbb7<| ai @zbc8<| ai @zbda<| ai @zbdb<| @zbdc)
instance zbp9 (a0:zkm) (a1:zkp): ∀q,Aq q (zqb q a0 a1) (Dp T 233 [zkm.enc a0,zkp.enc a1] fun r=>[zkm.enc r.1,(V.int .i64) r.2]):=snd (fun q=>zqb.eq_2 ..) @zba4
instance zbqa (a0:zkm) (a1:zkp): ∀q,Aq q (zqc q a0 a1) (Dp T 234 [zkm.enc a0,zkp.enc a1] fun r=>[zkm.enc r.1,(V.int .i64) r.2]):=snd (fun q=>zqc.eq_2 ..) (ai @zbd8<| @zba4)
def zbqb:=trivial
abbrev zbqc (q:Nat):Prop:= ∀(v0z:Bool) (v0l:List Int) (v1 v5:Int),Aq q (zqd q v0z v0l v1 v5) fun M r=> ∀A,some [(V.int .i64) r]=A-> ∀j,q<=j->Lz T (M+7) 0 [0,1,5] [.blk 0, .code (.seq (.reg [mc 4 (.int .i64 (-1))]) .ret)] z6g j (fin [.tmp 4] [[]]) [(0,(.sl v0z (List.map (V.int .i64) v0l))),(1,(.int .i64 v1)),(5,(.int .i64 v5))] [] A
instance zbqd: ∀q,zbqc q:=lp1 @zbqb @zqd.eq_2
instance zbqe (a0:(Sl Int)) (a1:Int): ∀q,Aq q (zqe q a0 a1) (Dp T 262 [(Sl.enc (V.int .i64)) a0,(V.int .i64) a1] fun r=>[(V.int .i64) r]):=snd (fun q=>zqe.eq_2 ..) @zbqb
def zbqf:=trivial
abbrev zbqg (q:Nat):Prop:= ∀(v0z:Bool) (v0l:List Int) (v1 v6:Int) (h0z:Bool) (h0l:List Int),Aq q (zqf q v0z v0l v1 v6 h0z h0l) fun M r=> ∀A,some [(Ow.enc 1 (V.int .i64)) r]=A-> ∀j,q<=j->Lz T (M+7) 0 [0,1,5,6] [.blk 0, .code (.seq (.reg [mt 34 5,mt 4 34]) .ret)] z6i j (fin [.tmp 4] [[2]]) [(0,(.sl v0z (List.map (V.int .i64) v0l))),(1,(.int .i64 v1)),(5,(.vw 0 0 0 h0l.length 1)),(6,(.int .i64 v6))] [(.row 0 h0z 1 (List.map (V.int .i64) h0l) true)] A
instance zbqh: ∀q,zbqg q:=lp1 @zbqf @zqf.eq_2
instance zbqi (a0:(Sl Int)) (a1:Int): ∀q,Aq q (zqg q a0 a1) (Dp T 263 [(Sl.enc (V.int .i64)) a0,(V.int .i64) a1] fun r=>[(Ow.enc 1 (V.int .i64)) r]):=snd (fun q=>zqg.eq_2 ..) @zbqf
def zbqj:=trivial
abbrev zbqk (q:Nat):Prop:= ∀(v0z:Bool) (v0l:List Int) (v1 v2:Int) (v8:Bool) (v9:Int) (h0z:Bool) (h0l:List Int),Aq q (zqh q v0z v0l v1 v2 v8 v9 h0z h0l) fun M r=> ∀A,some [(Ow.enc 1 (V.int .i64)) r]=A-> ∀j,q<=j->Lz T (M+7) 0 [0,1,2,7,8,9] [.blk 0, .code (.seq (.seq (.reg [mt 55 8,mo 56 (.un .not (.t 55))]) z6n) (.seq (.reg [mt 65 7,mt 6 65]) .ret))] z6m j (fin [.tmp 6] [[2]]) [(0,(.sl v0z (List.map (V.int .i64) v0l))),(1,(.int .i64 v1)),(2,(.int .i64 v2)),(7,(.vw 0 0 0 h0l.length 1)),(8,(.bool v8)),(9,(.int .i64 v9))] [(.row 0 h0z 1 (List.map (V.int .i64) h0l) true)] A
instance zbql: ∀q,zbqk q:=lp1 @zbqj @zqh.eq_2
instance zbqm (a0:(Sl Int)) (a1 a2:Int): ∀q,Aq q (zqi q a0 a1 a2) (Dp T 264 [(Sl.enc (V.int .i64)) a0,(V.int .i64) a1,(V.int .i64) a2] fun r=>[(Ow.enc 1 (V.int .i64)) r]):=snd (fun q=>zqi.eq_2 ..) @zbqj
instance zbqn (a0:zkm) (a1:zkp): ∀q,Aq q (zqj q a0 a1) (Dp T 235 [zkm.enc a0,zkp.enc a1] fun r=>[zkm.enc r.1,(V.int .i64) r.2]):=snd (fun q=>zqj.eq_2 ..) (ai @zbea<| ai @zba4<| ai @zbex<| ai @zbey<| @zbez)
instance zbqo (a0:zkm) (a1:zkp): ∀q,Aq q (zqk q a0 a1) (Dp T 265 [zkm.enc a0,zkp.enc a1] fun r=>[zkm.enc r.1,(V.int .i64) r.2]):=snd (fun q=>zqk.eq_2 ..) (ai @zbex<| @zbez)
instance zbqp (a0:zkm) (a1:zkp): ∀q,Aq q (zql q a0 a1) (Dp T 236 [zkm.enc a0,zkp.enc a1] fun r=>[zkm.enc r.1,(V.int .i64) r.2]):=snd (fun q=>zql.eq_2 ..) (ai @zba4<| ai @zbex<| ai @zbez<| @zbe0)
instance zbqq (a0:zkm) (a1:zkp): ∀q,Aq q (zqm q a0 a1) (Dp T 193 [zkm.enc a0,zkp.enc a1] fun r=>[zkm.enc r.1,(V.int .i64) r.2]):=snd (fun q=>zqm.eq_2 ..) (ai @zbae<| ai @zbd7<| ai @zbd9<| ai @zbeb<| @zbec)
def zbqr:=trivial
abbrev zbqs (q:Nat):Prop:= ∀(v0z:Bool) (v0l:List zkn) (v6:Bool) (v7 h0_0 h0_1 h0_2 h0_3 h0_4 h0_5 h0_6:Int) (h1z:Bool) (h1l:List zkn),Aq q (zqn q v0z v0l v6 v7 h0_0 h0_1 h0_2 h0_3 h0_4 h0_5 h0_6 h1z h1l) fun M r=> ∀A,some [(Ow.enc 3 zkn.enc) r]=A-> ∀j,q<=j->Lz T (M+7) 0 [0,3,5,6,7] [.blk 0, .code (.seq (.seq (.reg [mt 51 6,mo 52 (.un .not (.t 51))]) z1g) (.seq (.reg [mt 63 5,mt 4 63]) .ret))] z1f j (fin [.tmp 4] [[4]]) [(0,(.sl v0z (List.map zkn.enc v0l))),(3,(.ptr 0 0)),(5,(.vw 1 0 0 h1l.length 1)),(6,(.bool v6)),(7,(.int .i64 v7))] [(.box [(.int .i64 h0_0),(.int .i64 h0_1),(.int .i64 h0_2),(.int .i64 h0_3),(.int .i64 h0_4),(.int .i64 h0_5),(.int .i64 h0_6)]),(.row 0 h1z 3 (List.map zkn.enc h1l) true)] A
instance zbqt: ∀q,zbqs q:=lp1 @zbqr @zqn.eq_2
instance zbqu (a0:(Sl zkn)) (a1:zkq): ∀q,Aq q (zqo q a0 a1) (Dp T 194 [(Sl.enc zkn.enc) a0,zkq.enc a1] fun r=>[(Ow.enc 3 zkn.enc) r]):=snd (fun q=>zqo.eq_2 ..) @zbqr
def zbqv:=(ai @zbb9<| ai @zbdd<| ai @zbde<| @zbdf)
abbrev zbqw (q:Nat):Prop:= ∀(v1z:Bool) (v1l:List zkq) (h0_0 h0_1:Int) (h0_2z:Bool) (h0_2l:List Int) (h0_3:Bool) (h0_4:Int) (h0_5z:Bool) (h0_5l:List zkn),Aq q (zqq q v1z v1l h0_0 h0_1 h0_2z h0_2l h0_3 h0_4 h0_5z h0_5l) fun M r=> ∀A,some [zko.enc r.1,(V.int .i64) r.2]=A-> ∀j,q<=j->Lz T (M+7) 0 [1,2,4,6] [.blk 0, .code (.seq (.reg [mo 62 (.load (.t 2) 6 true),ms 4 62 6,mz 5 0]) .ret)] zx0 j (fin [.cell 4 6 true, .tmp 5] [[],[]]) [(1,(.sl v1z (List.map zkq.enc v1l))),(2,(.ptr 0 0)),(4,(.ptr 1 0)),(6,(.int .i64 0))] [(.box [(.int .i64 h0_0),(.int .i64 h0_1),(.sl h0_2z (List.map (V.int .i64) h0_2l)),(.bool h0_3),(.int .i64 h0_4),(.sl h0_5z (List.map zkn.enc h0_5l))]),(.box [(.int .i64 0),(.int .i64 0),(.sl true []),(.bool false),(.int .i64 0),(.sl true [])])] A
abbrev zbqx (q:Nat):Prop:= ∀(v1z:Bool) (v1l:List zkq) (v6 h0_0 h0_1:Int) (h0_2z:Bool) (h0_2l:List Int) (h0_3:Bool) (h0_4:Int) (h2z:Bool) (h2l:List zkn) (h2x:Bool),Aq q (zqp q v1z v1l v6 h0_0 h0_1 h0_2z h0_2l h0_3 h0_4 h2z h2l h2x) fun M r=> ∀A,some [zko.enc r.1,(V.int .i64) r.2]=A-> ∀j,q<=j->Lz T (M+7) 0 [1,2,4,6] [.blk 0, .code (.seq (.reg [mo 62 (.load (.t 2) 6 true),ms 4 62 6,mz 5 0]) .ret)] zx0 j (fin [.cell 4 6 true, .tmp 5] [[],[]]) [(1,(.sl v1z (List.map zkq.enc v1l))),(2,(.ptr 0 0)),(4,(.ptr 1 0)),(6,(.int .i64 v6))] [(.box [(.int .i64 h0_0),(.int .i64 h0_1),(.sl h0_2z (List.map (V.int .i64) h0_2l)),(.bool h0_3),(.int .i64 h0_4),(.vw 2 0 0 h2l.length 1)]),(.box [(.int .i64 0),(.int .i64 0),(.sl true []),(.bool false),(.int .i64 0),(.sl true [])]),(.row 0 h2z 3 (List.map zkn.enc h2l) h2x)] A
theorem zbqy: ∀q,zbqw q/\zbqx q:=lpn @zbqv (ai @zqq.eq_2<| @zqp.eq_2)
instance zbqz (q):zbqw q:=(zbqy q).1
instance zbq0 (q):zbqx q:=(zbqy q).2
instance zbq1 (a0:zko) (a1:(Sl zkq)): ∀q,Aq q (zqr q a0 a1) (Dp T 122 [zko.enc a0,(Sl.enc zkq.enc) a1] fun r=>[zko.enc r.1,(V.int .i64) r.2]):=snd (fun q=>zqr.eq_2 ..) @zbqv
instance zbq2 (a0:(Sl Int)): ∀q,Aq q (zqs q a0) (Dp T 195 [(Sl.enc (V.int .u8)) a0] fun r=>[(V.int .i64) r.1,(V.int .i64) r.2.1,(V.int .u64) r.2.2.1,(V.int .i64) r.2.2.2]):=snd (fun q=>zqs.eq_2 ..) (ai @zbed<| @zbee)
def zbq3:=trivial
abbrev zbq4 (q:Nat):Prop:= ∀(v0z:Bool) (v0l:List (Sl Int)) (v3:Int),Aq q (zqt q v0z v0l v3) fun M r=> ∀A,some [V.bool r]=A-> ∀j,q<=j->Lz T (M+7) 0 [0,3] [.blk 0, .code (.seq (.reg [mc 2 (.bool true)]) .ret)] z1q j (fin [.tmp 2] [[]]) [(0,(.sl v0z (List.map (Sl.enc (V.int .u8)) v0l))),(3,(.int .i64 v3))] [] A
instance zbq5: ∀q,zbq4 q:=lp1 @zbq3 @zqt.eq_2
instance zbq6 (a0:(Sl (Sl Int))): ∀q,Aq q (zqu q a0) (Dp T 196 [(Sl.enc (Sl.enc (V.int .u8))) a0] fun r=>[V.bool r]):=snd (fun q=>zqu.eq_2 ..) @zbq3
def zbq7:=(ai @zbae<| ai @zbed<| @zbe3)
abbrev zbq8 (q:Nat):Prop:= ∀(v0z:Bool) (v0l:List Int) (v8 v11 h1_0:Int) (h1_2:Bool) (h1_3:Int),Aq q (zqw q v0z v0l v8 v11 h1_0 h1_2 h1_3) fun M r=> ∀A,some [zkm.enc r.1,(V.int .i64) r.2]=A-> ∀j,q<=j->Lz T (M+7) 0 [0,2,8,10,11,12] [.blk 0, .code z4m] z4k j (fin [.cell 2 4 true, .tmp 3] [[],[]]) [(0,(.sl v0z (List.map (V.int .u8) v0l))),(2,(.ptr 0 0)),(8,(.int .i64 v8)),(10,(.ptr 1 0)),(11,(.int .i64 v11)),(12,(.int .i64 0))] [(.box [(.int .i64 0),(.sl true []),(.bool false),(.int .i64 0)]),(.box [(.int .i64 h1_0),(.sl true []),(.bool h1_2),(.int .i64 h1_3)])] A
abbrev zbq9 (q:Nat):Prop:= ∀(v0z:Bool) (v0l:List Int) (v8 v11 v12 h1_0:Int) (h1_2:Bool) (h1_3:Int) (h2l:List Int),Aq q (zqv q v0z v0l v8 v11 v12 h1_0 h1_2 h1_3 h2l) fun M r=> ∀A,some [zkm.enc r.1,(V.int .i64) r.2]=A-> ∀j,q<=j->Lz T (M+7) 0 [0,2,8,10,11,12] [.blk 0, .code z4m] z4k j (fin [.cell 2 4 true, .tmp 3] [[],[]]) [(0,(.sl v0z (List.map (V.int .u8) v0l))),(2,(.ptr 0 0)),(8,(.int .i64 v8)),(10,(.ptr 1 0)),(11,(.int .i64 v11)),(12,(.int .i64 v12))] [(.box [(.int .i64 0),(.sl true []),(.bool false),(.int .i64 0)]),(.box [(.int .i64 h1_0),(.vw 2 0 0 h2l.length 1),(.bool h1_2),(.int .i64 h1_3)]),(.row 0 false 1 (List.map (V.int .i64) h2l) true)] A
theorem zbra: ∀q,zbq8 q/\zbq9 q:=lpn @zbq7 (ai @zqw.eq_2<| @zqv.eq_2)
instance zbrb (q):zbq8 q:=(zbra q).1
instance zbrc (q):zbq9 q:=(zbra q).2
instance zbrd (a0:(Sl Int)): ∀q,Aq q (zqx q a0) (Dp T 240 [(Sl.enc (V.int .u8)) a0] fun r=>[zkm.enc r.1,(V.int .i64) r.2]):=snd (fun q=>zqx.eq_2 ..) @zbq7
def zbre:=(ai @zbed<| @zbe3)
abbrev zbrf (q:Nat):Prop:= ∀(v0z:Bool) (v0l:List Int) (v4 v5 v7:Int) (h0z:Bool) (h0l:List zkn),Aq q (zqy q v0z v0l v4 v5 v7 h0z h0l) fun M r=> ∀A,some [(Ow.enc 3 zkn.enc) r.1,V.bool r.2]=A-> ∀j,q<=j->Lz T (M+7) 0 [0,4,5,6,7] [.blk 0, .code (.seq (.reg [mt 83 6,mt 84 5,mt 85 0,mh 86 85,mb 87 .eql 84 86,mt 2 83,mt 3 87]) .ret)] z4x j (fin [.tmp 2, .tmp 3] [[4],[]]) [(0,(.sl v0z (List.map (V.int .u8) v0l))),(4,(.int .i64 v4)),(5,(.int .i64 v5)),(6,(.vw 0 0 0 h0l.length 1)),(7,(.int .i64 v7))] [(.row 0 h0z 3 (List.map zkn.enc h0l) true)] A
instance zbrg: ∀q,zbrf q:=lp1 @zbre @zqy.eq_2
instance zbrh (a0:(Sl Int)): ∀q,Aq q (zqz q a0) (Dp T 241 [(Sl.enc (V.int .u8)) a0] fun r=>[(Ow.enc 3 zkn.enc) r.1,V.bool r.2]):=snd (fun q=>zqz.eq_2 ..) @zbre
instance zbri (a0:(Sl Int)): ∀q,Aq q (zq0 q a0) (Dp T 198 [(Sl.enc (V.int .u8)) a0] fun r=>[zko.enc r.1,(V.int .i64) r.2]):=snd (fun q=>zq0.eq_2 ..) (ai @zbed<| ai @zbeg<| @zbeh)
def zbrj:=(ai @z9v<| ai @zbc8<| ai @zbdg<| ai @zbdh<| ai @zbdi<| @zbdj)
abbrev zbrk (q:Nat):Prop:= ∀(v7 v8 v9 v12:Int) (h2z:Bool) (h2l:List (Sl Int)) (h2x h3z:Bool) (h3l:List Int),Aq q (zq1 q v7 v8 v9 v12 h2z h2l h2x h3z h3l) fun M r=> ∀A,some [zko.enc r.1,(V.int .i64) r.2]=A-> ∀j,q<=j->Lz T (M+7) 0 [2,4,5,7,8,9,11,12] [.blk 0, .code zx8] zx2 j (fin [.cell 2 6 true, .tmp 3] [[],[]]) [(2,(.ptr 0 0)),(4,(.ptr 1 0)),(5,(.vw 2 0 0 h2l.length 1)),(7,(.int .i64 v7)),(8,(.int .i64 v8)),(9,(.int .u64 v9)),(11,(.vw 3 0 0 h3l.length 1)),(12,(.int .i64 v12))] [(.box [(.int .i64 0),(.int .i64 0),(.sl true []),(.bool false),(.int .i64 0),(.sl true [])]),(.box [(.int .i64 0),(.int .i64 0),(.sl true []),(.bool false),(.int .i64 0),(.sl true [])]),(.row 0 h2z 1 (List.map (Sl.enc (V.int .u8)) h2l) h2x),(.row 0 h3z 1 (List.map (V.int .u8) h3l) true)] A
instance zbrl: ∀q,zbrk q:=lp1 @zbrj @zq1.eq_2
instance zbrm (a0:(Sl Int)): ∀q,Aq q (zq2 q a0) (Dp T 123 [(Sl.enc (V.int .u8)) a0] fun r=>[zko.enc r.1,(V.int .i64) r.2]):=snd (fun q=>zq2.eq_2 ..) @zbrj
instance zbrn (a0 a1:zku): ∀q,Aq q (zq3 q a0 a1) (Dp T 20 [zku.enc a0,zku.enc a1] fun r=>[V.bool r]):=snd (fun q=>zq3.eq_2 ..) trivial
def zbro:=trivial
abbrev zbrp (q:Nat):Prop:= ∀(v5 h0_0:Int) (h0_1z:Bool) (h0_1l:List Int) (h0_2:Bool) (h0_3 h1_0:Int) (h1_1z:Bool) (h1_1l:List Int) (h1_2:Bool) (h1_3:Int),Aq q (zq4 q v5 h0_0 h0_1z h0_1l h0_2 h0_3 h1_0 h1_1z h1_1l h1_2 h1_3) fun M r=> ∀A,some [V.bool r]=A-> ∀j,q<=j->Lz T (M+7) 0 [2,3,5] [.blk 0, .code (.seq (.reg [mc 4 (.bool true)]) .ret)] zuv j (fin [.tmp 4] [[]]) [(2,(.ptr 0 0)),(3,(.ptr 1 0)),(5,(.int .i64 v5))] [(.box [(.int .i64 h0_0),(.sl h0_1z (List.map (V.int .i64) h0_1l)),(.bool h0_2),(.int .i64 h0_3)]),(.box [(.int .i64 h1_0),(.sl h1_1z (List.map (V.int .i64) h1_1l)),(.bool h1_2),(.int .i64 h1_3)])] A
instance zbrq: ∀q,zbrp q:=lp1 @zbro @zq4.eq_2
instance zbrr (a0 a1:zkm): ∀q,Aq q (zq5 q a0 a1) (Dp T 58 [zkm.enc a0,zkm.enc a1] fun r=>[V.bool r]):=snd (fun q=>zq5.eq_2 ..) @zbro
def zbrs:= @zba1
abbrev zbrt (q:Nat):Prop:= ∀(v6 h0_0 h0_1:Int) (h0_2z:Bool) (h0_2l:List Int) (h0_3:Bool) (h0_4:Int) (h0_5z:Bool) (h0_5l:List zkn) (h1_0 h1_1:Int) (h1_2z:Bool) (h1_2l:List Int) (h1_3:Bool) (h1_4:Int) (h1_5z:Bool) (h1_5l:List zkn),Aq q (zq6 q v6 h0_0 h0_1 h0_2z h0_2l h0_3 h0_4 h0_5z h0_5l h1_0 h1_1 h1_2z h1_2l h1_3 h1_4 h1_5z h1_5l) fun M r=> ∀A,some [V.bool r]=A-> ∀j,q<=j->Lz T (M+7) 0 [2,3,6] [.blk 0, .code (.seq (.reg [mc 4 (.bool true)]) .ret)] zsf j (fin [.tmp 4] [[]]) [(2,(.ptr 0 0)),(3,(.ptr 1 0)),(6,(.int .i64 v6))] [(.box [(.int .i64 h0_0),(.int .i64 h0_1),(.sl h0_2z (List.map (V.int .i64) h0_2l)),(.bool h0_3),(.int .i64 h0_4),(.sl h0_5z (List.map zkn.enc h0_5l))]),(.box [(.int .i64 h1_0),(.int .i64 h1_1),(.sl h1_2z (List.map (V.int .i64) h1_2l)),(.bool h1_3),(.int .i64 h1_4),(.sl h1_5z (List.map zkn.enc h1_5l))])] A
instance zbru: ∀q,zbrt q:=lp1 @zbrs @zq6.eq_2
instance zbrv (a0 a1:zko): ∀q,Aq q (zq7 q a0 a1) (Dp T 21 [zko.enc a0,zko.enc a1] fun r=>[V.bool r]):=snd (fun q=>zq7.eq_2 ..) @zbrs
def zbrw:=ai @kk<| ai @ke<| ai @kn<| ai @z9x<| ai @zbb4<| ai @zbb6<| ai @zbat<| @zbav
theorem zbrx: ∀(q M:Nat),8*q<=M-> ∀(v1_0 v1_1 v1_2 v1_3:Int),∀(v1_4z:Bool),∀(v1_4l:List Int),∀(h0_0 h0_1 h0_2 h0_3:Int),∀(h0_4z:Bool),∀(h0_4l:List Int),∀(h0_5:Bool),∀(h0_6:Int),∀(h0_7z:Bool),∀(h0_7l:List zkn),∀(h1_0 h1_1 h1_2 h1_3:Int),∀(h1_4z:Bool),∀(h1_4l:List Int),∀(h1_5:Bool),∀(h1_6:Int),∀(h1_7z:Bool),∀(h1_7l:List zkn),∀(r:Int×Int×Int×Int×Bool×(List Int)×Bool×Int×Bool×(List zkn)),zq8 q v1_0 v1_1 v1_2 v1_3 v1_4z v1_4l h0_0 h0_1 h0_2 h0_3 h0_4z h0_4l h0_5 h0_6 h0_7z h0_7l h1_0 h1_1 h1_2 h1_3 h1_4z h1_4l h1_5 h1_6 h1_7z h1_7l=some r->(orc T (M+7)).inl 18 [(.ptr 0 0),(.agg [(.int .i64 v1_0),(.int .i64 v1_1),(.int .i64 v1_2),(.int .i64 v1_3),(.sl v1_4z (List.map (V.int .u8) v1_4l))])] [(.box [(.int .i64 h0_0),(.int .i64 h0_1),(.int .i64 h0_2),(.int .i64 h0_3),(.sl h0_4z (List.map (V.int .i64) h0_4l)),(.bool h0_5),(.int .i64 h0_6),(.sl h0_7z (List.map zkn.enc h0_7l))]),(.box [(.int .i64 h1_0),(.int .i64 h1_1),(.int .i64 h1_2),(.int .i64 h1_3),(.sl h1_4z (List.map (V.int .i64) h1_4l)),(.bool h1_5),(.int .i64 h1_6),(.sl h1_7z (List.map zkn.enc h1_7l))])]=(some ([(.agg [(.int .i64 h0_0),(.int .i64 v1_0),(.int .i64 1),(.int .i64 r.1),(.sl true [])]),(.int .i64 r.2.1)],[(.box [(.int .i64 h0_0),(.int .i64 h0_1),(.int .i64 r.2.2.1),(.int .i64 r.2.2.2.1),(.sl r.2.2.2.2.1 (List.map (V.int .i64) r.2.2.2.2.2.1)),(.bool r.2.2.2.2.2.2.1),(.int .i64 r.2.2.2.2.2.2.2.1),(.sl r.2.2.2.2.2.2.2.2.1 (List.map zkn.enc r.2.2.2.2.2.2.2.2.2))]),(.box [(.int .i64 h1_0),(.int .i64 h1_1),(.int .i64 h1_2),(.int .i64 h1_3),(.sl h1_4z (List.map (V.int .i64) h1_4l)),(.bool h1_5),(.int .i64 h1_6),(.sl h1_7z (List.map zkn.enc h1_7l))])]):Option (List V×Hp)):=by
 intro q M hM v1_0 v1_1 v1_2 v1_3 v1_4z v1_4l h0_0 h0_1 h0_2 h0_3 h0_4z h0_4l h0_5 h0_6 h0_7z h0_7l h1_0 h1_1 h1_2 h1_3 h1_4z h1_4l h1_5 h1_6 h1_7z h1_7l r h
 rcases q with _ | q
 ·cases h
 refine byR fun R hR=>?_
 rw [z95.2 (n:=M+6)]
 rw [zq8] at h
 repeat' (first | (cases h;done) | (replace h:=bn h;obtain ⟨_,h⟩:=h) | (replace h:=br h;rcases h with ⟨_,h⟩ | ⟨_,h⟩) | (replace h:=ob h;obtain ⟨_,g,h⟩:=h;first | (replace g:=us1 (q:=q) (M:=M) (by omega) g 5;try simp only [kf,simprocAttr] at g) | skip))
 all_goals (cases h;subst hR;simp only [zbrw,simprocAttr, *])
def zbry:=ai @kk<| ai @ke<| ai @kn<| ai @zbaw<| ai @zbb8<| @zbca
theorem zbrz: ∀(q M:Nat),8*q<=M-> ∀(v1z:Bool),∀(v1l:List Int),∀(h0_0 h0_1 h0_2 h0_3:Int),∀(h0_4z:Bool),∀(h0_4l:List Int),∀(h0_5:Bool),∀(h0_6:Int),∀(h0_7z:Bool),∀(h0_7l:List zkn),∀(h1_0 h1_1 h1_2 h1_3:Int),∀(h1_4z:Bool),∀(h1_4l:List Int),∀(h1_5:Bool),∀(h1_6:Int),∀(h1_7z:Bool),∀(h1_7l:List zkn),∀(h2_0 h2_1 h2_3 h3_0 h3_1 h3_2 h3_3:Int),∀(h3_4z:Bool),∀(h3_4l:List Int),∀(r:Int×Int×Int×Bool×(List Int)×Bool×Int×Bool×(List zkn)),zq9 q v1z v1l h0_0 h0_1 h0_2 h0_3 h0_4z h0_4l h0_5 h0_6 h0_7z h0_7l h1_0 h1_1 h1_2 h1_3 h1_4z h1_4l h1_5 h1_6 h1_7z h1_7l h2_0 h2_1 h2_3 h3_0 h3_1 h3_2 h3_3 h3_4z h3_4l=some r->(orc T (M+6)).inl 56 [(.ptr 1 0),(.sl v1z (List.map (V.int .u8) v1l))] [(.box [(.int .i64 h0_0),(.int .i64 h0_1),(.int .i64 h0_2),(.int .i64 h0_3),(.sl h0_4z (List.map (V.int .i64) h0_4l)),(.bool h0_5),(.int .i64 h0_6),(.sl h0_7z (List.map zkn.enc h0_7l))]),(.box [(.int .i64 h1_0),(.int .i64 h1_1),(.int .i64 h1_2),(.int .i64 h1_3),(.sl h1_4z (List.map (V.int .i64) h1_4l)),(.bool h1_5),(.int .i64 h1_6),(.sl h1_7z (List.map zkn.enc h1_7l))]),(.box [(.int .i64 h2_0),(.int .i64 h2_1),(.int .i64 1),(.int .i64 h2_3),(.sl true [])]),(.box [(.int .i64 h3_0),(.int .i64 h3_1),(.int .i64 h3_2),(.int .i64 h3_3),(.sl h3_4z (List.map (V.int .u8) h3_4l))]),(.box [(.int .i64 0),(.int .i64 0),(.int .i64 0),(.int .i64 0),(.sl true [])])]=(some ([(.int .i64 r.1)],[(.box [(.int .i64 h0_0),(.int .i64 h0_1),(.int .i64 h0_2),(.int .i64 h0_3),(.sl h0_4z (List.map (V.int .i64) h0_4l)),(.bool h0_5),(.int .i64 h0_6),(.sl h0_7z (List.map zkn.enc h0_7l))]),(.box [(.int .i64 h1_0),(.int .i64 h1_1),(.int .i64 r.2.1),(.int .i64 r.2.2.1),(.sl r.2.2.2.1 (List.map (V.int .i64) r.2.2.2.2.1)),(.bool r.2.2.2.2.2.1),(.int .i64 r.2.2.2.2.2.2.1),(.sl r.2.2.2.2.2.2.2.1 (List.map zkn.enc r.2.2.2.2.2.2.2.2))]),(.box [(.int .i64 h2_0),(.int .i64 h2_1),(.int .i64 1),(.int .i64 h2_3),(.sl true [])]),(.box [(.int .i64 h3_0),(.int .i64 h3_1),(.int .i64 h3_2),(.int .i64 h3_3),(.sl h3_4z (List.map (V.int .u8) h3_4l))]),(.box [(.int .i64 0),(.int .i64 0),(.int .i64 0),(.int .i64 0),(.sl true [])])]):Option (List V×Hp)):=by
 intro q M hM v1z v1l h0_0 h0_1 h0_2 h0_3 h0_4z h0_4l h0_5 h0_6 h0_7z h0_7l h1_0 h1_1 h1_2 h1_3 h1_4z h1_4l h1_5 h1_6 h1_7z h1_7l h2_0 h2_1 h2_3 h3_0 h3_1 h3_2 h3_3 h3_4z h3_4l r h
 rcases q with _ | q
 ·cases h
 refine byR fun R hR=>?_
 rw [zbay.2 (n:=M+5)]
 rw [zq9] at h
 repeat' (first | (cases h;done) | (replace h:=bn h;obtain ⟨_,h⟩:=h) | (replace h:=br h;rcases h with ⟨_,h⟩ | ⟨_,h⟩) | (replace h:=ob h;obtain ⟨_,g,h⟩:=h;first | (replace g:=us1 (q:=q) (M:=M) (by omega) g 5;try simp only [kf,simprocAttr] at g) | skip))
 all_goals (cases h;subst hR;simp only [zbry,simprocAttr, *])
def zbr0:=ai @kk<| ai @ke<| ai @kn<| ai @zbax<| ai @zbcb<| @zba0
theorem zbr1: ∀(q M:Nat),8*q<=M-> ∀(v1_0 v1_1 v1_2 v1_3:Int),∀(v1_4z:Bool),∀(v1_4l:List Int),∀(h0_0 h0_1 h0_2 h0_3:Int),∀(h0_4z:Bool),∀(h0_4l:List Int),∀(h0_5:Bool),∀(h0_6:Int),∀(h0_7z:Bool),∀(h0_7l:List zkn),∀(h1_0 h1_1 h1_2 h1_3:Int),∀(h1_4z:Bool),∀(h1_4l:List Int),∀(h1_5:Bool),∀(h1_6:Int),∀(h1_7z:Bool),∀(h1_7l:List zkn),∀(h2_0 h2_1 h2_3:Int),∀(r:Int×Int×Int×Int×Bool×(List Int)×Bool×Int×Bool×(List zkn)),zra q v1_0 v1_1 v1_2 v1_3 v1_4z v1_4l h0_0 h0_1 h0_2 h0_3 h0_4z h0_4l h0_5 h0_6 h0_7z h0_7l h1_0 h1_1 h1_2 h1_3 h1_4z h1_4l h1_5 h1_6 h1_7z h1_7l h2_0 h2_1 h2_3=some r->(orc T (M+7)).inl 19 [(.ptr 1 0),(.agg [(.int .i64 v1_0),(.int .i64 v1_1),(.int .i64 v1_2),(.int .i64 v1_3),(.sl v1_4z (List.map (V.int .u8) v1_4l))])] [(.box [(.int .i64 h0_0),(.int .i64 h0_1),(.int .i64 h0_2),(.int .i64 h0_3),(.sl h0_4z (List.map (V.int .i64) h0_4l)),(.bool h0_5),(.int .i64 h0_6),(.sl h0_7z (List.map zkn.enc h0_7l))]),(.box [(.int .i64 h1_0),(.int .i64 h1_1),(.int .i64 h1_2),(.int .i64 h1_3),(.sl h1_4z (List.map (V.int .i64) h1_4l)),(.bool h1_5),(.int .i64 h1_6),(.sl h1_7z (List.map zkn.enc h1_7l))]),(.box [(.int .i64 h2_0),(.int .i64 h2_1),(.int .i64 1),(.int .i64 h2_3),(.sl true [])])]=(some ([(.agg [(.int .i64 h1_0),(.int .i64 v1_0),(.int .i64 1),(.int .i64 r.1),(.sl true [])]),(.int .i64 r.2.1)],[(.box [(.int .i64 h0_0),(.int .i64 h0_1),(.int .i64 h0_2),(.int .i64 h0_3),(.sl h0_4z (List.map (V.int .i64) h0_4l)),(.bool h0_5),(.int .i64 h0_6),(.sl h0_7z (List.map zkn.enc h0_7l))]),(.box [(.int .i64 h1_0),(.int .i64 h1_1),(.int .i64 r.2.2.1),(.int .i64 r.2.2.2.1),(.sl r.2.2.2.2.1 (List.map (V.int .i64) r.2.2.2.2.2.1)),(.bool r.2.2.2.2.2.2.1),(.int .i64 r.2.2.2.2.2.2.2.1),(.sl r.2.2.2.2.2.2.2.2.1 (List.map zkn.enc r.2.2.2.2.2.2.2.2.2))]),(.box [(.int .i64 h2_0),(.int .i64 h2_1),(.int .i64 1),(.int .i64 h2_3),(.sl true [])])]):Option (List V×Hp)):=by
 intro q M hM v1_0 v1_1 v1_2 v1_3 v1_4z v1_4l h0_0 h0_1 h0_2 h0_3 h0_4z h0_4l h0_5 h0_6 h0_7z h0_7l h1_0 h1_1 h1_2 h1_3 h1_4z h1_4l h1_5 h1_6 h1_7z h1_7l h2_0 h2_1 h2_3 r h
 rcases q with _ | q
 ·cases h
 refine byR fun R hR=>?_
 rw [z97.2 (n:=M+6)]
 rw [zra] at h
 repeat' (first | (cases h;done) | (replace h:=br h;rcases h with ⟨_,h⟩ | ⟨_,h⟩) | (replace h:=ob h;obtain ⟨_,g,h⟩:=h;first | (replace g:=zbrz q M (by omega) _ _ _ _ _ _ _ _ _ _ _ _ _ _ _ _ _ _ _ _ _ _ _ _ _ _ _ _ _ _ _ _ g;try simp only [kf,simprocAttr] at g) | (replace g:=us1 (q:=q) (M:=M) (by omega) g 5;try simp only [kf,simprocAttr] at g) | skip))
 all_goals (cases h;subst hR;simp only [zbr0,simprocAttr, *])
def zbr2 (q:Nat):Prop:= ∀M,8*q<=M-> ∀j,q<=j-> ∀(v2z:Bool) (v2l:List zku) (r:Bool),zrb q v2z v2l=some r->LS T (M+7) 0 [2,8,10,12] [.blk 0, .code (.seq (.reg [mc 6 (.bool true)]) .ret)] zrl j (fin [.tmp 6] [[]]) (some [V.bool r]) [(2,(.sl v2z (List.map zku.enc v2l))),(8, .nilp),(10, .nilp),(12,(.int .i64 0))] []
def zbr3 (q:Nat):Prop:= ∀M,8*q<=M-> ∀j,q<=j-> ∀(v2z:Bool) (v2l:List zku) (v12 h0_0 h0_1 h0_2 h0_3:Int) (h0_4z:Bool) (h0_4l:List Int) (h0_5:Bool) (h0_6:Int) (h0_7z:Bool) (h0_7l:List zkn) (h1_0 h1_1 h1_2 h1_3:Int) (h1_4z:Bool) (h1_4l:List Int) (h1_5:Bool) (h1_6:Int) (h1_7z:Bool) (h1_7l:List zkn) (r:Bool),zrc q v2z v2l v12 h0_0 h0_1 h0_2 h0_3 h0_4z h0_4l h0_5 h0_6 h0_7z h0_7l h1_0 h1_1 h1_2 h1_3 h1_4z h1_4l h1_5 h1_6 h1_7z h1_7l=some r->LS T (M+7) 0 [2,8,10,12] [.blk 0, .code (.seq (.reg [mc 6 (.bool true)]) .ret)] zrl j (fin [.tmp 6] [[]]) (some [V.bool r]) [(2,(.sl v2z (List.map zku.enc v2l))),(8,(.ptr 0 0)),(10,(.ptr 1 0)),(12,(.int .i64 v12))] [(.box [(.int .i64 h0_0),(.int .i64 h0_1),(.int .i64 h0_2),(.int .i64 h0_3),(.sl h0_4z (List.map (V.int .i64) h0_4l)),(.bool h0_5),(.int .i64 h0_6),(.sl h0_7z (List.map zkn.enc h0_7l))]),(.box [(.int .i64 h1_0),(.int .i64 h1_1),(.int .i64 h1_2),(.int .i64 h1_3),(.sl h1_4z (List.map (V.int .i64) h1_4l)),(.bool h1_5),(.int .i64 h1_6),(.sl h1_7z (List.map zkn.enc h1_7l))])]
def zbr4:=ai @kk<| ai @ke<| ai @kn<| ai @z9t<| ai @zbaa<| ai @z9z<| ai @z94<| ai @z96<| ai @z98<| ai @z99<| ai @zbal<| ai @zbaq<| ai @zbar<| ai @zba2<| ai @z91<| ai @z93<| @zbac
theorem zbr5 (q:Nat):zbr2 (q+1):=by
 intro M hM j hj v2z v2l r h R hR fr H hc
 obtain ⟨j,rfl⟩: ∃i,j=i+1:=⟨j - 1,by omega⟩
 rw [zh1,hc];clear hc
 rw [zrb] at h
 replace h:=br h;rcases h with ⟨h1,h⟩ | ⟨h1,h⟩
 ·cases h;subst hR;simp only [zbr4,simprocAttr,beq_self_eq_true, *]
 ·cases h;subst hR;simp only [zbr4,simprocAttr,beq_self_eq_true, *]
theorem zbr6 (q:Nat) (zbr9:zbr3 q):zbr3 (q+1):=by
 intro M hM j hj v2z v2l v12 h0_0 h0_1 h0_2 h0_3 h0_4z h0_4l h0_5 h0_6 h0_7z h0_7l h1_0 h1_1 h1_2 h1_3 h1_4z h1_4l h1_5 h1_6 h1_7z h1_7l r h R hR fr H hc
 obtain ⟨j,rfl⟩: ∃i,j=i+1:=⟨j - 1,by omega⟩
 rw [zh1,hc];clear hc
 rw [zrc] at h
 replace h:=br h;rcases h with ⟨h1,h⟩ | ⟨h1,h⟩
 ·replace h:=bn h;obtain ⟨h2,h⟩:=h
  replace h:=ob h;obtain ⟨e4,h3,h⟩:=h
  replace h:=br h;rcases h with ⟨h4,h⟩ | ⟨h4,h⟩
  ·cases h;subst hR;simp only [zbr4,simprocAttr,beq_self_eq_true, *]
  ·replace h:=ob h;obtain ⟨r5,h5,h⟩:=h
   replace h5:=zbrx q M (by omega) _ _ _ _ _ _ _ _ _ _ _ _ _ _ _ _ _ _ _ _ _ _ _ _ _ _ _ h5
   try simp only [kf,simprocAttr] at h5
   replace h:=ob h;obtain ⟨r6,h6,h⟩:=h
   replace h6:=zbr1 q M (by omega) _ _ _ _ _ _ _ _ _ _ _ _ _ _ _ _ _ _ _ _ _ _ _ _ _ _ _ _ _ _ h6
   try simp only [kf,simprocAttr] at h6
   replace h:=ob h;obtain ⟨r7,h7,h⟩:=h
   replace h7:=us1 (q:=q) (M:=M) (by omega) h7 7
   try simp only [kf,simprocAttr] at h7
   replace h:=ob h;obtain ⟨r8,h8,h⟩:=h
   replace h8:=us1 (q:=q) (M:=M) (by omega) h8 6
   try simp only [kf,simprocAttr] at h8
   replace h:=ob h;obtain ⟨r9,h9,h⟩:=h
   replace h9:=us1 (q:=q) (M:=M) (by omega) h9 6
   try simp only [kf,simprocAttr] at h9
   replace h:=ob h;obtain ⟨r10,h10,h⟩:=h
   replace h10:=us1 (q:=q) (M:=M) (by omega) h10 7
   try simp only [kf,simprocAttr] at h10
   replace h:=bb h;rcases h with ⟨h11',h11,h⟩ | ⟨h11',h11,h⟩
   ·replace h:=bb h;rcases h with ⟨h12',h12,h⟩ | ⟨h12',h12,h⟩
    ·replace h:=br h;rcases h with ⟨h13,h⟩ | ⟨h13,h⟩
     ·replace h:=zbr9 M (by omega) j (by omega) _ _ _ _ _ _ _ _ _ _ _ _ _ _ _ _ _ _ _ _ _ _ _ _ h R hR
      simp only [zbr4,simprocAttr,beq_self_eq_true, *]
     ·cases h;subst hR;simp only [zbr4,simprocAttr,beq_self_eq_true, *]
    ·cases h;subst hR;simp only [zbr4,simprocAttr,beq_self_eq_true, *]
   ·cases h;subst hR;simp only [zbr4,simprocAttr,beq_self_eq_true, *]
 ·cases h;subst hR;simp only [zbr4,simprocAttr,beq_self_eq_true, *]
theorem zbr7: ∀q,zbr2 q/\zbr3 q
 | 0=>by refine ⟨?_,?_⟩<;>(intro M hM j hj;intros;rename_i h;cases h)
 | q+1=>by have ⟨i0,i1⟩:=zbr7 q;exact ⟨zbr5 q,zbr6 q i1⟩
instance zbr8 (a0 a1:Int) (a2:(Sl zku)): ∀q,Aq q (zrd q a0 a1 a2) (Dp T 4 [(V.int .i64) a0,(V.int .i64) a1,(Sl.enc zku.enc) a2] fun r=>[V.bool r]):=sndo (fun q=>zrd.eq_2 ..) (hs:=by
 intro q M hM r h R hR
 have ih_ferrymanlaw21_ShipTakes_l0:=(zbr7 q).1
 have zbr9:=(zbr7 q).2
 replace h:=ob h;obtain ⟨r1,h1,h⟩:=h
 replace h1:=us1 (q:=q) (M:=M) (by omega) h1 7
 try simp only [kf,simprocAttr] at h1
 replace h:=br h;rcases h with ⟨h2,h⟩ | ⟨h2,h⟩
 ·replace h:=bb h;rcases h with ⟨h3',h3,h⟩ | ⟨h3',h3,h⟩
  ·replace h:=br h;rcases h with ⟨h4,h⟩ | ⟨h4,h⟩
   ·cases h;subst hR;simp only [zbr4,simprocAttr,beq_self_eq_true, *]
   ·replace h:=ih_ferrymanlaw21_ShipTakes_l0 M (by omega) (M+7) (by omega) _ _ _ h R hR
    simp only [zbr4,simprocAttr,beq_self_eq_true, *]
  ·cases h;subst hR;simp only [zbr4,simprocAttr,beq_self_eq_true, *]
 ·replace h:=br h;rcases h with ⟨h5,h⟩ | ⟨h5,h⟩
  ·replace h:=bb h;rcases h with ⟨h6',h6,h⟩ | ⟨h6',h6,h⟩
   ·replace h:=br h;rcases h with ⟨h7,h⟩ | ⟨h7,h⟩
    ·cases h;subst hR;simp only [zbr4,simprocAttr,beq_self_eq_true, *]
    ·replace h:=ih_ferrymanlaw21_ShipTakes_l0 M (by omega) (M+7) (by omega) _ _ _ h R hR
     simp only [zbr4,simprocAttr,beq_self_eq_true, *]
   ·cases h;subst hR;simp only [zbr4,simprocAttr,beq_self_eq_true, *]
  ·replace h:=ob h;obtain ⟨r2,h8,h⟩:=h
   replace h8:=us1 (q:=q) (M:=M) (by omega) h8 6
   try simp only [kf,simprocAttr] at h8
   replace h:=ob h;obtain ⟨r3,h9,h⟩:=h
   replace h9:=us1 (q:=q) (M:=M) (by omega) h9 6
   try simp only [kf,simprocAttr] at h9
   replace h:=bb h;rcases h with ⟨h10',h10,h⟩ | ⟨h10',h10,h⟩
   ·replace h:=br h;rcases h with ⟨h11,h⟩ | ⟨h11,h⟩
    ·cases h;subst hR;simp only [zbr4,simprocAttr,beq_self_eq_true, *]
    ·replace h:=zbr9 M (by omega) (M+7) (by omega) _ _ _ _ _ _ _ _ _ _ _ _ _ _ _ _ _ _ _ _ _ _ _ _ h R hR
     simp only [zbr4,simprocAttr,beq_self_eq_true, *]
   ·cases h;subst hR;simp only [zbr4,simprocAttr,beq_self_eq_true, *])
end Go.Dvm.C
