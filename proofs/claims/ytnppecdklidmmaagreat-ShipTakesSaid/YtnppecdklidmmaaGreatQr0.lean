/- The machine comes to these answers: part 1. -/
import Derived.Test.YtnppecdklidmmaaGreatQl0
import Derived.KernelRfl
set_option linter.all false
set_option maxRecDepth 100000
set_option maxHeartbeats 4000000
namespace Go.Dvm.C
open Go Go.Dvm Go.Dvm.I
def zbgj:=trivial
abbrev zbgk (q:Nat):Prop:= ∀(v0z:Bool) (v0l:List Int) (v1 v5:Int),Aq q (zkw q v0z v0l v1 v5) fun M r=> ∀A,some [V.bool r]=A-> ∀j,q<=j->Lz T (M+7) 0 [0,1,5] [.blk 0, .code (.seq (.reg [mc 4 (.bool true)]) .ret)] zu3 j (fin [.tmp 4] [[]]) [(0,(.sl v0z (List.map (V.int .i64) v0l))),(1,(.int .i64 v1)),(5,(.int .i64 v5))] [] A
instance zbgl: ∀q,zbgk q:=lp1 @zbgj @zkw.eq_2
instance zbgm (a0:(Sl Int)) (a1:Int): ∀q,Aq q (zkx q a0 a1) (Dp T 72 [(Sl.enc (V.int .i64)) a0,(V.int .i64) a1] fun r=>[V.bool r]):=snd (fun q=>zkx.eq_2 ..) @zbgj
instance zbgn (a0:Int): ∀q,Aq q (zky q a0) (Dp T 73 [(V.int .i64) a0] fun r=>[(V.int .i64) r]):=snd (fun q=>zky.eq_2 ..) trivial
def zbgo:=(ai @zbad<| ai @zba3<| @zba4)
abbrev zbgp (q:Nat):Prop:= ∀(v3 h0_0:Int) (h0_1z:Bool) (h0_1l:List Int) (h0_2:Bool) (h0_3:Int),Aq q (zkz q v3 h0_0 h0_1z h0_1l h0_2 h0_3) fun M r=> ∀A,some [V.bool r]=A-> ∀j,q<=j->Lz T (M+7) 0 [1,3] [.blk 0, .code (.seq (.reg [mc 2 (.bool true)]) .ret)] zsl j (fin [.tmp 2] [[]]) [(1,(.ptr 0 0)),(3,(.int .i64 v3))] [(.box [(.int .i64 h0_0),(.sl h0_1z (List.map (V.int .i64) h0_1l)),(.bool h0_2),(.int .i64 h0_3)])] A
instance zbgq: ∀q,zbgp q:=lp1 @zbgo @zkz.eq_2
instance zbgr (a0:zkm): ∀q,Aq q (zk0 q a0) (Dp T 26 [zkm.enc a0] fun r=>[V.bool r]):=snd (fun q=>zk0.eq_2 ..) @zbgo
def zbgs:=trivial
abbrev zbgt (q:Nat):Prop:= ∀(v0z:Bool) (v0l:List zkn) (v3:Int),Aq q (zk1 q v0z v0l v3) fun M r=> ∀A,some [V.bool r]=A-> ∀j,q<=j->Lz T (M+7) 0 [0,3] [.blk 0, .code (.seq (.reg [mc 2 (.bool true)]) .ret)] zss j (fin [.tmp 2] [[]]) [(0,(.sl v0z (List.map zkn.enc v0l))),(3,(.int .i64 v3))] [] A
instance zbgu: ∀q,zbgt q:=lp1 @zbgs @zk1.eq_2
instance zbgv (a0:(Sl zkn)): ∀q,Aq q (zk2 q a0) (Dp T 27 [(Sl.enc zkn.enc) a0] fun r=>[V.bool r]):=snd (fun q=>zk2.eq_2 ..) @zbgs
instance zbgw (a0:zko): ∀q,Aq q (zk3 q a0) (Dp T 7 [zko.enc a0] fun r=>[V.bool r]):=snd (fun q=>zk3.eq_2 ..) (ai @zbae<| @zbaf)
instance zbgx (a0:Int): ∀q,Aq q (zk4 q a0) (Dp T 86 [(V.int .i64) a0] fun r=>[(V.int .i64) r]):=snd (fun q=>zk4.eq_2 ..) trivial
instance zbgy (a0:zkp): ∀q,Aq q (zk5 q a0) (Dp T 74 [zkp.enc a0] fun r=>[V.bool r]):=snd (fun q=>zk5.eq_2 ..) (ai @zba5<| @zbbq)
instance zbgz (a0:zkq): ∀q,Aq q (zk6 q a0) (Dp T 28 [zkq.enc a0] fun r=>[V.bool r]):=snd (fun q=>zk6.eq_2 ..) @zba6
instance zbg0 (a0:Int): ∀q,Aq q (zk7 q a0) (Dp T 85 [(V.int .i64) a0] fun r=>[V.bool r]):=snd (fun q=>zk7.eq_2 ..) @zbbq
def zbg1:=trivial
abbrev zbg2 (q:Nat):Prop:= ∀(v0z:Bool) (v0l:List Int) (v1 v5 v6:Int),Aq q (zk8 q v0z v0l v1 v5 v6) fun M r=> ∀A,some [V.bool r]=A-> ∀j,q<=j->Lz T (M+7) 0 [0,1,5,6] [.blk 0, .code zv5] zv4 j (fin [.tmp 4] [[]]) [(0,(.sl v0z (List.map (V.int .i64) v0l))),(1,(.int .i64 v1)),(5,(.int .i64 v5)),(6,(.int .i64 v6))] [] A
instance zbg3: ∀q,zbg2 q:=lp1 @zbg1 @zk8.eq_2
instance zbg4 (a0:(Sl Int)) (a1:Int): ∀q,Aq q (zk9 q a0 a1) (Dp T 87 [(Sl.enc (V.int .i64)) a0,(V.int .i64) a1] fun r=>[V.bool r]):=snd (fun q=>zk9.eq_2 ..) @zbg1
def zbg5 (q:Nat):Prop:= ∀M,8*q<=M-> ∀j,q<=j-> ∀(v0z:Bool) (v0l:List Int) (v7 v8 h0_0:Int) (h0_1z:Bool) (h0_1l:List Int) (h0_2:Bool) (h0_3 r:Int),zla q v0z v0l v7 v8 h0_0 h0_1z h0_1l h0_2 h0_3=some r->LS T (M+5) 1 [0,1,7,8] [.blk 0, .code (.seq (.reg [mc 4 (.int .i64 (-1))]) .ret)] zy4 j (finI 1 false [.tmp 4]) ((some ([(.int .i64 r)],[(.box [(.int .i64 h0_0),(.sl h0_1z (List.map (V.int .i64) h0_1l)),(.bool h0_2),(.int .i64 h0_3)])]):Option (List V×Hp))) [(0,(.sl v0z (List.map (V.int .i64) v0l))),(1,(.fn 85 [])),(7,(.int .i64 v7)),(8,(.int .i64 v8))] [(.box [(.int .i64 h0_0),(.sl h0_1z (List.map (V.int .i64) h0_1l)),(.bool h0_2),(.int .i64 h0_3)])]
def zbg6:=ai @kk<| ai @ke<| ai @kn<| @zbbp
theorem zbg7 (q:Nat) (zblh:zbg5 q):zbg5 (q+1):=by
 intro M hM j hj v0z v0l v7 v8 h0_0 h0_1z h0_1l h0_2 h0_3 r h R hR fr H hc
 obtain ⟨j,rfl⟩: ∃i,j=i+1:=⟨j - 1,by omega⟩
 rw [zh1,hc];clear hc
 rw [zla] at h
 replace h:=br h;rcases h with ⟨h1,h⟩ | ⟨h1,h⟩
 ·replace h:=bn h;obtain ⟨h2,h⟩:=h
  replace h:=ob h;obtain ⟨e1,h3,h⟩:=h
  replace h:=ob h;obtain ⟨r2,h4,h⟩:=h
  replace h4:=us1 (q:=q) (M:=M) (by omega) h4 5
  try simp only [kf,simprocAttr] at h4
  replace h:=bb h;rcases h with ⟨h5',h5,h⟩ | ⟨h5',h5,h⟩
  ·cases h;subst hR;simp only [zbg6,simprocAttr, *]
  ·replace h:=zblh M (by omega) j (by omega) _ _ _ _ _ _ _ _ _ _ h R hR
   simp only [zbg6,simprocAttr, *]
 ·cases h;subst hR;simp only [zbg6,simprocAttr, *]
theorem zbg8: ∀q,zbg5 q
 | 0=>by intro M hM j hj;intros;rename_i h;cases h
 | q+1=>by have i0:=zbg8 q;exact zbg7 q i0
theorem zbg9: ∀(q M:Nat),8*q<=M-> ∀(v0z:Bool),∀(v0l:List Int),∀(h0_0:Int),∀(h0_1z:Bool),∀(h0_1l:List Int),∀(h0_2:Bool),∀(h0_3 r:Int),zlb q v0z v0l h0_0 h0_1z h0_1l h0_2 h0_3=some r->(orc T (M+6)).inl 152 [(.sl v0z (List.map (V.int .i64) v0l)),(.fn 85 [])] [(.box [(.int .i64 h0_0),(.sl h0_1z (List.map (V.int .i64) h0_1l)),(.bool h0_2),(.int .i64 h0_3)])]=(some ([(.int .i64 r)],[(.box [(.int .i64 h0_0),(.sl h0_1z (List.map (V.int .i64) h0_1l)),(.bool h0_2),(.int .i64 h0_3)])]):Option (List V×Hp)):=by
 intro q M hM v0z v0l h0_0 h0_1z h0_1l h0_2 h0_3 r h
 rcases q with _ | q
 ·cases h
 have zblh:=(zbg8 q)
 refine byR fun R hR=>?_
 rw [zbcj.2 (n:=M+5)]
 rw [zlb] at h
 replace h:=zblh M (by omega) (M+5) (by omega) _ _ _ _ _ _ _ _ _ _ h R hR
 simp only [zbg6,simprocAttr, *]
def zbha:=ai @kk<| ai @ke<| ai @kn<| ai @zbbr<| ai @zbci<| @zbbo
instance zbhb (a0:zkm): ∀q,Aq q (zlc q a0) (Dp T 31 [zkm.enc a0] fun r=>[V.bool r]):=sndo (fun q=>zlc.eq_2 ..) (hs:=by
 intro q M hM r h R hR
 repeat' (first | (cases h;done) | (replace h:=bb h;rcases h with ⟨_,_,h⟩ | ⟨_,_,h⟩) | (replace h:=br h;rcases h with ⟨_,h⟩ | ⟨_,h⟩) | (replace h:=ob h;obtain ⟨_,g,h⟩:=h;first | (replace g:=zbg9 q M (by omega) _ _ _ _ _ _ _ _ g;try simp only [kf,simprocAttr] at g) | (replace g:=us1 (q:=q) (M:=M) (by omega) g 7;try simp only [kf,simprocAttr] at g) | skip))
 all_goals (cases h;subst hR;simp only [zbha,simprocAttr, *]))
instance zbhc (a0:zkm) (a1:zkp): ∀q,Aq q (zld q a0 a1) (Dp T 75 [zkm.enc a0,zkp.enc a1] fun r=>[zkm.enc r.1,(V.int .i64) r.2]):=snd (fun q=>zld.eq_2 ..) @zbbq
instance zbhd (a0:(Sl Int)): ∀q,Aq q (zle q a0) (Dp T 38 [(Sl.enc (V.int .i64)) a0] fun r=>[(Ow.enc 1 (V.int .i64)) r]):=snd (fun q=>zle.eq_2 ..) trivial
instance zbhe (a0:(Ow Int)) (a1 a2:Int): ∀q,Aq q (zlf q a0 a1 a2) (Dp T 145 [(Ow.enc 1 (V.int .i64)) a0,(V.int .i64) a1,(V.int .i64) a2] fun r=>[(Ow.enc 1 (V.int .i64)) r]):=snd (fun q=>zlf.eq_2 ..) trivial
instance zbhf (a0:zkm) (a1:zkp): ∀q,Aq q (zlg q a0 a1) (Dp T 76 [zkm.enc a0,zkp.enc a1] fun r=>[zkm.enc r.1,(V.int .i64) r.2]):=snd (fun q=>zlg.eq_2 ..) (ai @zba8<| ai @zbal<| ai @zbbq<| @zbcc)
def zbhg:=trivial
abbrev zbhh (q:Nat):Prop:= ∀(v0z:Bool) (v0l:List Int) (v1 v6:Int),Aq q (zlh q v0z v0l v1 v6) fun M r=> ∀A,some [(V.int .i64) r.1,V.bool r.2]=A-> ∀j,q<=j->Lz T (M+7) 0 [0,1,6] [.blk 0, .code zys] zyr j (fin [.tmp 4, .tmp 5] [[],[]]) [(0,(.sl v0z (List.map (V.int .i64) v0l))),(1,(.int .i64 v1)),(6,(.int .i64 v6))] [] A
instance zbhi: ∀q,zbhh q:=lp1 @zbhg @zlh.eq_2
instance zbhj (a0:(Sl Int)) (a1:Int): ∀q,Aq q (zli q a0 a1) (Dp T 147 [(Sl.enc (V.int .i64)) a0,(V.int .i64) a1] fun r=>[(V.int .i64) r.1,V.bool r.2]):=snd (fun q=>zli.eq_2 ..) @zbhg
instance zbhk (a0:(Sl Int)) (a1:Int): ∀q,Aq q (zlj q a0 a1) (Dp T 146 [(Sl.enc (V.int .i64)) a0,(V.int .i64) a1] fun r=>[(V.int .i64) r]):=snd (fun q=>zlj.eq_2 ..) @zbce
instance zbhl (a0:Ow Int) (a1:Int) (a2:Ow Int): ∀q,Aq q (zlk q a0 a1 a2) (Dp T 209 [(Ow.enc 1 (V.int .i64)) a0, .int .i64 a1,(Ow.enc 1 (V.int .i64)) a2] fun r=>[(Ow.enc 1 (V.int .i64)) r]):=fun q=>⟨by
 intro M hM r h k
 rcases q with _ | q
 ·cases h
 obtain ⟨M,rfl⟩: ∃N,M=N+8:=⟨M - 8,by omega⟩
 rw [show M+8+k=M+k+7+1 from by omega,zib,show T 209=some _ from rfl,y5,zh8 _ rfl]
 rw [zlk] at h
 by_cases c:insOk a0 a1 a2
 ·rw [if_pos c] at h;cases h;exact zjh (V.int .i64) 1 c
 ·rw [if_neg c] at h;cases h⟩
instance zbhm (a0:(Sl Int)) (a1 a2:Int): ∀q,Aq q (zll q a0 a1 a2) (Dp T 148 [(Sl.enc (V.int .i64)) a0,(V.int .i64) a1,(V.int .i64) a2] fun r=>[(Sl.enc (V.int .i64)) r.1,V.bool r.2]):=snd (fun q=>zll.eq_2 ..) (ai @zbal<| ai @zbce<| @zbdk)
instance zbhn (a0:zkm) (a1:zkp): ∀q,Aq q (zlm q a0 a1) (Dp T 77 [zkm.enc a0,zkp.enc a1] fun r=>[zkm.enc r.1,(V.int .i64) r.2]):=snd (fun q=>zlm.eq_2 ..) (ai @zbba<| ai @zbal<| ai @zbbq<| ai @zbcc<| ai @zbcd<| ai @zbce<| @zbcf)
instance zbho (a0:zkm) (a1:zkp): ∀q,Aq q (zln q a0 a1) (Dp T 149 [zkm.enc a0,zkp.enc a1] fun r=>[zkm.enc r.1,(V.int .i64) r.2]):=snd (fun q=>zln.eq_2 ..) (ai @zbcg<| ai @zbcd<| @zbcf)
instance zbhp (a0:zkm) (a1:zkp): ∀q,Aq q (zlo q a0 a1) (Dp T 78 [zkm.enc a0,zkp.enc a1] fun r=>[zkm.enc r.1,(V.int .i64) r.2]):=snd (fun q=>zlo.eq_2 ..) (ai @zbbc<| ai @zbbq<| ai @zbcd<| ai @zbcf<| @zbch)
instance zbhq (a0:zkm) (a1:zkp): ∀q,Aq q (zlp q a0 a1) (Dp T 29 [zkm.enc a0,zkp.enc a1] fun r=>[zkm.enc r.1,(V.int .i64) r.2]):=snd (fun q=>zlp.eq_2 ..) (ai @zbaj<| ai @zba7<| ai @zba9<| ai @zbbb<| @zbbd)
instance zbhr (a0:(Sl zkn)): ∀q,Aq q (zlq q a0) (Dp T 59 [(Sl.enc zkn.enc) a0] fun r=>[(Ow.enc 3 zkn.enc) r]):=snd (fun q=>zlq.eq_2 ..) trivial
instance zbhs (a0:Ow zkn) (a1:Int) (a2:Ow zkn): ∀q,Aq q (zlr q a0 a1 a2) (Dp T 83 [(Ow.enc 3 zkn.enc) a0, .int .i64 a1,(Ow.enc 3 zkn.enc) a2] fun r=>[(Ow.enc 3 zkn.enc) r]):=fun q=>⟨by
 intro M hM r h k
 rcases q with _ | q
 ·cases h
 obtain ⟨M,rfl⟩: ∃N,M=N+8:=⟨M - 8,by omega⟩
 rw [show M+8+k=M+k+7+1 from by omega,zib,show T 83=some _ from rfl,y5,zh8 _ rfl]
 rw [zlr] at h
 by_cases c:insOk a0 a1 a2
 ·rw [if_pos c] at h;cases h;exact zjh zkn.enc 3 c
 ·rw [if_neg c] at h;cases h⟩
def zbht (q:Nat):Prop:= ∀M,8*q<=M-> ∀j,q<=j-> ∀(w1:Nat) (v7 v8 h0_0 h0_1 h0_2 h0_3 h0_4 h0_5 h0_6:Int) (h1z:Bool) (h1l:List zkn) (h1x:Bool) (r:Int),zls q v7 v8 h0_0 h0_1 h0_2 h0_3 h0_4 h0_5 h0_6 h1z h1l h1x=some r->LS T (M+5) 2 [0,1,7,8] [.blk 0, .code (.seq (.reg [mc 4 (.int .i64 (-1))]) .ret)] zv2 j (finI 2 false [.tmp 4]) ((some ([(.int .i64 r)],[(.box [(.int .i64 h0_0),(.int .i64 h0_1),(.int .i64 h0_2),(.int .i64 h0_3),(.int .i64 h0_4),(.int .i64 h0_5),(.int .i64 h0_6)]),(.row w1 h1z 3 (List.map zkn.enc h1l) h1x)]):Option (List V×Hp))) [(0,(.vw 1 w1 0 h1l.length 1)),(1,(.fn 80 [(.ptr 0 0)])),(7,(.int .i64 v7)),(8,(.int .i64 v8))] [(.box [(.int .i64 h0_0),(.int .i64 h0_1),(.int .i64 h0_2),(.int .i64 h0_3),(.int .i64 h0_4),(.int .i64 h0_5),(.int .i64 h0_6)]),(.row w1 h1z 3 (List.map zkn.enc h1l) h1x)]
def zbhu:=ai @kk<| ai @ke<| ai @kn<| @zbbh
theorem zbhv (q:Nat) (zbli:zbht q):zbht (q+1):=by
 intro M hM j hj w1 v7 v8 h0_0 h0_1 h0_2 h0_3 h0_4 h0_5 h0_6 h1z h1l h1x r h R hR fr H hc
 obtain ⟨j,rfl⟩: ∃i,j=i+1:=⟨j - 1,by omega⟩
 rw [zh1,hc];clear hc
 rw [zls] at h
 replace h:=br h;rcases h with ⟨h1,h⟩ | ⟨h1,h⟩
 ·replace h:=bn h;obtain ⟨h2,h⟩:=h
  replace h:=bn h;obtain ⟨h3,h⟩:=h
  replace h:=ob h;obtain ⟨e1,h4,h⟩:=h
  replace h:=br h;rcases h with ⟨h5,h⟩ | ⟨h5,h⟩
  ·cases h;subst hR;simp only [zbhu,simprocAttr, *]
  ·replace h:=zbli M (by omega) j (by omega) w1 _ _ _ _ _ _ _ _ _ _ _ _ _ h R hR
   simp only [zbhu,simprocAttr, *]
 ·cases h;subst hR;simp only [zbhu,simprocAttr, *]
theorem zbhw: ∀q,zbht q
 | 0=>by intro M hM j hj;intros;rename_i h;cases h
 | q+1=>by have i0:=zbhw q;exact zbhv q i0
theorem zbhx: ∀(q M:Nat),8*q<=M-> ∀(w1:Nat),∀(h0_0 h0_1 h0_2 h0_3 h0_4 h0_5 h0_6:Int),∀(h1z:Bool),∀(h1l:List zkn),∀(h1x:Bool),∀(r:Int),zlt q h0_0 h0_1 h0_2 h0_3 h0_4 h0_5 h0_6 h1z h1l h1x=some r->(orc T (M+6)).inl 81 [(.vw 1 w1 0 h1l.length 1),(.fn 80 [(.ptr 0 0)])] [(.box [(.int .i64 h0_0),(.int .i64 h0_1),(.int .i64 h0_2),(.int .i64 h0_3),(.int .i64 h0_4),(.int .i64 h0_5),(.int .i64 h0_6)]),(.row w1 h1z 3 (List.map zkn.enc h1l) h1x)]=(some ([(.int .i64 r)],[(.box [(.int .i64 h0_0),(.int .i64 h0_1),(.int .i64 h0_2),(.int .i64 h0_3),(.int .i64 h0_4),(.int .i64 h0_5),(.int .i64 h0_6)]),(.row w1 h1z 3 (List.map zkn.enc h1l) h1x)]):Option (List V×Hp)):=by
 intro q M hM w1 h0_0 h0_1 h0_2 h0_3 h0_4 h0_5 h0_6 h1z h1l h1x r h
 rcases q with _ | q
 ·cases h
 have zbli:=(zbhw q)
 refine byR fun R hR=>?_
 rw [zbbj.2 (n:=M+5)]
 rw [zlt] at h
 replace h:=zbli M (by omega) (M+5) (by omega) w1 _ _ _ _ _ _ _ _ _ _ _ _ _ h R hR
 simp only [zbhu,simprocAttr, *]
def zbhy (q:Nat):Prop:= ∀M,8*q<=M-> ∀j,q<=j-> ∀(w1:Nat) (v5 v6 h0_0 h0_1 h0_2 h0_3 h0_4 h0_5 h0_6:Int) (h1z:Bool) (h1l:List zkn) (h1x:Bool) (r:Nat×(List zkn)×Bool),zlu q v5 v6 h0_0 h0_1 h0_2 h0_3 h0_4 h0_5 h0_6 h1z h1l h1x=some r->LS T (M+6) 2 [0,1,5,6] [.blk 0, .code zvz] zvy j (finI 2 true [.tmp 4]) ((some ([(.vw 1 w1 0 r.1 0)],[(.box [(.int .i64 h0_0),(.int .i64 h0_1),(.int .i64 h0_2),(.int .i64 h0_3),(.int .i64 h0_4),(.int .i64 h0_5),(.int .i64 h0_6)]),(.row w1 h1z 3 (List.map zkn.enc r.2.1) r.2.2)]):Option (List V×Hp))) [(0,(.vw 1 w1 0 h1l.length 1)),(1,(.fn 80 [(.ptr 0 0)])),(5,(.int .i64 v5)),(6,(.int .i64 v6))] [(.box [(.int .i64 h0_0),(.int .i64 h0_1),(.int .i64 h0_2),(.int .i64 h0_3),(.int .i64 h0_4),(.int .i64 h0_5),(.int .i64 h0_6)]),(.row w1 h1z 3 (List.map zkn.enc h1l) h1x)]
def zbhz:=ai @kk<| ai @ke<| ai @kn<| ai @zbbi<| @zbbh
theorem zbh0 (q:Nat) (zblj:zbhy q):zbhy (q+1):=by
 intro M hM j hj w1 v5 v6 h0_0 h0_1 h0_2 h0_3 h0_4 h0_5 h0_6 h1z h1l h1x r h R hR fr H hc
 obtain ⟨j,rfl⟩: ∃i,j=i+1:=⟨j - 1,by omega⟩
 rw [zh1,hc];clear hc
 rw [zlu] at h
 repeat' (first | (cases h;done) | (replace h:=bb h;rcases h with ⟨_,_,h⟩ | ⟨_,_,h⟩) | (replace h:=bn h;obtain ⟨_,h⟩:=h) | (replace h:=br h;rcases h with ⟨_,h⟩ | ⟨_,h⟩) | (replace h:=ob h;obtain ⟨_,g,h⟩:=h))
 all_goals (first | (cases h;subst hR;simp only [zbhz,simprocAttr, *]) | (replace h:=zblj M (by omega) j (by omega) w1 _ _ _ _ _ _ _ _ _ _ _ _ _ h R hR;simp only [zbhz,simprocAttr, *]))
theorem zbh1: ∀q,zbhy q
 | 0=>by intro M hM j hj;intros;rename_i h;cases h
 | q+1=>by have i0:=zbh1 q;exact zbh0 q i0
theorem zbh2: ∀(q M:Nat),8*q<=M-> ∀(w1:Nat),∀(h0_0 h0_1 h0_2 h0_3 h0_4 h0_5 h0_6:Int),∀(h1z:Bool),∀(h1l:List zkn),∀(h1x:Bool),∀(r:Nat×(List zkn)×Bool),zlv q h0_0 h0_1 h0_2 h0_3 h0_4 h0_5 h0_6 h1z h1l h1x=some r->(orc T (M+7)).inl 79 [(.vw 1 w1 0 h1l.length 1),(.fn 80 [(.ptr 0 0)])] [(.box [(.int .i64 h0_0),(.int .i64 h0_1),(.int .i64 h0_2),(.int .i64 h0_3),(.int .i64 h0_4),(.int .i64 h0_5),(.int .i64 h0_6)]),(.row w1 h1z 3 (List.map zkn.enc h1l) h1x)]=(some ([(.vw 1 w1 0 r.1 0)],[(.box [(.int .i64 h0_0),(.int .i64 h0_1),(.int .i64 h0_2),(.int .i64 h0_3),(.int .i64 h0_4),(.int .i64 h0_5),(.int .i64 h0_6)]),(.row w1 h1z 3 (List.map zkn.enc r.2.1) r.2.2)]):Option (List V×Hp)):=by
 intro q M hM w1 h0_0 h0_1 h0_2 h0_3 h0_4 h0_5 h0_6 h1z h1l h1x r h
 rcases q with _ | q
 ·cases h
 have zblj:=(zbh1 q)
 refine byR fun R hR=>?_
 rw [zbbf.2 (n:=M+6)]
 rw [zlv] at h
 replace h:=ob h;obtain ⟨r1,h1,h⟩:=h
 replace h1:=zbhx q M (by omega) w1 _ _ _ _ _ _ _ _ _ _ _ h1
 try simp only [kf,simprocAttr] at h1
 replace h:=br h;rcases h with ⟨h2,h⟩ | ⟨h2,h⟩
 ·cases h;subst hR;simp only [zbhz,simprocAttr, *]
 ·replace h:=zblj M (by omega) (M+6) (by omega) w1 _ _ _ _ _ _ _ _ _ _ _ _ _ h R hR
  simp only [zbhz,simprocAttr, *]
def zbh3 (q:Nat):Prop:= ∀M,8*q<=M-> ∀j,q<=j-> ∀(w1 v0len:Nat) (v7 v8 h0_0 h0_1 h0_2 h0_3 h0_4 h0_5 h0_6:Int) (h1z:Bool) (h1l:List zkn) (h1x:Bool) (r:Int),zlw q v0len v7 v8 h0_0 h0_1 h0_2 h0_3 h0_4 h0_5 h0_6 h1z h1l h1x=some r->LS T (M+6) 2 [0,1,7,8] [.blk 0, .code (.seq (.reg [mc 4 (.int .i64 (-1))]) .ret)] zv2 j (finI 2 false [.tmp 4]) ((some ([(.int .i64 r)],[(.box [(.int .i64 h0_0),(.int .i64 h0_1),(.int .i64 h0_2),(.int .i64 h0_3),(.int .i64 h0_4),(.int .i64 h0_5),(.int .i64 h0_6)]),(.row w1 h1z 3 (List.map zkn.enc h1l) h1x)]):Option (List V×Hp))) [(0,(.vw 1 w1 0 v0len 0)),(1,(.fn 82 [(.ptr 0 0)])),(7,(.int .i64 v7)),(8,(.int .i64 v8))] [(.box [(.int .i64 h0_0),(.int .i64 h0_1),(.int .i64 h0_2),(.int .i64 h0_3),(.int .i64 h0_4),(.int .i64 h0_5),(.int .i64 h0_6)]),(.row w1 h1z 3 (List.map zkn.enc h1l) h1x)]
def zbh4:=ai @kk<| ai @ke<| ai @kn<| @zbbl
theorem zbh5 (q:Nat) (zblk:zbh3 q):zbh3 (q+1):=by
 intro M hM j hj w1 v0len v7 v8 h0_0 h0_1 h0_2 h0_3 h0_4 h0_5 h0_6 h1z h1l h1x r h R hR fr H hc
 obtain ⟨j,rfl⟩: ∃i,j=i+1:=⟨j - 1,by omega⟩
 rw [zh1,hc];clear hc
 rw [zlw] at h
 replace h:=br h;rcases h with ⟨h1,h⟩ | ⟨h1,h⟩
 ·replace h:=bn h;obtain ⟨h2,h⟩:=h
  replace h:=bn h;obtain ⟨h3,h⟩:=h
  replace h:=ob h;obtain ⟨e1,h4,h⟩:=h
  replace h:=br h;rcases h with ⟨h5,h⟩ | ⟨h5,h⟩
  ·cases h;subst hR;simp only [zbh4,simprocAttr, *]
  ·replace h:=zblk M (by omega) j (by omega) w1 _ _ _ _ _ _ _ _ _ _ _ _ _ _ h R hR
   simp only [zbh4,simprocAttr, *]
 ·cases h;subst hR;simp only [zbh4,simprocAttr, *]
theorem zbh6: ∀q,zbh3 q
 | 0=>by intro M hM j hj;intros;rename_i h;cases h
 | q+1=>by have i0:=zbh6 q;exact zbh5 q i0
theorem zbh7: ∀(q M:Nat),8*q<=M-> ∀(w1 v0len:Nat),∀(h0_0 h0_1 h0_2 h0_3 h0_4 h0_5 h0_6:Int),∀(h1z:Bool),∀(h1l:List zkn),∀(h1x:Bool),∀(r:Int),zlx q v0len h0_0 h0_1 h0_2 h0_3 h0_4 h0_5 h0_6 h1z h1l h1x=some r->(orc T (M+7)).inl 81 [(.vw 1 w1 0 v0len 0),(.fn 82 [(.ptr 0 0)])] [(.box [(.int .i64 h0_0),(.int .i64 h0_1),(.int .i64 h0_2),(.int .i64 h0_3),(.int .i64 h0_4),(.int .i64 h0_5),(.int .i64 h0_6)]),(.row w1 h1z 3 (List.map zkn.enc h1l) h1x)]=(some ([(.int .i64 r)],[(.box [(.int .i64 h0_0),(.int .i64 h0_1),(.int .i64 h0_2),(.int .i64 h0_3),(.int .i64 h0_4),(.int .i64 h0_5),(.int .i64 h0_6)]),(.row w1 h1z 3 (List.map zkn.enc h1l) h1x)]):Option (List V×Hp)):=by
 intro q M hM w1 v0len h0_0 h0_1 h0_2 h0_3 h0_4 h0_5 h0_6 h1z h1l h1x r h
 rcases q with _ | q
 ·cases h
 have zblk:=(zbh6 q)
 refine byR fun R hR=>?_
 rw [zbbj.2 (n:=M+6)]
 rw [zlx] at h
 replace h:=zblk M (by omega) (M+6) (by omega) w1 _ _ _ _ _ _ _ _ _ _ _ _ _ _ h R hR
 simp only [zbh4,simprocAttr, *]
def zbh8:=ai @kk<| ai @ke<| ai @kn<| ai @zba2<| ai @zbbe<| ai @zbbi<| @zbbm
instance zbh9 (a0:(Sl zkn)) (a1:zkq): ∀q,Aq q (zly q a0 a1) (Dp T 30 [(Sl.enc zkn.enc) a0,zkq.enc a1] fun r=>[(Ow.enc 3 zkn.enc) r]):=sndo (fun q=>zly.eq_2 ..) (hs:=by
 intro q M hM r h R hR
 repeat' (first | (cases h;done) | (replace h:=bb h;rcases h with ⟨_,_,h⟩ | ⟨_,_,h⟩) | (replace h:=br h;rcases h with ⟨_,h⟩ | ⟨_,h⟩) | (replace h:=ob h;obtain ⟨_,g,h⟩:=h;first | (replace g:=us1 (q:=q) (M:=M) (by omega) g 7;try simp only [kf,simprocAttr] at g) | (replace g:=zbh2 q M (by omega) 0 _ _ _ _ _ _ _ _ _ _ _ g;try simp only [kf,simprocAttr] at g) | (replace g:=zbh7 q M (by omega) 0 _ _ _ _ _ _ _ _ _ _ _ _ g;try simp only [kf,simprocAttr] at g) | skip))
 all_goals (cases h;subst hR;simp only [zbh8,simprocAttr, *]))
def zbia:=(ai @z9w<| ai @zbag<| ai @zbah<| @zbai)
abbrev zbib (q:Nat):Prop:= ∀(v8z:Bool) (v8l:List zkq) (v9 h0_0 h0_1:Int) (h0_2z:Bool) (h0_2l:List Int) (h0_3:Bool) (h0_4:Int) (h0_5z:Bool) (h0_5l:List zkn),Aq q (zl0 q v8z v8l v9 h0_0 h0_1 h0_2z h0_2l h0_3 h0_4 h0_5z h0_5l) fun M r=> ∀A,some [zko.enc r.1,(V.int .i64) r.2]=A-> ∀j,q<=j->Lz T (M+7) 0 [2,4,8,9,10] [.blk 0, .code (.seq (.reg [mo 46 (.load (.t 2) 6 true),ms 4 46 6,mz 5 0]) .ret)] zrv j (fin [.cell 4 6 true, .tmp 5] [[],[]]) [(2,(.ptr 0 0)),(4,(.ptr 1 0)),(8,(.sl v8z (List.map zkq.enc v8l))),(9,(.int .i64 v9)),(10,(.int .i64 0))] [(.box [(.int .i64 h0_0),(.int .i64 h0_1),(.sl h0_2z (List.map (V.int .i64) h0_2l)),(.bool h0_3),(.int .i64 h0_4),(.sl h0_5z (List.map zkn.enc h0_5l))]),(.box [(.int .i64 0),(.int .i64 0),(.sl true []),(.bool false),(.int .i64 0),(.sl true [])])] A
abbrev zbic (q:Nat):Prop:= ∀(v8z:Bool) (v8l:List zkq) (v9 v10 h0_0 h0_1:Int) (h0_2z:Bool) (h0_2l:List Int) (h0_3:Bool) (h0_4:Int) (h2z:Bool) (h2l:List zkn) (h2x:Bool),Aq q (zlz q v8z v8l v9 v10 h0_0 h0_1 h0_2z h0_2l h0_3 h0_4 h2z h2l h2x) fun M r=> ∀A,some [zko.enc r.1,(V.int .i64) r.2]=A-> ∀j,q<=j->Lz T (M+7) 0 [2,4,8,9,10] [.blk 0, .code (.seq (.reg [mo 46 (.load (.t 2) 6 true),ms 4 46 6,mz 5 0]) .ret)] zrv j (fin [.cell 4 6 true, .tmp 5] [[],[]]) [(2,(.ptr 0 0)),(4,(.ptr 1 0)),(8,(.sl v8z (List.map zkq.enc v8l))),(9,(.int .i64 v9)),(10,(.int .i64 v10))] [(.box [(.int .i64 h0_0),(.int .i64 h0_1),(.sl h0_2z (List.map (V.int .i64) h0_2l)),(.bool h0_3),(.int .i64 h0_4),(.vw 2 0 0 h2l.length 1)]),(.box [(.int .i64 0),(.int .i64 0),(.sl true []),(.bool false),(.int .i64 0),(.sl true [])]),(.row 0 h2z 3 (List.map zkn.enc h2l) h2x)] A
theorem zbid: ∀q,zbib q/\zbic q:=lpn @zbia (ai @zl0.eq_2<| @zlz.eq_2)
instance zbie (q):zbib q:=(zbid q).1
instance zbif (q):zbic q:=(zbid q).2
instance zbig (a0:zko) (a1:(Sl zkq)): ∀q,Aq q (zl1 q a0 a1) (Dp T 8 [zko.enc a0,(Sl.enc zkq.enc) a1] fun r=>[zko.enc r.1,(V.int .i64) r.2]):=snd (fun q=>zl1.eq_2 ..) @zbia
instance zbih (a0:zkn): ∀q,Aq q (zl2 q a0) (Dp T 88 [zkn.enc a0] fun r=>[V.bool r]):=snd (fun q=>zl2.eq_2 ..) trivial
def zbii:= @zbbs
abbrev zbij (q:Nat):Prop:= ∀(v0z:Bool) (v0l:List zkn) (v5z:Bool) (v5l:List zkn) (v6 v7:Int),Aq q (zl3 q v0z v0l v5z v5l v6 v7) fun M r=> ∀A,some [V.bool r]=A-> ∀j,q<=j->Lz T (M+7) 0 [0,5,6,7] [.blk 0, .code (.seq (.reg [mc 2 (.bool true)]) .ret)] zta j (fin [.tmp 2] [[]]) [(0,(.sl v0z (List.map zkn.enc v0l))),(5,(.sl v5z (List.map zkn.enc v5l))),(6,(.int .i64 v6)),(7,(.int .i64 v7))] [] A
instance zbik: ∀q,zbij q:=lp1 @zbii @zl3.eq_2
instance zbil (a0:(Sl zkn)): ∀q,Aq q (zl4 q a0) (Dp T 32 [(Sl.enc zkn.enc) a0] fun r=>[V.bool r]):=snd (fun q=>zl4.eq_2 ..) @zbii
instance zbim (a0:zko): ∀q,Aq q (zl5 q a0) (Dp T 9 [zko.enc a0] fun r=>[V.bool r]):=snd (fun q=>zl5.eq_2 ..) (ai @zbaj<| @zbak)
def zbin (q:Nat):Prop:= ∀M,8*q<=M-> ∀j,q<=j-> ∀(w0:Nat) (v1:Int) (h0z:Bool) (h0l:List Int) (h0x:Bool) (r:(Ow Int)),zl6 q v1 h0z h0l h0x=some r->LS T (M+7) 1 [0,1] [.blk 0, .code (.seq (.reg [mt 15 0,mt 16 1,mo 17 (.conv .u8 (.t 16)),mo 18 (.bsl 1 [.t 17] 0),mo 19 (.app (.t 15) (.t 18) 1),mt 4 19]) .ret)] zv9 j (fin [.tmp 4] [[2]]) (some [(Ow.enc 1 (V.int .u8)) r]) [(0,(.vw 0 w0 0 h0l.length 1)),(1,(.int .u64 v1))] [(.row w0 h0z 1 (List.map (V.int .u8) h0l) h0x)]
def zbio:=ai @kk<| ai @ke<| @kn
theorem zbip (q:Nat) (zbll:zbin q):zbin (q+1):=by
 intro M hM j hj w0 v1 h0z h0l h0x r h R hR fr H hc
 obtain ⟨j,rfl⟩: ∃i,j=i+1:=⟨j - 1,by omega⟩
 rw [zh1,hc];clear hc
 rw [zl6] at h
 replace h:=br h;rcases h with ⟨h1,h⟩ | ⟨h1,h⟩
 ·replace h:=bn h;obtain ⟨h2,h⟩:=h
  replace h:=zbll M (by omega) j (by omega) (w0+1) _ _ _ _ _ h R hR
  simp only [zbio,simprocAttr, *]
 ·replace h:=bn h;obtain ⟨h3,h⟩:=h
  cases h;subst hR;simp only [zbio,simprocAttr, *]
theorem zbiq: ∀q,zbin q
 | 0=>by intro M hM j hj;intros;rename_i h;cases h
 | q+1=>by have i0:=zbiq q;exact zbip q i0
instance zbir (a0:(Ow Int)) (a1:Int): ∀q,Aq q (zl7 q a0 a1) (Dp T 94 [(Ow.enc 1 (V.int .u8)) a0,(V.int .u64) a1] fun r=>[(Ow.enc 1 (V.int .u8)) r]):=sndo (fun q=>zl7.eq_2 ..) (hs:=by
 intro q M hM r h R hR
 have zbll:=(zbiq q)
 replace h:=zbll M (by omega) (M+7) (by omega) 0 _ _ _ _ _ h R hR
 simp only [zbio,simprocAttr, *])
instance zbis (a0:(Ow Int)) (a1:Int): ∀q,Aq q (zl8 q a0 a1) (Dp T 93 [(Ow.enc 1 (V.int .u8)) a0,(V.int .i64) a1] fun r=>[(Ow.enc 1 (V.int .u8)) r]):=snd (fun q=>zl8.eq_2 ..) @zbbu
instance zbit (a0:Int): ∀q,Aq q (zl9 q a0) (Dp T 95 [(V.int .i64) a0] fun r=>[(V.int .u64) r]):=snd (fun q=>zl9.eq_2 ..) trivial
instance zbiu (a0:(Ow Int)) (a1:Int): ∀q,Aq q (zma q a0 a1) (Dp T 41 [(Ow.enc 1 (V.int .u8)) a0,(V.int .i64) a1] fun r=>[(Ow.enc 1 (V.int .u8)) r]):=snd (fun q=>zma.eq_2 ..) (ai @zbbu<| @zbbv)
def zbiv (q:Nat):Prop:= ∀M,8*q<=M-> ∀j,q<=j-> ∀(v5:Int) (h0_0 h1_0:List Int) (r:(List Int)),zmb q v5 h0_0 h1_0=some r->LS T (M+7) 0 [0,1,5] [.blk 0, .code (.seq (.reg [mo 25 (.load (.t 1) 256 true),ms 0 25 256]) .ret)] z13 j (fin [.cell 0 256 true] [[]]) (some [(arrEnc (V.int .u32)) r]) [(0,(.ptr 0 0)),(1,(.ptr 1 0)),(5,(.int .i64 v5))] [(.box (List.map (V.int .u32) h0_0)),(.box (List.map (V.int .u32) h1_0))]
def zbiw (q:Nat):Prop:= ∀M,8*q<=M-> ∀j,q<=j-> ∀j1,q<=j1-> ∀(v2 v3 v5 v10:Int) (h0_0 h1_0:List Int) (r:(List Int)),zmc q v2 v3 v5 v10 h0_0 h1_0=some r->LS T (M+7) 0 [0,1,2,3,5,10] [.blk 2, .code (.reg [mt 21 2,mt 22 3,mo 23 (.aaddr (.t 1) (.t 21) 256 1),ms 23 22 1]), .blk 1, .code (.reg [mk 24 .add 5 1,mt 5 24]), .rounds [0,1,5] z13 j1, .blk 0, .code (.seq (.reg [mo 25 (.load (.t 1) 256 true),ms 0 25 256]) .ret)] z11 j (fin [.cell 0 256 true] [[]]) (some [(arrEnc (V.int .u32)) r]) [(0,(.ptr 0 0)),(1,(.ptr 1 0)),(2,(.int .i64 v2)),(3,(.int .u32 v3)),(5,(.int .i64 v5)),(10,(.int .i64 v10))] [(.box (List.map (V.int .u32) h0_0)),(.box (List.map (V.int .u32) h1_0))]
def zbix:=ai @kk<| ai @ke<| @kn
theorem zbiy (q:Nat) (zblm:zbiw q):zbiv (q+1):=by
 intro M hM j hj v5 h0_0 h1_0 r h R hR fr H hc
 obtain ⟨j,rfl⟩: ∃i,j=i+1:=⟨j - 1,by omega⟩
 rw [zh1,hc];clear hc
 rw [zmb] at h
 replace h:=br h;rcases h with ⟨h1,h⟩ | ⟨h1,h⟩
 ·replace h:=zblm M (by omega) (M+7) (by omega) j (by omega) _ _ _ _ _ _ _ h R hR
  simp (maxDischargeDepth:=12) only [zbix,simprocAttr,arrEnc, *]
 ·replace h:=bn h;obtain ⟨h2,h⟩:=h
  replace h:=bc h;rcases h with ⟨h3,h⟩ | ⟨h3,h⟩
  ·replace h:=bn h;obtain ⟨h4,h⟩:=h
   replace h:=bn h;obtain ⟨h5,h⟩:=h
   cases h;subst hR;simp (maxDischargeDepth:=12) only [zbix,simprocAttr,arrEnc, *]
  ·cases h
theorem zbiz (q:Nat) (zbln:zbiv q) (zblm:zbiw q):zbiw (q+1):=by
 intro M hM j hj j1 hj1 v2 v3 v5 v10 h0_0 h1_0 r h R hR fr H hc
 obtain ⟨j,rfl⟩: ∃i,j=i+1:=⟨j - 1,by omega⟩
 rw [zh1,hc];clear hc
 rw [zmc] at h
 replace h:=br h;rcases h with ⟨h1,h⟩ | ⟨h1,h⟩
 ·replace h:=zblm M (by omega) j (by omega) j1 (by omega) _ _ _ _ _ _ _ h R hR
  simp (maxDischargeDepth:=12) only [zbix,simprocAttr,arrEnc, *]
 ·replace h:=bn h;obtain ⟨h2,h⟩:=h
  replace h:=bn h;obtain ⟨h3,h⟩:=h
  replace h:=bn h;obtain ⟨h4,h⟩:=h
  replace h:=zbln M (by omega) j1 (by omega) _ _ _ _ h R hR
  simp (maxDischargeDepth:=12) only [zbix,simprocAttr,arrEnc, *]
theorem zbi0: ∀q,zbiv q/\zbiw q
 | 0=>by refine ⟨?_,?_⟩<;>(intro M hM j hj;intros;rename_i h;cases h)
 | q+1=>by have ⟨i0,i1⟩:=zbi0 q;exact ⟨zbiy q i1,zbiz q i0 i1⟩
instance zbi1: ∀q,Aq q (zmd q) (Dp T 212 [] fun r=>[(arrEnc (V.int .u32)) r]):=sndo (fun q=>zmd.eq_2 ..) (hs:=by
 intro q M hM r h R hR
 have zbln:=(zbi0 q).1
 replace h:=zbln M (by omega) (M+7) (by omega) _ _ _ _ h R hR
 simp (maxDischargeDepth:=12) only [zbix,simprocAttr,arrEnc, *])
def zbi2:= @zbdm
abbrev zbi3 (q:Nat):Prop:= ∀(v6:Int) (v12z:Bool) (v12l:List Int) (v13 v14:Int) (h0_0:List Int),Aq q (zme q v6 v12z v12l v13 v14 h0_0) fun M r=> ∀A,some [(V.int .u32) r]=A-> ∀j,q<=j->Lz T (M+7) 0 [5,6,12,13,14] [.blk 0, .code (.seq (.reg [mt 28 6,mo 29 (.un .xor (.t 28)),mt 4 29]) .ret)] zy8 j (fin [.tmp 4] [[]]) [(5,(.ptr 0 0)),(6,(.int .u32 v6)),(12,(.sl v12z (List.map (V.int .u8) v12l))),(13,(.int .i64 v13)),(14,(.int .i64 v14))] [(.box (List.map (V.int .u32) h0_0))] A
instance zbi4: ∀q,zbi3 q:=lp1 @zbi2 @zme.eq_2
instance zbi5 (a0:Int) (a1:(Sl Int)): ∀q,Aq q (zmf q a0 a1) (Dp T 156 [(V.int .u32) a0,(Sl.enc (V.int .u8)) a1] fun r=>[(V.int .u32) r]):=sndc (fun q=>zmf.eq_2 ..) @zbi2
instance zbi6 (a0:(Sl Int)): ∀q,Aq q (zmg q a0) (Dp T 157 [(Sl.enc (V.int .u8)) a0] fun r=>[(V.int .u32) r]):=snd (fun q=>zmg.eq_2 ..) @zbcn
def zbi7:=trivial
abbrev zbi8 (q:Nat):Prop:= ∀(v0 v7 v8:Int) (h0z:Bool) (h0l:List Int),Aq q (zmh q v0 v7 v8 h0z h0l) fun M r=> ∀A,some [(Ow.enc 1 (V.int .u8)) r]=A-> ∀j,q<=j->Lz T (M+7) 0 [0,5,7,8] [.blk 0, .code (.seq (.reg [mt 20 5,mt 4 20]) .ret)] z1y j (fin [.tmp 4] [[2]]) [(0,(.int .u64 v0)),(5,(.vw 0 0 0 h0l.length 1)),(7,(.int .i64 v7)),(8,(.int .i64 v8))] [(.row 0 h0z 1 (List.map (V.int .u8) h0l) true)] A
instance zbi9: ∀q,zbi8 q:=lp1 @zbi7 @zmh.eq_2
instance zbja (a0 a1:Int): ∀q,Aq q (zmi q a0 a1) (Dp T 211 [(V.int .u64) a0,(V.int .i64) a1] fun r=>[(Ow.enc 1 (V.int .u8)) r]):=snd (fun q=>zmi.eq_2 ..) @zbi7
instance zbjb (a0:Int): ∀q,Aq q (zmj q a0) (Dp T 155 [(V.int .u32) a0] fun r=>[(Ow.enc 1 (V.int .u8)) r]):=snd (fun q=>zmj.eq_2 ..) @zbdl
instance zbjc (a0 a1:(Sl Int)): ∀q,Aq q (zmk q a0 a1) (Dp T 97 [(Sl.enc (V.int .u8)) a0,(Sl.enc (V.int .u8)) a1] fun r=>[(Ow.enc 1 (V.int .u8)) r]):=snd (fun q=>zmk.eq_2 ..) (ai @zbcm<| ai @zbcn<| @zbco)
def zbjd:= @zbcl
abbrev zbje (q:Nat):Prop:= ∀(v0z:Bool) (v0l:List (Sl Int)) (v3:Int) (v9z:Bool) (v9l:List (Sl Int)) (v10 v11:Int),Aq q (zmo q v0z v0l v3 v9z v9l v10 v11) fun M r=> ∀A,some [(Ow.enc 1 (V.int .u8)) r]=A-> ∀j,q<=j->Lz T (M+7) 0 [0,3,9,10,11] [.blk 0, .code zwg] zwd j (fin [.tmp 2] [[2]]) [(0,(.sl v0z (List.map (Sl.enc (V.int .u8)) v0l))),(3,(.int .i64 v3)),(9,(.sl v9z (List.map (Sl.enc (V.int .u8)) v9l))),(10,(.int .i64 v10)),(11,(.int .i64 v11))] [] A
abbrev zbjf (q:Nat):Prop:= ∀(v6len:Nat) (v25z:Bool) (v25l:List (Sl Int)) (v26 v27:Int) (h0z:Bool) (h0l:List Int),Aq q (zml q v6len v25z v25l v26 v27 h0z h0l) fun M r=> ∀A,some [(Ow.enc 1 (V.int .u8)) r]=A-> ∀j,q<=j->Lz T (M+7) 0 [6,25,26,27] [.blk 2, .code (.seq (.reg [mt 35 6,mt 2 35]) .ret)] zwf j (fin [.tmp 2] [[2]]) [(6,(.vw 0 0 0 v6len 0)),(25,(.sl v25z (List.map (Sl.enc (V.int .u8)) v25l))),(26,(.int .i64 v26)),(27,(.int .i64 v27))] [(.row 0 h0z 1 (List.map (V.int .u8) h0l) true)] A
abbrev zbjg (q:Nat):Prop:= ∀(v25z:Bool) (v25l:List (Sl Int)) (v26:Int),Aq q (zmn q v25z v25l v26) fun M r=> ∀A,some [(Ow.enc 1 (V.int .u8)) r]=A-> ∀j,q<=j->Lz T (M+7) 0 [6,25,26,27] [.blk 2, .code (.seq (.reg [mt 35 6,mt 2 35]) .ret)] zwf j (fin [.tmp 2] [[2]]) [(6,(.sl true [])),(25,(.sl v25z (List.map (Sl.enc (V.int .u8)) v25l))),(26,(.int .i64 v26)),(27,(.int .i64 0))] [] A
abbrev zbjh (q:Nat):Prop:= ∀(v25z:Bool) (v25l:List (Sl Int)) (v26 v27:Int) (h0z:Bool) (h0l:List Int),Aq q (zmm q v25z v25l v26 v27 h0z h0l) fun M r=> ∀A,some [(Ow.enc 1 (V.int .u8)) r]=A-> ∀j,q<=j->Lz T (M+7) 0 [6,25,26,27] [.blk 2, .code (.seq (.reg [mt 35 6,mt 2 35]) .ret)] zwf j (fin [.tmp 2] [[2]]) [(6,(.vw 0 0 0 h0l.length 1)),(25,(.sl v25z (List.map (Sl.enc (V.int .u8)) v25l))),(26,(.int .i64 v26)),(27,(.int .i64 v27))] [(.row 0 h0z 1 (List.map (V.int .u8) h0l) true)] A
theorem zbji: ∀q,zbje q/\zbjf q/\zbjg q/\zbjh q:=lpn @zbjd (ai @zmo.eq_2<| ai @zml.eq_2<| ai @zmn.eq_2<| @zmm.eq_2)
instance zbjj (q):zbje q:=(zbji q).1
instance zbjk (q):zbjf q:=(zbji q).2.1
instance zbjl (q):zbjg q:=(zbji q).2.2.1
instance zbjm (q):zbjh q:=(zbji q).2.2.2
instance zbjn (a0:(Sl (Sl Int))): ∀q,Aq q (zmp q a0) (Dp T 96 [(Sl.enc (Sl.enc (V.int .u8))) a0] fun r=>[(Ow.enc 1 (V.int .u8)) r]):=snd (fun q=>zmp.eq_2 ..) @zbjd
instance zbjo (a0:(Sl Int)): ∀q,Aq q (zmq q a0) (Dp T 42 [(Sl.enc (V.int .u8)) a0] fun r=>[(Ow.enc 1 (V.int .u8)) r.1,(V.int .i64) r.2]):=snd (fun q=>zmq.eq_2 ..) (ai @zbbt<| ai @zbbw<| @zbbx)
instance zbjp (a0:Int): ∀q,Aq q (zmr q a0) (Dp T 159 [(V.int .u8) a0] fun r=>[V.bool r]):=snd (fun q=>zmr.eq_2 ..) trivial
def zbjq (q:Nat):Prop:= ∀M,8*q<=M-> ∀j,q<=j-> ∀(v0z:Bool) (v0l:List Int) (v7 v8 r:Int),zms q v0z v0l v7 v8=some r->LS T (M+5) 0 [0,1,7,8] [.blk 0, .code (.seq (.reg [mc 4 (.int .i64 (-1))]) .ret)] z16 j (finI 0 false [.tmp 4]) ((some ([(.int .i64 r)],[]):Option (List V×Hp))) [(0,(.sl v0z (List.map (V.int .u8) v0l))),(1,(.fn 159 [])),(7,(.int .i64 v7)),(8,(.int .i64 v8))] []
def zbjr:=ai @kk<| ai @ke<| ai @kn<| @zbcr
theorem zbjs (q:Nat) (zblo:zbjq q):zbjq (q+1):=by
 intro M hM j hj v0z v0l v7 v8 r h R hR fr H hc
 obtain ⟨j,rfl⟩: ∃i,j=i+1:=⟨j - 1,by omega⟩
 rw [zh1,hc];clear hc
 rw [zms] at h
 replace h:=br h;rcases h with ⟨h1,h⟩ | ⟨h1,h⟩
 ·replace h:=bn h;obtain ⟨h2,h⟩:=h
  replace h:=ob h;obtain ⟨e1,h3,h⟩:=h
  replace h:=ob h;obtain ⟨r2,h4,h⟩:=h
  replace h4:=us1 (q:=q) (M:=M) (by omega) h4 5
  try simp only [kf,simprocAttr] at h4
  replace h:=bb h;rcases h with ⟨h5',h5,h⟩ | ⟨h5',h5,h⟩
  ·cases h;subst hR;simp only [zbjr,simprocAttr, *]
  ·replace h:=zblo M (by omega) j (by omega) _ _ _ _ _ h R hR
   simp only [zbjr,simprocAttr, *]
 ·cases h;subst hR;simp only [zbjr,simprocAttr, *]
theorem zbjt: ∀q,zbjq q
 | 0=>by intro M hM j hj;intros;rename_i h;cases h
 | q+1=>by have i0:=zbjt q;exact zbjs q i0
theorem zbju: ∀(q M:Nat),8*q<=M-> ∀(v0z:Bool),∀(v0l:List Int),∀(r:Int),zmt q v0z v0l=some r->(orc T (M+6)).inl 213 [(.sl v0z (List.map (V.int .u8) v0l)),(.fn 159 [])] []=(some ([(.int .i64 r)],[]):Option (List V×Hp)):=by
 intro q M hM v0z v0l r h
 rcases q with _ | q
 ·cases h
 have zblo:=(zbjt q)
 refine byR fun R hR=>?_
 rw [zbdo.2 (n:=M+5)]
 rw [zmt] at h
 replace h:=zblo M (by omega) (M+5) (by omega) _ _ _ _ _ h R hR
 simp only [zbjr,simprocAttr, *]
def zbjv:=ai @kk<| ai @ke<| ai @kn<| ai @zbdn<| @zbcq
instance zbjw (a0:(Sl Int)): ∀q,Aq q (zmu q a0) (Dp T 98 [(Sl.enc (V.int .u8)) a0] fun r=>[V.bool r]):=sndo (fun q=>zmu.eq_2 ..) (hs:=by
 intro q M hM r h R hR
 replace h:=br h;rcases h with ⟨h1,h⟩ | ⟨h1,h⟩
 ·replace h:=ob h;obtain ⟨r1,h2,h⟩:=h
  replace h2:=zbju q M (by omega) _ _ _ h2
  try simp only [kf,simprocAttr] at h2
  cases h;subst hR;simp only [zbjv,simprocAttr, *]
 ·cases h;subst hR;simp only [zbjv,simprocAttr, *])
def zbjx:=trivial
abbrev zbjy (q:Nat):Prop:= ∀(v0z:Bool) (v0l:List Int) (v4 v9 v10:Int),Aq q (zmv q v0z v0l v4 v9 v10) fun M r=> ∀A,some [(V.int .u64) r.1,(V.int .i64) r.2]=A-> ∀j,q<=j->Lz T (M+7) 0 [0,4,9,10] [.blk 0, .code (.seq (.reg [mc 2 (.int .u64 0),mz 3 0]) .ret)] zze j (fin [.tmp 2, .tmp 3] [[],[]]) [(0,(.sl v0z (List.map (V.int .u8) v0l))),(4,(.int .u64 v4)),(9,(.int .i64 v9)),(10,(.int .i64 v10))] [] A
instance zbjz: ∀q,zbjy q:=lp1 @zbjx @zmv.eq_2
instance zbj0 (a0:(Sl Int)): ∀q,Aq q (zmw q a0) (Dp T 160 [(Sl.enc (V.int .u8)) a0] fun r=>[(V.int .u64) r.1,(V.int .i64) r.2]):=snd (fun q=>zmw.eq_2 ..) @zbjx
instance zbj1 (a0:(Sl Int)): ∀q,Aq q (zmx q a0) (Dp T 99 [(Sl.enc (V.int .u8)) a0] fun r=>[(V.int .i64) r.1,(V.int .i64) r.2]):=snd (fun q=>zmx.eq_2 ..) @zbcs
def zbj2:=trivial
abbrev zbj3 (q:Nat):Prop:= ∀(v0z:Bool) (v0l:List Int) (v1z:Bool) (v1l:List Int) (v12 v13:Int),Aq q (zmy q v0z v0l v1z v1l v12 v13) fun M r=> ∀A,some [V.bool r]=A-> ∀j,q<=j->Lz T (M+7) 0 [0,1,12,13] [.blk 0, .code (.seq (.reg [mc 4 (.bool true)]) .ret)] zwk j (fin [.tmp 4] [[]]) [(0,(.sl v0z (List.map (V.int .u8) v0l))),(1,(.sl v1z (List.map (V.int .u8) v1l))),(12,(.int .i64 v12)),(13,(.int .i64 v13))] [] A
instance zbj4: ∀q,zbj3 q:=lp1 @zbj2 @zmy.eq_2
instance zbj5 (a0 a1:(Sl Int)): ∀q,Aq q (zmz q a0 a1) (Dp T 100 [(Sl.enc (V.int .u8)) a0,(Sl.enc (V.int .u8)) a1] fun r=>[V.bool r]):=snd (fun q=>zmz.eq_2 ..) @zbj2
instance zbj6 (a0:(Sl Int)): ∀q,Aq q (zm0 q a0) (Dp T 101 [(Sl.enc (V.int .u8)) a0] fun r=>[(Ow.enc 1 (V.int .u8)) r]):=snd (fun q=>zm0.eq_2 ..) trivial
instance zbj7 (a0:(Sl Int)): ∀q,Aq q (zm1 q a0) (Dp T 43 [(Sl.enc (V.int .u8)) a0] fun r=>[(Ow.enc 1 (V.int .u8)) r.1,(V.int .i64) r.2.1,(V.int .i64) r.2.2]):=snd (fun q=>zm1.eq_2 ..) (ai @zbao<| ai @zbbx<| ai @zbby<| ai @zbbz<| ai @zbb0<| @zbb1)
instance zbj8 (a0:Int): ∀q,Aq q (zm2 q a0) (Dp T 214 [(V.int .u64) a0] fun r=>[(V.int .i64) r]):=snd (fun q=>zm2.eq_2 ..) trivial
instance zbj9 (a0:(Sl Int)): ∀q,Aq q (zm3 q a0) (Dp T 163 [(Sl.enc (V.int .u8)) a0] fun r=>[(V.int .i64) r.1,(V.int .i64) r.2]):=snd (fun q=>zm3.eq_2 ..) (ai @zbcs<| @zbdp)
def FS:Nat->List V->Option (List V)
 | 212,[]=>(I.zmd 2570).map fun r=>[.agg (r.map (V.int .u32))]
 | _,_=>none
theorem fs_ok: ∀f ds r,FS f ds=some r-> ∀M,20560<=M->(orc T M).deep f ds=some r:=by
 intro f ds r h M hM
 unfold FS at h
 split at h
 ·obtain ⟨x,hx,rfl⟩:=Option.map_eq_some_iff.1 h;exact us (q:=2570) hM hx 0
 ·cases h
theorem zbka:(orcE T FS 800).deep 15 []=some [.bool true]:=by kernel_rfl
instance zbkb: ∀q,Aq q (zm4 q) (Dp T 15 [] fun r=>[V.bool r]):=fun q=>⟨by
 intro M hM r h k
 unfold I.zm4 at h
 split at h
 ·cases h;exact closed fs_ok zbka (by omega)
 ·cases h⟩
instance zbkc (a0:Int): ∀q,Aq q (zm5 q a0) (Dp T 52 [(V.int .i64) a0] fun r=>[zkm.enc r]):=snd (fun q=>zm5.eq_2 ..) trivial
instance zbkd (a0:Int): ∀q,Aq q (zm6 q a0) (Dp T 53 [(V.int .i64) a0] fun r=>[zkm.enc r]):=snd (fun q=>zm6.eq_2 ..) trivial
def zbke:= @zbap
abbrev zbkf (q:Nat):Prop:= ∀(v0z:Bool) (v0l:List Int) (v3:Int) (h0z:Bool) (h0l:List (Sl Int)),Aq q (zm7 q v0z v0l v3 h0z h0l) fun M r=> ∀A,some [(Ow.enc 1 (Sl.enc (V.int .u8))) r.1,(V.int .i64) r.2.1,(V.int .i64) r.2.2]=A-> ∀j,q<=j->Lz T (M+7) 0 [0,2,3] [.blk 0, .code (.seq (.reg [mt 32 2,mt 33 3,mt 2 32,mt 3 33,mz 4 0]) .ret)] z2l j (fin [.tmp 2, .tmp 3, .tmp 4] [[2],[],[]]) [(0,(.sl v0z (List.map (V.int .u8) v0l))),(2,(.vw 0 0 0 h0l.length 1)),(3,(.int .i64 v3))] [(.row 0 h0z 1 (List.map (Sl.enc (V.int .u8)) h0l) true)] A
instance zbkg: ∀q,zbkf q:=lp1 @zbke @zm7.eq_2
instance zbkh (a0:(Sl Int)): ∀q,Aq q (zm8 q a0) (Dp T 223 [(Sl.enc (V.int .u8)) a0] fun r=>[(Ow.enc 1 (Sl.enc (V.int .u8))) r.1,(V.int .i64) r.2.1,(V.int .i64) r.2.2]):=snd (fun q=>zm8.eq_2 ..) @zbke
instance zbki (a0:(Sl Int)): ∀q,Aq q (zm9 q a0) (Dp T 184 [(Sl.enc (V.int .u8)) a0] fun r=>[(Ow.enc 1 (Sl.enc (V.int .u8))) r.1,(V.int .i64) r.2]):=snd (fun q=>zm9.eq_2 ..) @zbdu
instance zbkj (a0:Int): ∀q,Aq q (zna q a0) (Dp T 166 [(V.int .i64) a0] fun r=>[V.bool r]):=snd (fun q=>zna.eq_2 ..) trivial
instance zbkk (a0:(Sl Int)): ∀q,Aq q (znb q a0) (Dp T 286 [(Sl.enc (V.int .u8)) a0] fun r=>[zkp.enc r.1,(V.int .i64) r.2]):=snd (fun q=>znb.eq_2 ..) (ai @zbfl<| ai @zba6<| ai @zbbz<| ai @zbct<| ai @zbeq<| ai @zbe9<| ai @zbfb<| @zbfd)
def zbkl:=(ai @zbbz<| ai @zbct<| @zbfm)
abbrev zbkm (q:Nat):Prop:= ∀(v3 v47_0 v47_1 v47_2 v47_3 v48 h0_1 h0_2 h0_3 h0_4 h0_5 h0_6:Int),Aq q (znc q v3 v47_0 v47_1 v47_2 v47_3 v48 h0_1 h0_2 h0_3 h0_4 h0_5 h0_6) fun M r=> ∀A,some [zkq.enc r.1,(V.int .i64) r.2]=A-> ∀j,q<=j->Lz T (M+7) 0 [2,3,47,48] [.blk 0, .code (.seq (.reg [mo 58 (.load (.t 2) 7 true),mt 59 3,ms 2 58 7,mt 3 59]) .ret)] z69 j (fin [.cell 2 7 true, .tmp 3] [[],[]]) [(2,(.ptr 0 0)),(3,(.int .i64 v3)),(47,(.agg [(.int .i64 v47_0),(.int .i64 v47_1),(.int .i64 v47_2),(.int .i64 v47_3)])),(48,(.int .i64 v48))] [(.box [(.int .i64 0),(.int .i64 h0_1),(.int .i64 h0_2),(.int .i64 h0_3),(.int .i64 h0_4),(.int .i64 h0_5),(.int .i64 h0_6)])] A
instance zbkn: ∀q,zbkm q:=lp1c @zbkl @znc.eq_2
instance zbko (a0:(Sl Int)): ∀q,Aq q (znd q a0) (Dp T 270 [(Sl.enc (V.int .u8)) a0] fun r=>[zkq.enc r.1,(V.int .i64) r.2]):=snd (fun q=>znd.eq_2 ..) @zbkl
def zbkp:= @zbag
abbrev zbkq (q:Nat):Prop:= ∀(v0z:Bool) (v0l:List zkq) (v5z:Bool) (v5l:List zkq) (v6 v7:Int),Aq q (zne q v0z v0l v5z v5l v6 v7) fun M r=> ∀A,some [V.bool r]=A-> ∀j,q<=j->Lz T (M+7) 0 [0,5,6,7] [.blk 0, .code zzk] zzj j (fin [.tmp 2] [[]]) [(0,(.sl v0z (List.map zkq.enc v0l))),(5,(.sl v5z (List.map zkq.enc v5l))),(6,(.int .i64 v6)),(7,(.int .i64 v7))] [] A
instance zbkr: ∀q,zbkq q:=lp1 @zbkp @zne.eq_2
instance zbks (a0:(Sl zkq)): ∀q,Aq q (znf q a0) (Dp T 164 [(Sl.enc zkq.enc) a0] fun r=>[V.bool r]):=snd (fun q=>znf.eq_2 ..) @zbkp
instance zbkt (a0:(Ow Int)) (a1:zkp): ∀q,Aq q (zng q a0 a1) (Dp T 165 [(Ow.enc 1 (V.int .u8)) a0,zkp.enc a1] fun r=>[(Ow.enc 1 (V.int .u8)) r.1,(V.int .i64) r.2]):=snd (fun q=>zng.eq_2 ..) (ai @zbcv<| ai @zbam<| ai @zba6<| @zbbt)
def zbku:=(ai @zbb2<| ai @zbam<| ai @zbbt<| ai @zbcu<| @zbcw)
abbrev zbkv (q:Nat):Prop:= ∀(v20z:Bool) (v20l:List zkq) (v21 v22:Int) (h0m:List (Int×Int)) (h1z:Bool) (h1l:List Int) (h1x:Bool),Aq q (znh q v20z v20l v21 v22 h0m h1z h1l h1x) fun M r=> ∀A,some [(Ow.enc 1 (V.int .u8)) r.1,(V.int .i64) r.2]=A-> ∀j,q<=j->Lz T (M+7) 0 [4,5,20,21,22] [.blk 0, .code (.seq (.reg [mt 55 5,mt 2 55,mz 3 0]) .ret)] zwr j (fin [.tmp 2, .tmp 3] [[2],[]]) [(4,(.mp 0)),(5,(.vw 1 0 0 h1l.length 1)),(20,(.sl v20z (List.map zkq.enc v20l))),(21,(.int .i64 v21)),(22,(.int .i64 v22))] [(.map h0m),(.row 0 h1z 1 (List.map (V.int .u8) h1l) h1x)] A
instance zbkw: ∀q,zbkv q:=lp1 @zbku @znh.eq_2
instance zbkx (a0:(Sl zkq)): ∀q,Aq q (zni q a0) (Dp T 106 [(Sl.enc zkq.enc) a0] fun r=>[(Ow.enc 1 (V.int .u8)) r.1,(V.int .i64) r.2]):=snd (fun q=>zni.eq_2 ..) @zbku
instance zbky (a0 a1:(Sl Int)): ∀q,Aq q (znj q a0 a1) (Dp T 222 [(Sl.enc (V.int .u8)) a0,(Sl.enc (V.int .u8)) a1] fun r=>[V.bool r]):=snd (fun q=>znj.eq_2 ..) trivial
def zbkz:=(ai @zbei<| ai @zbbz<| ai @zbb3<| ai @zbdt<| @zbe4)
abbrev zbk0 (q:Nat):Prop:= ∀(v0z:Bool) (v0l:List Int) (v4:Int) (v10z:Bool) (v10l:List Int) (v44 v45:Int) (h0m:List (Int×Int)) (h1z:Bool) (h1l:List zkq),Aq q (znk q v0z v0l v4 v10z v10l v44 v45 h0m h1z h1l) fun M r=> ∀A,some [(Ow.enc 7 zkq.enc) r.1,(V.int .i64) r.2]=A-> ∀j,q<=j->Lz T (M+7) 0 [0,4,8,9,10,44,45] [.blk 0, .code z46] z44 j (fin [.tmp 2, .tmp 3] [[8],[]]) [(0,(.sl v0z (List.map (V.int .u8) v0l))),(4,(.int .i64 v4)),(8,(.mp 0)),(9,(.vw 1 0 0 h1l.length 1)),(10,(.sl v10z (List.map (V.int .u8) v10l))),(44,(.int .i64 v44)),(45,(.int .i64 v45))] [(.map h0m),(.row 0 h1z 7 (List.map zkq.enc h1l) true)] A
instance zbk1: ∀q,zbk0 q:=lp1 @zbkz @znk.eq_2
instance zbk2 (a0:(Sl Int)): ∀q,Aq q (znl q a0) (Dp T 244 [(Sl.enc (V.int .u8)) a0] fun r=>[(Ow.enc 7 zkq.enc) r.1,(V.int .i64) r.2]):=snd (fun q=>znl.eq_2 ..) @zbkz
def zbk3:= @zbag
abbrev zbk4 (q:Nat):Prop:= ∀(v0z:Bool) (v0l:List zkq) (v1:Int) (v7z:Bool) (v7l:List zkq) (v8 v9:Int),Aq q (znm q v0z v0l v1 v7z v7l v8 v9) fun M r=> ∀A,some [V.bool r]=A-> ∀j,q<=j->Lz T (M+7) 0 [0,1,7,8,9] [.blk 0, .code (.seq (.reg [mt 26 0,mh 27 26,mk 28 .leq 27 4096,mt 4 28]) .ret)] zzs j (fin [.tmp 4] [[]]) [(0,(.sl v0z (List.map zkq.enc v0l))),(1,(.int .i64 v1)),(7,(.sl v7z (List.map zkq.enc v7l))),(8,(.int .i64 v8)),(9,(.int .i64 v9))] [] A
instance zbk5: ∀q,zbk4 q:=lp1 @zbk3 @znm.eq_2
instance zbk6 (a0:(Sl zkq)) (a1:Int): ∀q,Aq q (znn q a0 a1) (Dp T 180 [(Sl.enc zkq.enc) a0,(V.int .i64) a1] fun r=>[V.bool r]):=snd (fun q=>znn.eq_2 ..) @zbk3
instance zbk7 (a0:Int): ∀q,Aq q (zno q a0) (Dp T 275 [(V.int .i64) a0] fun r=>[(Ow.enc 1 (V.int .i64)) r]):=sndc (fun q=>zno.eq_2 ..) trivial
def zbk8:=trivial
abbrev zbk9 (q:Nat):Prop:= ∀(v0z:Bool) (v0l:List Int) (v1 v7 v8:Int),Aq q (znp q v0z v0l v1 v7 v8) fun M r=> ∀A,some [(V.int .i64) r]=A-> ∀j,q<=j->Lz T (M+7) 0 [0,1,7,8] [.blk 0, .code (.seq (.reg [mc 4 (.int .i64 (-1))]) .ret)] z9n j (fin [.tmp 4] [[]]) [(0,(.sl v0z (List.map (V.int .i64) v0l))),(1,(.int .i64 v1)),(7,(.int .i64 v7)),(8,(.int .i64 v8))] [] A
instance zbla: ∀q,zbk9 q:=lp1 @zbk8 @znp.eq_2
instance zblb (a0:(Sl Int)) (a1:Int): ∀q,Aq q (znq q a0 a1) (Dp T 318 [(Sl.enc (V.int .i64)) a0,(V.int .i64) a1] fun r=>[(V.int .i64) r]):=snd (fun q=>znq.eq_2 ..) @zbk8
instance zblc (a0:(Sl Int)): ∀q,Aq q (znr q a0) (Dp T 320 [(Sl.enc (V.int .u8)) a0] fun r=>[(V.int .i64) r]):=snd (fun q=>znr.eq_2 ..) @zbbz
def zbld:=(ai @zbag<| ai @zbal<| ai @zbbz<| ai @zbcc<| ai @zbct<| ai @zbe5<| ai @zbfm<| ai @zbfx<| ai @zbf0<| @zbfz)
abbrev zble (q:Nat):Prop:= ∀(v0:Int) (v1z:Bool) (v1l:List Int) (v7 h0_0 h0_1 h0_2 h0_3 h0_4 h0_5 h0_6:Int) (h1z:Bool) (h1l:List Int) (h1x:Bool),Aq q (zns q v0 v1z v1l v7 h0_0 h0_1 h0_2 h0_3 h0_4 h0_5 h0_6 h1z h1l h1x) fun M r=> ∀A,some [zkq.enc r.1,(V.int .i64) r.2]=A-> ∀j,q<=j->Lz T (M+7) 0 [0,1,4,6,7] [.blk 0, .code (.seq (.blk 3 (.seq (.reg [mt 66 6,mh 67 66,mk 68 .gtr 67 0,mt 65 68]) z9i)) (.seq (.reg [mo 75 (.load (.t 4) 7 true),ms 4 75 7,mz 5 0]) .ret))] z9h j (fin [.cell 4 7 true, .tmp 5] [[],[]]) [(0,(.int .i64 v0)),(1,(.sl v1z (List.map (V.int .u8) v1l))),(4,(.ptr 0 0)),(6,(.vw 1 0 0 h1l.length 1)),(7,(.int .i64 v7))] [(.box [(.int .i64 h0_0),(.int .i64 h0_1),(.int .i64 h0_2),(.int .i64 h0_3),(.int .i64 h0_4),(.int .i64 h0_5),(.int .i64 h0_6)]),(.row 0 h1z 1 (List.map (V.int .i64) h1l) h1x)] A
instance zblf: ∀q,zble q:=lp1 @zbld @zns.eq_2
instance zblg (a0:Int) (a1:(Sl Int)): ∀q,Aq q (znt q a0 a1) (Dp T 310 [(V.int .i64) a0,(Sl.enc (V.int .u8)) a1] fun r=>[zkq.enc r.1,(V.int .i64) r.2]):=snd (fun q=>znt.eq_2 ..) @zbld
end Go.Dvm.C
