/- The machine comes to these answers: part 2. -/
import Derived.Test.YtnppecdklidmmaaGreatQl0
import Derived.Test.YtnppecdklidmmaaGreatQr0
set_option linter.all false
set_option maxRecDepth 100000
set_option maxHeartbeats 4000000
namespace Go.Dvm.C
open Go Go.Dvm Go.Dvm.I
instance zblp (a0:(Sl Int)): ∀q,Aq q (znu q a0) (Dp T 291 [(Sl.enc (V.int .u8)) a0] fun r=>[zkq.enc r.1,(V.int .i64) r.2]):=snd (fun q=>znu.eq_2 ..) (ai @zbbz<| ai @zbe5<| @zbfv)
def zblq:=(ai @zbe6<| ai @zbbz<| @zbfn)
abbrev zblr (q:Nat):Prop:= ∀(v0:Int) (v1z:Bool) (v1l:List Int) (h0z:Bool) (h0l:List zkq),Aq q (znv q v0 v1z v1l h0z h0l) fun M r=> ∀A,some [(Ow.enc 7 zkq.enc) r.1,V.bool r.2]=A-> ∀j,q<=j->Lz T (M+7) 0 [0,1,6] [.blk 0, .code (.seq (.reg [mt 63 6,mt 4 63,mc 5 (.bool true)]) .ret)] z7l j (fin [.tmp 4, .tmp 5] [[8],[]]) [(0,(.int .i64 v0)),(1,(.sl v1z (List.map (V.int .u8) v1l))),(6,(.vw 0 0 0 h0l.length 1))] [(.row 0 h0z 7 (List.map zkq.enc h0l) true)] A
instance zbls: ∀q,zblr q:=lp1 @zblq @znv.eq_2
instance zblt (a0:Int) (a1:(Sl Int)): ∀q,Aq q (znw q a0 a1) (Dp T 277 [(V.int .i64) a0,(Sl.enc (V.int .u8)) a1] fun r=>[(Ow.enc 7 zkq.enc) r.1,V.bool r.2]):=snd (fun q=>znw.eq_2 ..) @zblq
instance zblu (a0:(Sl Int)): ∀q,Aq q (znx q a0) (Dp T 167 [(Sl.enc (V.int .u8)) a0] fun r=>[(Ow.enc 1 (V.int .u8)) r]):=snd (fun q=>znx.eq_2 ..) @zban
def zblv:= @zbcy
abbrev zblw (q:Nat):Prop:= ∀(v6z:Bool) (v6l:List (Sl Int)) (v7 v8:Int) (h0z:Bool) (h0l:List (Sl Int)),Aq q (zny q v6z v6l v7 v8 h0z h0l) fun M r=> ∀A,some [(Ow.enc 1 (Sl.enc (V.int .u8))) r]=A-> ∀j,q<=j->Lz T (M+7) 0 [3,6,7,8] [.blk 0, .code (.seq (.reg [mt 18 3,mt 2 18]) .ret)] z2i j (fin [.tmp 2] [[2]]) [(3,(.vw 0 0 0 h0l.length 1)),(6,(.sl v6z (List.map (Sl.enc (V.int .u8)) v6l))),(7,(.int .i64 v7)),(8,(.int .i64 v8))] [(.row 0 h0z 1 (List.map (Sl.enc (V.int .u8)) h0l) true)] A
instance zblx: ∀q,zblw q:=lp1 @zblv @zny.eq_2
instance zbly (a0:(Sl (Sl Int))): ∀q,Aq q (znz q a0) (Dp T 221 [(Sl.enc (Sl.enc (V.int .u8))) a0] fun r=>[(Ow.enc 1 (Sl.enc (V.int .u8))) r]):=snd (fun q=>znz.eq_2 ..) @zblv
def zblz:=(ai @zbbt<| @zbcy)
abbrev zbl0 (q:Nat):Prop:= ∀(v14z:Bool) (v14l:List (Sl Int)) (v15 v16:Int) (h0z:Bool) (h0l:List Int) (h0x:Bool),Aq q (zn0 q v14z v14l v15 v16 h0z h0l h0x) fun M r=> ∀A,some [(Ow.enc 1 (V.int .u8)) r]=A-> ∀j,q<=j->Lz T (M+7) 0 [3,14,15,16] [.blk 0, .code (.seq (.reg [mt 25 3,ma 26 167 [.t 25],mt 2 26]) .ret)] zzw j (fin [.tmp 2] [[2]]) [(3,(.vw 0 0 0 h0l.length 1)),(14,(.sl v14z (List.map (Sl.enc (V.int .u8)) v14l))),(15,(.int .i64 v15)),(16,(.int .i64 v16))] [(.row 0 h0z 1 (List.map (V.int .u8) h0l) h0x)] A
instance zbl1: ∀q,zbl0 q:=lp1 @zblz @zn0.eq_2
instance zbl2 (a0:(Sl (Sl Int))): ∀q,Aq q (zn1 q a0) (Dp T 182 [(Sl.enc (Sl.enc (V.int .u8))) a0] fun r=>[(Ow.enc 1 (V.int .u8)) r]):=snd (fun q=>zn1.eq_2 ..) @zblz
def zbl3 (q:Nat):Prop:= ∀M,8*q<=M-> ∀j,q<=j-> ∀(w1:Nat) (v1z:Bool) (v1l:List Int) (v19:Int) (h1z:Bool) (h1l:List (Sl Int)) (h1x:Bool) (h3_0 h3_1 h3_2:Int) (r:Int×Int×Int×Int×Bool),zn2 q v1z v1l v19 h1z h1l h1x h3_0 h3_1 h3_2=some r->LS T (M+5) 3 [0,1,5,19] [.blk 0, .code (.seq (.blk 2 (.seq (.reg [mt 36 1,mh 37 36,mk 38 .gtr 37 0,mt 35 38]) z5d)) (.seq (.dreg z5e [(6,12),(8,12)]) (.seq (.reg [mz 4 0]) .ret)))] z5b j (finI 3 false [.tmp 4]) ((some ([(.int .i64 r.1)],[(.box [(.int .i64 0),(.int .i64 0),(.sl true [])]),(.row w1 h1z 1 (List.map (Sl.enc (V.int .u8)) h1l) h1x),(.box [(.int .i64 r.2.1),(.int .i64 r.2.2.1),(.int .i64 r.2.2.2.1),(.sl true []),(.bool r.2.2.2.2)])]):Option (List V×Hp))) [(0,(.ptr 2 0)),(1,(.sl v1z (List.map (V.int .u8) v1l))),(5,(.ptr 3 0)),(19,(.int .i64 v19))] [(.box [(.int .i64 0),(.int .i64 0),(.sl true [])]),(.row w1 h1z 1 (List.map (Sl.enc (V.int .u8)) h1l) h1x),(.box [(.int .i64 0),(.int .i64 0),(.int .i64 0),(.sl true []),(.bool false)]),(.box [(.int .i64 h3_0),(.int .i64 h3_1),(.int .i64 h3_2)])]
def zbl4:=ai @kk<| ai @ke<| ai @kn<| ai @zbek<| ai @zbbz<| @zbcx
theorem zbl5 (q:Nat) (zbpj:zbl3 q):zbl3 (q+1):=by
 intro M hM j hj w1 v1z v1l v19 h1z h1l h1x h3_0 h3_1 h3_2 r h R hR fr H hc
 obtain ⟨j,rfl⟩: ∃i,j=i+1:=⟨j - 1,by omega⟩
 rw [zh1,hc];clear hc
 rw [zn2] at h
 replace h:=br h;rcases h with ⟨h1,h⟩ | ⟨h1,h⟩
 ·replace h:=ob h;obtain ⟨r2,h2,h⟩:=h
  replace h2:=us1 (q:=q) (M:=M) (by omega) h2 5
  try simp only [kf,simprocAttr] at h2
  replace h:=bn h;obtain ⟨h3,h⟩:=h
  replace h:=bn h;obtain ⟨h4,h⟩:=h
  replace h:=bc h;rcases h with ⟨h5,h⟩ | ⟨h5,h⟩
  ·replace h:=br h;rcases h with ⟨h6,h⟩ | ⟨h6,h⟩
   ·cases h;subst hR;simp only [zbl4,simprocAttr, *]
   ·replace h:=bn h;obtain ⟨h7,h⟩:=h
    replace h:=bn h;obtain ⟨h8,h⟩:=h
    replace h:=zbpj M (by omega) j (by omega) w1 _ _ _ _ _ _ _ _ _ _ h R hR
    simp only [zbl4,simprocAttr, *]
  ·replace h:=bc h;rcases h with ⟨h9,h⟩ | ⟨h9,h⟩
   ·replace h:=br h;rcases h with ⟨h10,h⟩ | ⟨h10,h⟩
    ·cases h;subst hR;simp only [zbl4,simprocAttr, *]
    ·replace h:=bn h;obtain ⟨h11,h⟩:=h
     replace h:=bn h;obtain ⟨h12,h⟩:=h
     replace h:=zbpj M (by omega) j (by omega) w1 _ _ _ _ _ _ _ _ _ _ h R hR
     simp only [zbl4,simprocAttr, *]
   ·replace h:=bc h;rcases h with ⟨h13,h⟩ | ⟨h13,h⟩
    ·replace h:=br h;rcases h with ⟨h14,h⟩ | ⟨h14,h⟩
     ·cases h;subst hR;simp only [zbl4,simprocAttr, *]
     ·replace h:=bn h;obtain ⟨h15,h⟩:=h
      replace h:=bn h;obtain ⟨h16,h⟩:=h
      replace h:=zbpj M (by omega) j (by omega) w1 _ _ _ _ _ _ _ _ _ _ h R hR
      simp only [zbl4,simprocAttr, *]
    ·cases h
 ·replace h:=br h;rcases h with ⟨h17,h⟩ | ⟨h17,h⟩
  ·cases h;subst hR;simp only [zbl4,simprocAttr, *]
  ·replace h:=ob h;obtain ⟨r3,h18,h⟩:=h
   replace h18:=us1 (q:=q) (M:=M) (by omega) h18 5
   try simp only [kf,simprocAttr] at h18
   replace h:=bb h;rcases h with ⟨h19',h19,h⟩ | ⟨h19',h19,h⟩
   ·replace h:=br h;rcases h with ⟨h20,h⟩ | ⟨h20,h⟩
    ·cases h;subst hR;simp only [zbl4,simprocAttr, *]
    ·cases h;subst hR;simp only [zbl4,simprocAttr, *]
   ·cases h;subst hR;simp only [zbl4,simprocAttr, *]
theorem zbl6: ∀q,zbl3 q
 | 0=>by intro M hM j hj;intros;rename_i h;cases h
 | q+1=>by have i0:=zbl6 q;exact zbl5 q i0
theorem zbl7: ∀(q M:Nat),8*q<=M-> ∀(w1:Nat),∀(v1z:Bool),∀(v1l:List Int),∀(h1z:Bool),∀(h1l:List (Sl Int)),∀(h1x:Bool),∀(r:Int×Int×Int×Int×Bool),zn3 q v1z v1l h1z h1l h1x=some r->(orc T (M+6)).inl 253 [(.ptr 2 0),(.sl v1z (List.map (V.int .u8) v1l))] [(.box [(.int .i64 0),(.int .i64 0),(.sl true [])]),(.row w1 h1z 1 (List.map (Sl.enc (V.int .u8)) h1l) h1x),(.box [(.int .i64 0),(.int .i64 0),(.int .i64 0),(.sl true []),(.bool false)])]=(some ([(.int .i64 r.1)],[(.box [(.int .i64 0),(.int .i64 0),(.sl true [])]),(.row w1 h1z 1 (List.map (Sl.enc (V.int .u8)) h1l) h1x),(.box [(.int .i64 r.2.1),(.int .i64 r.2.2.1),(.int .i64 r.2.2.2.1),(.sl true []),(.bool r.2.2.2.2)])]):Option (List V×Hp)):=by
 intro q M hM w1 v1z v1l h1z h1l h1x r h
 rcases q with _ | q
 ·cases h
 have zbpj:=(zbl6 q)
 refine byR fun R hR=>?_
 rw [zbem.2 (n:=M+5)]
 rw [zn3] at h
 replace h:=br h;rcases h with ⟨h1,h⟩ | ⟨h1,h⟩
 ·cases h;subst hR;simp only [zbl4,simprocAttr, *]
 ·replace h:=ob h;obtain ⟨e1,h2,h⟩:=h
  replace h:=br h;rcases h with ⟨h3,h⟩ | ⟨h3,h⟩
  ·replace h:=bn h;obtain ⟨h4,h⟩:=h
   replace h:=zbpj M (by omega) (M+5) (by omega) w1 _ _ _ _ _ _ _ _ _ _ h R hR
   simp only [zbl4,simprocAttr, *]
  ·cases h;subst hR;simp only [zbl4,simprocAttr, *]
def zbl8 (q:Nat):Prop:= ∀M,8*q<=M-> ∀j,q<=j-> ∀(w1 v1len v19len:Nat) (v20:Int) (h1z:Bool) (h1l:List (Sl Int)) (h1x:Bool) (h2_0 h2_1 h2_2:Int) (h2_4:Bool) (r:Nat×Int×Int×Int×Int×Int×Bool×Int×Int×Int×Int×Int×Nat×Bool×Bool×(List zkq)),zn5 q v1len v19len v20 h1z h1l h1x h2_0 h2_1 h2_2 h2_4=some r->LS T (M+6) 3 [0,1,19,20,21] [.blk 0, .code (.seq (.reg [mt 35 1,mh 36 35,mt 4 36,mz 5 0]) .ret)] z2e j (finI 3 false [.tmp 4, .tmp 5]) ((if r.1=0 then (some ([(.int .i64 r.2.1),(.int .i64 r.2.2.1)],[(.box [(.int .i64 0),(.int .i64 0),(.sl true [])]),(.row w1 h1z 1 (List.map (Sl.enc (V.int .u8)) h1l) h1x),(.box [(.int .i64 r.2.2.2.1),(.int .i64 r.2.2.2.2.1),(.int .i64 r.2.2.2.2.2.1),(.sl true []),(.bool r.2.2.2.2.2.2.1)])]):Option (List V×Hp)) else (some ([(.int .i64 r.2.2.2.2.2.2.2.1),(.int .i64 r.2.2.2.2.2.2.2.2.1)],[(.box [(.int .i64 0),(.int .i64 0),(.sl true [])]),(.row w1 h1z 1 (List.map (Sl.enc (V.int .u8)) h1l) h1x),(.box [(.int .i64 r.2.2.2.2.2.2.2.2.2.1),(.int .i64 r.2.2.2.2.2.2.2.2.2.2.1),(.int .i64 r.2.2.2.2.2.2.2.2.2.2.2.1),(.vw 3 0 0 r.2.2.2.2.2.2.2.2.2.2.2.2.1 1),(.bool r.2.2.2.2.2.2.2.2.2.2.2.2.2.1)]),(.row 0 r.2.2.2.2.2.2.2.2.2.2.2.2.2.2.1 7 (List.map zkq.enc r.2.2.2.2.2.2.2.2.2.2.2.2.2.2.2) true)]):Option (List V×Hp)))) [(0,(.ptr 2 0)),(1,(.vw 1 w1 0 v1len 1)),(19,(.vw 1 w1 1 v19len 1)),(20,(.int .i64 v20)),(21,(.int .i64 0))] [(.box [(.int .i64 0),(.int .i64 0),(.sl true [])]),(.row w1 h1z 1 (List.map (Sl.enc (V.int .u8)) h1l) h1x),(.box [(.int .i64 h2_0),(.int .i64 h2_1),(.int .i64 h2_2),(.sl true []),(.bool h2_4)])]
def zbl9 (q:Nat):Prop:= ∀M,8*q<=M-> ∀j,q<=j-> ∀(w1 v1len v19len:Nat) (v20 v21:Int) (h1z:Bool) (h1l:List (Sl Int)) (h1x:Bool) (h2_0 h2_1 h2_2:Int) (h2_4 h3z:Bool) (h3l:List zkq) (r:Nat×Int×Int×Int×Int×Int×Bool×Int×Int×Int×Int×Int×Nat×Bool×Bool×(List zkq)),zn4 q v1len v19len v20 v21 h1z h1l h1x h2_0 h2_1 h2_2 h2_4 h3z h3l=some r->LS T (M+6) 3 [0,1,19,20,21] [.blk 0, .code (.seq (.reg [mt 35 1,mh 36 35,mt 4 36,mz 5 0]) .ret)] z2e j (finI 3 false [.tmp 4, .tmp 5]) ((if r.1=0 then (some ([(.int .i64 r.2.1),(.int .i64 r.2.2.1)],[(.box [(.int .i64 0),(.int .i64 0),(.sl true [])]),(.row w1 h1z 1 (List.map (Sl.enc (V.int .u8)) h1l) h1x),(.box [(.int .i64 r.2.2.2.1),(.int .i64 r.2.2.2.2.1),(.int .i64 r.2.2.2.2.2.1),(.sl true []),(.bool r.2.2.2.2.2.2.1)])]):Option (List V×Hp)) else (some ([(.int .i64 r.2.2.2.2.2.2.2.1),(.int .i64 r.2.2.2.2.2.2.2.2.1)],[(.box [(.int .i64 0),(.int .i64 0),(.sl true [])]),(.row w1 h1z 1 (List.map (Sl.enc (V.int .u8)) h1l) h1x),(.box [(.int .i64 r.2.2.2.2.2.2.2.2.2.1),(.int .i64 r.2.2.2.2.2.2.2.2.2.2.1),(.int .i64 r.2.2.2.2.2.2.2.2.2.2.2.1),(.vw 3 0 0 r.2.2.2.2.2.2.2.2.2.2.2.2.1 1),(.bool r.2.2.2.2.2.2.2.2.2.2.2.2.2.1)]),(.row 0 r.2.2.2.2.2.2.2.2.2.2.2.2.2.2.1 7 (List.map zkq.enc r.2.2.2.2.2.2.2.2.2.2.2.2.2.2.2) true)]):Option (List V×Hp)))) [(0,(.ptr 2 0)),(1,(.vw 1 w1 0 v1len 1)),(19,(.vw 1 w1 1 v19len 1)),(20,(.int .i64 v20)),(21,(.int .i64 v21))] [(.box [(.int .i64 0),(.int .i64 0),(.sl true [])]),(.row w1 h1z 1 (List.map (Sl.enc (V.int .u8)) h1l) h1x),(.box [(.int .i64 h2_0),(.int .i64 h2_1),(.int .i64 h2_2),(.vw 3 0 0 h3l.length 1),(.bool h2_4)]),(.row 0 h3z 7 (List.map zkq.enc h3l) true)]
def zbma:=ai @kk<| ai @ke<| ai @kn<| ai @zbcz<| ai @zbej<| ai @zbel<| ai @zbe7<| @zbeo
theorem zbmb (q:Nat) (zbpk:zbl9 q):zbl8 (q+1):=by
 intro M hM j hj w1 v1len v19len v20 h1z h1l h1x h2_0 h2_1 h2_2 h2_4 r h R hR fr H hc
 obtain ⟨j,rfl⟩: ∃i,j=i+1:=⟨j - 1,by omega⟩
 rw [zh1,hc];clear hc
 rw [zn5] at h
 repeat' (first | (cases h;done) | (replace h:=bb h;rcases h with ⟨_,_,h⟩ | ⟨_,_,h⟩) | (replace h:=bn h;obtain ⟨_,h⟩:=h) | (replace h:=br h;rcases h with ⟨_,h⟩ | ⟨_,h⟩) | (replace h:=ob h;obtain ⟨_,g,h⟩:=h;first | (replace g:=us1 (q:=q) (M:=M) (by omega) g 5;try simp only [kf,simprocAttr] at g) | skip))
 all_goals (first | (cases h;subst hR;simp only [zbma,simprocAttr, *]) | (replace h:=zbpk M (by omega) j (by omega) w1 _ _ _ _ _ _ _ _ _ _ _ _ _ _ h R hR;simp only [zbma,simprocAttr, *]))
theorem zbmc (q:Nat) (zbpk:zbl9 q):zbl9 (q+1):=by
 intro M hM j hj w1 v1len v19len v20 v21 h1z h1l h1x h2_0 h2_1 h2_2 h2_4 h3z h3l r h R hR fr H hc
 obtain ⟨j,rfl⟩: ∃i,j=i+1:=⟨j - 1,by omega⟩
 rw [zh1,hc];clear hc
 rw [zn4] at h
 repeat' (first | (cases h;done) | (replace h:=bb h;rcases h with ⟨_,_,h⟩ | ⟨_,_,h⟩) | (replace h:=bn h;obtain ⟨_,h⟩:=h) | (replace h:=br h;rcases h with ⟨_,h⟩ | ⟨_,h⟩) | (replace h:=ob h;obtain ⟨_,g,h⟩:=h;first | (replace g:=us1 (q:=q) (M:=M) (by omega) g 5;try simp only [kf,simprocAttr] at g) | skip))
 all_goals (first | (cases h;subst hR;simp only [zbma,simprocAttr, *]) | (replace h:=zbpk M (by omega) j (by omega) w1 _ _ _ _ _ _ _ _ _ _ _ _ _ _ h R hR;simp only [zbma,simprocAttr, *]))
theorem zbmd: ∀q,zbl8 q/\zbl9 q
 | 0=>by refine ⟨?_,?_⟩<;>(intro M hM j hj;intros;rename_i h;cases h)
 | q+1=>by have ⟨i0,i1⟩:=zbmd q;exact ⟨zbmb q i1,zbmc q i1⟩
theorem zbme: ∀(q M:Nat),8*q<=M-> ∀(w1 v1len:Nat),∀(h1z:Bool),∀(h1l:List (Sl Int)),∀(h1x:Bool),∀(r:Nat×Int×Int×Int×Int×Int×Bool×Int×Int×Int×Int×Int×Nat×Bool×Bool×(List zkq)),zn6 q v1len h1z h1l h1x=some r->(orc T (M+7)).inl 220 [(.ptr 2 0),(.vw 1 w1 0 v1len 1)] [(.box [(.int .i64 0),(.int .i64 0),(.sl true [])]),(.row w1 h1z 1 (List.map (Sl.enc (V.int .u8)) h1l) h1x),(.box [(.int .i64 0),(.int .i64 0),(.int .i64 0),(.sl true []),(.bool false)])]=(if r.1=0 then (some ([(.int .i64 r.2.1),(.int .i64 r.2.2.1)],[(.box [(.int .i64 0),(.int .i64 0),(.sl true [])]),(.row w1 h1z 1 (List.map (Sl.enc (V.int .u8)) h1l) h1x),(.box [(.int .i64 r.2.2.2.1),(.int .i64 r.2.2.2.2.1),(.int .i64 r.2.2.2.2.2.1),(.sl true []),(.bool r.2.2.2.2.2.2.1)])]):Option (List V×Hp)) else (some ([(.int .i64 r.2.2.2.2.2.2.2.1),(.int .i64 r.2.2.2.2.2.2.2.2.1)],[(.box [(.int .i64 0),(.int .i64 0),(.sl true [])]),(.row w1 h1z 1 (List.map (Sl.enc (V.int .u8)) h1l) h1x),(.box [(.int .i64 r.2.2.2.2.2.2.2.2.2.1),(.int .i64 r.2.2.2.2.2.2.2.2.2.2.1),(.int .i64 r.2.2.2.2.2.2.2.2.2.2.2.1),(.vw 3 0 0 r.2.2.2.2.2.2.2.2.2.2.2.2.1 1),(.bool r.2.2.2.2.2.2.2.2.2.2.2.2.2.1)]),(.row 0 r.2.2.2.2.2.2.2.2.2.2.2.2.2.2.1 7 (List.map zkq.enc r.2.2.2.2.2.2.2.2.2.2.2.2.2.2.2) true)]):Option (List V×Hp))):=by
 intro q M hM w1 v1len h1z h1l h1x r h
 rcases q with _ | q
 ·cases h
 have ih_segment_decode_s0_l0:=(zbmd q).1
 refine byR fun R hR=>?_
 rw [zbdr.2 (n:=M+6)]
 rw [zn6] at h
 replace h:=bn h;obtain ⟨h1,h⟩:=h
 replace h:=ob h;obtain ⟨e1,h2,h⟩:=h
 replace h:=ob h;obtain ⟨r2,h3,h⟩:=h
 replace h3:=zbl7 q M (by omega) w1 _ _ _ _ _ _ h3
 try simp only [kf,simprocAttr] at h3
 replace h:=br h;rcases h with ⟨h4,h⟩ | ⟨h4,h⟩
 ·replace h:=bn h;obtain ⟨h5,h⟩:=h
  replace h:=ih_segment_decode_s0_l0 M (by omega) (M+6) (by omega) w1 _ _ _ _ _ _ _ _ _ _ _ h R hR
  simp only [zbma,simprocAttr, *]
 ·cases h;subst hR;simp only [zbma,simprocAttr, *]
def zbmf (q:Nat):Prop:= ∀M,8*q<=M-> ∀j,q<=j-> ∀(w1:Nat) (v1z:Bool) (v1l:List Int) (v19:Int) (h1z:Bool) (h1l:List (Sl Int)) (h1x:Bool) (h3_0 h3_1 h3_2:Int) (r:Int×Int×Int×Int×Bool),zn7 q v1z v1l v19 h1z h1l h1x h3_0 h3_1 h3_2=some r->LS T (M+5) 3 [0,1,5,19] [.blk 0, .code (.seq (.blk 2 (.seq (.reg [mt 36 1,mh 37 36,mk 38 .gtr 37 0,mt 35 38]) z5d)) (.seq (.dreg z5e [(6,12),(8,12)]) (.seq (.reg [mz 4 0]) .ret)))] z5b j (finI 3 false [.tmp 4]) ((some ([(.int .i64 r.1)],[(.box [(.int .i64 0),(.int .i64 0),(.sl true [])]),(.row w1 h1z 1 (List.map (Sl.enc (V.int .u8)) h1l) h1x),(.box [(.int .i64 r.2.1),(.int .i64 r.2.2.1),(.int .i64 r.2.2.2.1),(.sl true []),(.bool r.2.2.2.2)])]):Option (List V×Hp))) [(0,(.ptr 2 0)),(1,(.sl v1z (List.map (V.int .u8) v1l))),(5,(.ptr 3 0)),(19,(.int .i64 v19))] [(.box [(.int .i64 0),(.int .i64 0),(.sl true [])]),(.row w1 h1z 1 (List.map (Sl.enc (V.int .u8)) h1l) h1x),(.box [(.int .i64 0),(.int .i64 0),(.int .i64 0),(.sl true []),(.bool false)]),(.box [(.int .i64 h3_0),(.int .i64 h3_1),(.int .i64 h3_2)])]
def zbmg:=ai @kk<| ai @ke<| ai @kn<| ai @zbek<| ai @zbbz<| @zbcx
theorem zbmh (q:Nat) (zbpl:zbmf q):zbmf (q+1):=by
 intro M hM j hj w1 v1z v1l v19 h1z h1l h1x h3_0 h3_1 h3_2 r h R hR fr H hc
 obtain ⟨j,rfl⟩: ∃i,j=i+1:=⟨j - 1,by omega⟩
 rw [zh1,hc];clear hc
 rw [zn7] at h
 replace h:=br h;rcases h with ⟨h1,h⟩ | ⟨h1,h⟩
 ·replace h:=ob h;obtain ⟨r2,h2,h⟩:=h
  replace h2:=us1 (q:=q) (M:=M) (by omega) h2 5
  try simp only [kf,simprocAttr] at h2
  replace h:=bn h;obtain ⟨h3,h⟩:=h
  replace h:=bn h;obtain ⟨h4,h⟩:=h
  replace h:=bc h;rcases h with ⟨h5,h⟩ | ⟨h5,h⟩
  ·replace h:=br h;rcases h with ⟨h6,h⟩ | ⟨h6,h⟩
   ·cases h;subst hR;simp only [zbmg,simprocAttr, *]
   ·replace h:=bn h;obtain ⟨h7,h⟩:=h
    replace h:=bn h;obtain ⟨h8,h⟩:=h
    replace h:=zbpl M (by omega) j (by omega) w1 _ _ _ _ _ _ _ _ _ _ h R hR
    simp only [zbmg,simprocAttr, *]
  ·replace h:=bc h;rcases h with ⟨h9,h⟩ | ⟨h9,h⟩
   ·replace h:=br h;rcases h with ⟨h10,h⟩ | ⟨h10,h⟩
    ·cases h;subst hR;simp only [zbmg,simprocAttr, *]
    ·replace h:=bn h;obtain ⟨h11,h⟩:=h
     replace h:=bn h;obtain ⟨h12,h⟩:=h
     replace h:=zbpl M (by omega) j (by omega) w1 _ _ _ _ _ _ _ _ _ _ h R hR
     simp only [zbmg,simprocAttr, *]
   ·replace h:=bc h;rcases h with ⟨h13,h⟩ | ⟨h13,h⟩
    ·replace h:=br h;rcases h with ⟨h14,h⟩ | ⟨h14,h⟩
     ·cases h;subst hR;simp only [zbmg,simprocAttr, *]
     ·replace h:=bn h;obtain ⟨h15,h⟩:=h
      replace h:=bn h;obtain ⟨h16,h⟩:=h
      replace h:=zbpl M (by omega) j (by omega) w1 _ _ _ _ _ _ _ _ _ _ h R hR
      simp only [zbmg,simprocAttr, *]
    ·cases h
 ·replace h:=br h;rcases h with ⟨h17,h⟩ | ⟨h17,h⟩
  ·cases h;subst hR;simp only [zbmg,simprocAttr, *]
  ·replace h:=ob h;obtain ⟨r3,h18,h⟩:=h
   replace h18:=us1 (q:=q) (M:=M) (by omega) h18 5
   try simp only [kf,simprocAttr] at h18
   replace h:=bb h;rcases h with ⟨h19',h19,h⟩ | ⟨h19',h19,h⟩
   ·replace h:=br h;rcases h with ⟨h20,h⟩ | ⟨h20,h⟩
    ·cases h;subst hR;simp only [zbmg,simprocAttr, *]
    ·cases h;subst hR;simp only [zbmg,simprocAttr, *]
   ·cases h;subst hR;simp only [zbmg,simprocAttr, *]
theorem zbmi: ∀q,zbmf q
 | 0=>by intro M hM j hj;intros;rename_i h;cases h
 | q+1=>by have i0:=zbmi q;exact zbmh q i0
theorem zbmj: ∀(q M:Nat),8*q<=M-> ∀(w1:Nat),∀(v1z:Bool),∀(v1l:List Int),∀(h1z:Bool),∀(h1l:List (Sl Int)),∀(h1x:Bool),∀(r:Int×Int×Int×Int×Bool),zn8 q v1z v1l h1z h1l h1x=some r->(orc T (M+6)).inl 253 [(.ptr 2 0),(.sl v1z (List.map (V.int .u8) v1l))] [(.box [(.int .i64 0),(.int .i64 0),(.sl true [])]),(.row w1 h1z 1 (List.map (Sl.enc (V.int .u8)) h1l) h1x),(.box [(.int .i64 0),(.int .i64 0),(.int .i64 0),(.sl true []),(.bool false)])]=(some ([(.int .i64 r.1)],[(.box [(.int .i64 0),(.int .i64 0),(.sl true [])]),(.row w1 h1z 1 (List.map (Sl.enc (V.int .u8)) h1l) h1x),(.box [(.int .i64 r.2.1),(.int .i64 r.2.2.1),(.int .i64 r.2.2.2.1),(.sl true []),(.bool r.2.2.2.2)])]):Option (List V×Hp)):=by
 intro q M hM w1 v1z v1l h1z h1l h1x r h
 rcases q with _ | q
 ·cases h
 have zbpl:=(zbmi q)
 refine byR fun R hR=>?_
 rw [zbem.2 (n:=M+5)]
 rw [zn8] at h
 replace h:=br h;rcases h with ⟨h1,h⟩ | ⟨h1,h⟩
 ·cases h;subst hR;simp only [zbmg,simprocAttr, *]
 ·replace h:=ob h;obtain ⟨e1,h2,h⟩:=h
  replace h:=br h;rcases h with ⟨h3,h⟩ | ⟨h3,h⟩
  ·replace h:=bn h;obtain ⟨h4,h⟩:=h
   replace h:=zbpl M (by omega) (M+5) (by omega) w1 _ _ _ _ _ _ _ _ _ _ h R hR
   simp only [zbmg,simprocAttr, *]
  ·cases h;subst hR;simp only [zbmg,simprocAttr, *]
def zbmk (q:Nat):Prop:= ∀M,8*q<=M-> ∀j,q<=j-> ∀(w1 v1len v19len:Nat) (v20:Int) (h1z:Bool) (h1l:List (Sl Int)) (h1x:Bool) (h2_0 h2_1 h2_2:Int) (h2_4:Bool) (r:Nat×Int×Int×Int×Int×Int×Bool×Int×Int×Int×Int×Int×Nat×Bool×Bool×(List zkq)),zoa q v1len v19len v20 h1z h1l h1x h2_0 h2_1 h2_2 h2_4=some r->LS T (M+6) 3 [0,1,19,20,21] [.blk 0, .code (.seq (.reg [mt 35 1,mh 36 35,mt 4 36,mz 5 0]) .ret)] z2e j (finI 3 false [.tmp 4, .tmp 5]) ((if r.1=0 then (some ([(.int .i64 r.2.1),(.int .i64 r.2.2.1)],[(.box [(.int .i64 0),(.int .i64 0),(.sl true [])]),(.row w1 h1z 1 (List.map (Sl.enc (V.int .u8)) h1l) h1x),(.box [(.int .i64 r.2.2.2.1),(.int .i64 r.2.2.2.2.1),(.int .i64 r.2.2.2.2.2.1),(.sl true []),(.bool r.2.2.2.2.2.2.1)])]):Option (List V×Hp)) else (some ([(.int .i64 r.2.2.2.2.2.2.2.1),(.int .i64 r.2.2.2.2.2.2.2.2.1)],[(.box [(.int .i64 0),(.int .i64 0),(.sl true [])]),(.row w1 h1z 1 (List.map (Sl.enc (V.int .u8)) h1l) h1x),(.box [(.int .i64 r.2.2.2.2.2.2.2.2.2.1),(.int .i64 r.2.2.2.2.2.2.2.2.2.2.1),(.int .i64 r.2.2.2.2.2.2.2.2.2.2.2.1),(.vw 3 0 0 r.2.2.2.2.2.2.2.2.2.2.2.2.1 1),(.bool r.2.2.2.2.2.2.2.2.2.2.2.2.2.1)]),(.row 0 r.2.2.2.2.2.2.2.2.2.2.2.2.2.2.1 7 (List.map zkq.enc r.2.2.2.2.2.2.2.2.2.2.2.2.2.2.2) true)]):Option (List V×Hp)))) [(0,(.ptr 2 0)),(1,(.vw 1 w1 0 v1len 0)),(19,(.vw 1 w1 1 v19len 0)),(20,(.int .i64 v20)),(21,(.int .i64 0))] [(.box [(.int .i64 0),(.int .i64 0),(.sl true [])]),(.row w1 h1z 1 (List.map (Sl.enc (V.int .u8)) h1l) h1x),(.box [(.int .i64 h2_0),(.int .i64 h2_1),(.int .i64 h2_2),(.sl true []),(.bool h2_4)])]
def zbml (q:Nat):Prop:= ∀M,8*q<=M-> ∀j,q<=j-> ∀(w1 v1len v19len:Nat) (v20 v21:Int) (h1z:Bool) (h1l:List (Sl Int)) (h1x:Bool) (h2_0 h2_1 h2_2:Int) (h2_4 h3z:Bool) (h3l:List zkq) (r:Nat×Int×Int×Int×Int×Int×Bool×Int×Int×Int×Int×Int×Nat×Bool×Bool×(List zkq)),zn9 q v1len v19len v20 v21 h1z h1l h1x h2_0 h2_1 h2_2 h2_4 h3z h3l=some r->LS T (M+6) 3 [0,1,19,20,21] [.blk 0, .code (.seq (.reg [mt 35 1,mh 36 35,mt 4 36,mz 5 0]) .ret)] z2e j (finI 3 false [.tmp 4, .tmp 5]) ((if r.1=0 then (some ([(.int .i64 r.2.1),(.int .i64 r.2.2.1)],[(.box [(.int .i64 0),(.int .i64 0),(.sl true [])]),(.row w1 h1z 1 (List.map (Sl.enc (V.int .u8)) h1l) h1x),(.box [(.int .i64 r.2.2.2.1),(.int .i64 r.2.2.2.2.1),(.int .i64 r.2.2.2.2.2.1),(.sl true []),(.bool r.2.2.2.2.2.2.1)])]):Option (List V×Hp)) else (some ([(.int .i64 r.2.2.2.2.2.2.2.1),(.int .i64 r.2.2.2.2.2.2.2.2.1)],[(.box [(.int .i64 0),(.int .i64 0),(.sl true [])]),(.row w1 h1z 1 (List.map (Sl.enc (V.int .u8)) h1l) h1x),(.box [(.int .i64 r.2.2.2.2.2.2.2.2.2.1),(.int .i64 r.2.2.2.2.2.2.2.2.2.2.1),(.int .i64 r.2.2.2.2.2.2.2.2.2.2.2.1),(.vw 3 0 0 r.2.2.2.2.2.2.2.2.2.2.2.2.1 1),(.bool r.2.2.2.2.2.2.2.2.2.2.2.2.2.1)]),(.row 0 r.2.2.2.2.2.2.2.2.2.2.2.2.2.2.1 7 (List.map zkq.enc r.2.2.2.2.2.2.2.2.2.2.2.2.2.2.2) true)]):Option (List V×Hp)))) [(0,(.ptr 2 0)),(1,(.vw 1 w1 0 v1len 0)),(19,(.vw 1 w1 1 v19len 0)),(20,(.int .i64 v20)),(21,(.int .i64 v21))] [(.box [(.int .i64 0),(.int .i64 0),(.sl true [])]),(.row w1 h1z 1 (List.map (Sl.enc (V.int .u8)) h1l) h1x),(.box [(.int .i64 h2_0),(.int .i64 h2_1),(.int .i64 h2_2),(.vw 3 0 0 h3l.length 1),(.bool h2_4)]),(.row 0 h3z 7 (List.map zkq.enc h3l) true)]
def zbmm:=ai @kk<| ai @ke<| ai @kn<| ai @zbcz<| ai @zbej<| ai @zbel<| ai @zbe7<| @zbeo
theorem zbmn (q:Nat) (zbpm:zbml q):zbmk (q+1):=by
 intro M hM j hj w1 v1len v19len v20 h1z h1l h1x h2_0 h2_1 h2_2 h2_4 r h R hR fr H hc
 obtain ⟨j,rfl⟩: ∃i,j=i+1:=⟨j - 1,by omega⟩
 rw [zh1,hc];clear hc
 rw [zoa] at h
 repeat' (first | (cases h;done) | (replace h:=bb h;rcases h with ⟨_,_,h⟩ | ⟨_,_,h⟩) | (replace h:=bn h;obtain ⟨_,h⟩:=h) | (replace h:=br h;rcases h with ⟨_,h⟩ | ⟨_,h⟩) | (replace h:=ob h;obtain ⟨_,g,h⟩:=h;first | (replace g:=us1 (q:=q) (M:=M) (by omega) g 5;try simp only [kf,simprocAttr] at g) | skip))
 all_goals (first | (cases h;subst hR;simp only [zbmm,simprocAttr, *]) | (replace h:=zbpm M (by omega) j (by omega) w1 _ _ _ _ _ _ _ _ _ _ _ _ _ _ h R hR;simp only [zbmm,simprocAttr, *]))
theorem zbmo (q:Nat) (zbpm:zbml q):zbml (q+1):=by
 intro M hM j hj w1 v1len v19len v20 v21 h1z h1l h1x h2_0 h2_1 h2_2 h2_4 h3z h3l r h R hR fr H hc
 obtain ⟨j,rfl⟩: ∃i,j=i+1:=⟨j - 1,by omega⟩
 rw [zh1,hc];clear hc
 rw [zn9] at h
 repeat' (first | (cases h;done) | (replace h:=bb h;rcases h with ⟨_,_,h⟩ | ⟨_,_,h⟩) | (replace h:=bn h;obtain ⟨_,h⟩:=h) | (replace h:=br h;rcases h with ⟨_,h⟩ | ⟨_,h⟩) | (replace h:=ob h;obtain ⟨_,g,h⟩:=h;first | (replace g:=us1 (q:=q) (M:=M) (by omega) g 5;try simp only [kf,simprocAttr] at g) | skip))
 all_goals (first | (cases h;subst hR;simp only [zbmm,simprocAttr, *]) | (replace h:=zbpm M (by omega) j (by omega) w1 _ _ _ _ _ _ _ _ _ _ _ _ _ _ h R hR;simp only [zbmm,simprocAttr, *]))
theorem zbmp: ∀q,zbmk q/\zbml q
 | 0=>by refine ⟨?_,?_⟩<;>(intro M hM j hj;intros;rename_i h;cases h)
 | q+1=>by have ⟨i0,i1⟩:=zbmp q;exact ⟨zbmn q i1,zbmo q i1⟩
theorem zbmq: ∀(q M:Nat),8*q<=M-> ∀(w1 v1len:Nat),∀(h1z:Bool),∀(h1l:List (Sl Int)),∀(h1x:Bool),∀(r:Nat×Int×Int×Int×Int×Int×Bool×Int×Int×Int×Int×Int×Nat×Bool×Bool×(List zkq)),zob q v1len h1z h1l h1x=some r->(orc T (M+7)).inl 220 [(.ptr 2 0),(.vw 1 w1 0 v1len 0)] [(.box [(.int .i64 0),(.int .i64 0),(.sl true [])]),(.row w1 h1z 1 (List.map (Sl.enc (V.int .u8)) h1l) h1x),(.box [(.int .i64 0),(.int .i64 0),(.int .i64 0),(.sl true []),(.bool false)])]=(if r.1=0 then (some ([(.int .i64 r.2.1),(.int .i64 r.2.2.1)],[(.box [(.int .i64 0),(.int .i64 0),(.sl true [])]),(.row w1 h1z 1 (List.map (Sl.enc (V.int .u8)) h1l) h1x),(.box [(.int .i64 r.2.2.2.1),(.int .i64 r.2.2.2.2.1),(.int .i64 r.2.2.2.2.2.1),(.sl true []),(.bool r.2.2.2.2.2.2.1)])]):Option (List V×Hp)) else (some ([(.int .i64 r.2.2.2.2.2.2.2.1),(.int .i64 r.2.2.2.2.2.2.2.2.1)],[(.box [(.int .i64 0),(.int .i64 0),(.sl true [])]),(.row w1 h1z 1 (List.map (Sl.enc (V.int .u8)) h1l) h1x),(.box [(.int .i64 r.2.2.2.2.2.2.2.2.2.1),(.int .i64 r.2.2.2.2.2.2.2.2.2.2.1),(.int .i64 r.2.2.2.2.2.2.2.2.2.2.2.1),(.vw 3 0 0 r.2.2.2.2.2.2.2.2.2.2.2.2.1 1),(.bool r.2.2.2.2.2.2.2.2.2.2.2.2.2.1)]),(.row 0 r.2.2.2.2.2.2.2.2.2.2.2.2.2.2.1 7 (List.map zkq.enc r.2.2.2.2.2.2.2.2.2.2.2.2.2.2.2) true)]):Option (List V×Hp))):=by
 intro q M hM w1 v1len h1z h1l h1x r h
 rcases q with _ | q
 ·cases h
 have ih_segment_decode_s1_l0:=(zbmp q).1
 refine byR fun R hR=>?_
 rw [zbdr.2 (n:=M+6)]
 rw [zob] at h
 replace h:=bn h;obtain ⟨h1,h⟩:=h
 replace h:=ob h;obtain ⟨e1,h2,h⟩:=h
 replace h:=ob h;obtain ⟨r2,h3,h⟩:=h
 replace h3:=zbmj q M (by omega) w1 _ _ _ _ _ _ h3
 try simp only [kf,simprocAttr] at h3
 replace h:=br h;rcases h with ⟨h4,h⟩ | ⟨h4,h⟩
 ·replace h:=bn h;obtain ⟨h5,h⟩:=h
  replace h:=ih_segment_decode_s1_l0 M (by omega) (M+6) (by omega) w1 _ _ _ _ _ _ _ _ _ _ _ h R hR
  simp only [zbmm,simprocAttr, *]
 ·cases h;subst hR;simp only [zbmm,simprocAttr, *]
def zbmr:=ai @kk<| ai @ke<| ai @kn<| ai @zbc1<| ai @zbcy<| ai @zbc0<| ai @zbc3<| ai @zbdq<| ai @zbds<| @zbdt
instance zbms (a0:(Sl Int)): ∀q,Aq q (zoc q a0) (Dp T 183 [(Sl.enc (V.int .u8)) a0] fun r=>[zks.enc r.1,(Ow.enc 1 (Sl.enc (V.int .u8))) r.2.1,(V.int .i64) r.2.2]):=sndo (fun q=>zoc.eq_2 ..) (hs:=by
 intro q M hM r h R hR
 repeat' (first | (cases h;done) | (replace h:=bb h;rcases h with ⟨_,_,h⟩ | ⟨_,_,h⟩) | (replace h:=bn h;obtain ⟨_,h⟩:=h) | (replace h:=br h;rcases h with ⟨_,h⟩ | ⟨_,h⟩) | (replace h:=ob h;obtain ⟨_,g,h⟩:=h;first | (replace g:=us1 (q:=q) (M:=M) (by omega) g 7;try simp only [kf,simprocAttr] at g) | (replace g:=zbme q M (by omega) 0 _ _ _ _ _ g;try simp only [kf,simprocAttr] at g) | (replace g:=zbmq q M (by omega) 0 _ _ _ _ _ g;try simp only [kf,simprocAttr] at g) | skip))
 all_goals (cases h;subst hR;simp only [zbmr,simprocAttr, *]))
instance zbmt (a0:(Sl Int)): ∀q,Aq q (zod q a0) (Dp T 119 [(Sl.enc (V.int .u8)) a0] fun r=>[zks.enc r.1,(V.int .i64) r.2]):=snd (fun q=>zod.eq_2 ..) @zbc2
def zbmu:=trivial
abbrev zbmv (q:Nat):Prop:= ∀(v0z:Bool) (v0l:List Int) (v3 v7 v8:Int),Aq q (zoe q v0z v0l v3 v7 v8) fun M r=> ∀A,some [(V.int .u64) r]=A-> ∀j,q<=j->Lz T (M+7) 0 [0,3,7,8] [.blk 0, .code (.seq (.reg [mt 22 3,mt 2 22]) .ret)] z2n j (fin [.tmp 2] [[]]) [(0,(.sl v0z (List.map (V.int .u8) v0l))),(3,(.int .u64 v3)),(7,(.int .i64 v7)),(8,(.int .i64 v8))] [] A
instance zbmw: ∀q,zbmv q:=lp1 @zbmu @zoe.eq_2
instance zbmx (a0:(Sl Int)): ∀q,Aq q (zof q a0) (Dp T 224 [(Sl.enc (V.int .u8)) a0] fun r=>[(V.int .u64) r]):=snd (fun q=>zof.eq_2 ..) @zbmu
instance zbmy (a0:(Sl Int)): ∀q,Aq q (zog q a0) (Dp T 185 [(Sl.enc (V.int .u8)) a0] fun r=>[zkt.enc r.1,(V.int .i64) r.2]):=snd (fun q=>zog.eq_2 ..) (ai @zbbz<| @zbdv)
def zbmz:=trivial
abbrev zbm0 (q:Nat):Prop:= ∀(v0z:Bool) (v0l:List (Sl Int)) (v5z:Bool) (v5l:List (Sl Int)) (v6 v7:Int),Aq q (zoh q v0z v0l v5z v5l v6 v7) fun M r=> ∀A,some [V.bool r]=A-> ∀j,q<=j->Lz T (M+7) 0 [0,5,6,7] [.blk 0, .code (.seq (.reg [mc 2 (.bool true)]) .ret)] z0d j (fin [.tmp 2] [[]]) [(0,(.sl v0z (List.map (Sl.enc (V.int .u8)) v0l))),(5,(.sl v5z (List.map (Sl.enc (V.int .u8)) v5l))),(6,(.int .i64 v6)),(7,(.int .i64 v7))] [] A
instance zbm1: ∀q,zbm0 q:=lp1 @zbmz @zoh.eq_2
instance zbm2 (a0:(Sl (Sl Int))): ∀q,Aq q (zoi q a0) (Dp T 186 [(Sl.enc (Sl.enc (V.int .u8))) a0] fun r=>[V.bool r]):=snd (fun q=>zoi.eq_2 ..) @zbmz
def zbm3:=(ai @zbdw<| ai @zbaj<| ai @zbbz<| ai @zbct<| ai @zbeq<| ai @zbe9<| ai @zbfb<| @zbfd)
abbrev zbm4 (q:Nat):Prop:= ∀(v42:Int) (h1_0z:Bool) (h1_0l:List Int) (h2_0:Bool) (h3_0:Int) (h3_2:Bool) (h3_3:Int),Aq q (zok q v42 h1_0z h1_0l h2_0 h3_0 h3_2 h3_3) fun M r=> ∀A,some [zkm.enc r.1,(V.int .i64) r.2]=A-> ∀j,q<=j->Lz T (M+7) 0 [2,4,5,6,10,42,43] [.blk 0, .code z2s] z2q j (fin [.cell 2 4 true, .tmp 3] [[],[]]) [(2,(.ptr 0 0)),(4,(.fn 278 [(.ptr 1 0),(.ptr 2 0)])),(5,(.fn 279 [(.ptr 2 0)])),(6,(.fn 280 [(.ptr 1 0)])),(10,(.ptr 3 0)),(42,(.int .i64 v42)),(43,(.int .i64 0))] [(.box [(.int .i64 0),(.sl true []),(.bool false),(.int .i64 0)]),(.box [(.sl h1_0z (List.map (V.int .u8) h1_0l))]),(.box [(.bool h2_0)]),(.box [(.int .i64 h3_0),(.sl true []),(.bool h3_2),(.int .i64 h3_3)])] A
abbrev zbm5 (q:Nat):Prop:= ∀(v42 v43:Int) (h1_0z:Bool) (h1_0l:List Int) (h2_0:Bool) (h3_0:Int) (h3_2:Bool) (h3_3:Int) (h4l:List Int),Aq q (zoj q v42 v43 h1_0z h1_0l h2_0 h3_0 h3_2 h3_3 h4l) fun M r=> ∀A,some [zkm.enc r.1,(V.int .i64) r.2]=A-> ∀j,q<=j->Lz T (M+7) 0 [2,4,5,6,10,42,43] [.blk 0, .code z2s] z2q j (fin [.cell 2 4 true, .tmp 3] [[],[]]) [(2,(.ptr 0 0)),(4,(.fn 278 [(.ptr 1 0),(.ptr 2 0)])),(5,(.fn 279 [(.ptr 2 0)])),(6,(.fn 280 [(.ptr 1 0)])),(10,(.ptr 3 0)),(42,(.int .i64 v42)),(43,(.int .i64 v43))] [(.box [(.int .i64 0),(.sl true []),(.bool false),(.int .i64 0)]),(.box [(.sl h1_0z (List.map (V.int .u8) h1_0l))]),(.box [(.bool h2_0)]),(.box [(.int .i64 h3_0),(.vw 4 0 0 h4l.length 1),(.bool h3_2),(.int .i64 h3_3)]),(.row 0 false 1 (List.map (V.int .i64) h4l) true)] A
theorem zbm6: ∀q,zbm4 q/\zbm5 q:=lpn @zbm3 (ai @zok.eq_2<| @zoj.eq_2)
instance zbm7 (q):zbm4 q:=(zbm6 q).1
instance zbm8 (q):zbm5 q:=(zbm6 q).2
instance zbm9 (a0:(Sl Int)): ∀q,Aq q (zol q a0) (Dp T 225 [(Sl.enc (V.int .u8)) a0] fun r=>[zkm.enc r.1,(V.int .i64) r.2]):=snd (fun q=>zol.eq_2 ..) @zbm3
instance zbna (a0:(Sl Int)): ∀q,Aq q (zom q a0) (Dp T 226 [(Sl.enc (V.int .u8)) a0] fun r=>[zkn.enc r.1,(V.int .i64) r.2]):=snd (fun q=>zom.eq_2 ..) (ai @zbbz<| @zbct)
def zbnb:=(ai @zbc6<| ai @zbbz<| ai @zbdx<| @zbdy)
abbrev zbnc (q:Nat):Prop:= ∀(v0z:Bool) (v0l:List Int) (v3 v62 h1_0:Int) (h1_1z:Bool) (h1_1l:List Int) (h1_2:Bool) (h1_3:Int),Aq q (zoo q v0z v0l v3 v62 h1_0 h1_1z h1_1l h1_2 h1_3) fun M r=> ∀A,some [zko.enc r.1,(V.int .i64) r.2]=A-> ∀j,q<=j->Lz T (M+7) 0 [0,2,3,6,62,63] [.blk 0, .code z0i] z0h j (fin [.cell 2 6 true, .tmp 3] [[],[]]) [(0,(.sl v0z (List.map (V.int .u8) v0l))),(2,(.ptr 0 0)),(3,(.int .i64 v3)),(6,(.ptr 1 0)),(62,(.int .i64 v62)),(63,(.int .i64 0))] [(.box [(.int .i64 0),(.int .i64 0),(.sl true []),(.bool false),(.int .i64 0),(.sl true [])]),(.box [(.int .i64 h1_0),(.sl h1_1z (List.map (V.int .i64) h1_1l)),(.bool h1_2),(.int .i64 h1_3)])] A
abbrev zbnd (q:Nat):Prop:= ∀(v0z:Bool) (v0l:List Int) (v3 v62 v63 h1_0:Int) (h1_1z:Bool) (h1_1l:List Int) (h1_2:Bool) (h1_3:Int) (h2l:List zkn),Aq q (zon q v0z v0l v3 v62 v63 h1_0 h1_1z h1_1l h1_2 h1_3 h2l) fun M r=> ∀A,some [zko.enc r.1,(V.int .i64) r.2]=A-> ∀j,q<=j->Lz T (M+7) 0 [0,2,3,6,62,63] [.blk 0, .code z0i] z0h j (fin [.cell 2 6 true, .tmp 3] [[],[]]) [(0,(.sl v0z (List.map (V.int .u8) v0l))),(2,(.ptr 0 0)),(3,(.int .i64 v3)),(6,(.ptr 1 0)),(62,(.int .i64 v62)),(63,(.int .i64 v63))] [(.box [(.int .i64 0),(.int .i64 0),(.sl true []),(.bool false),(.int .i64 0),(.vw 2 0 0 h2l.length 1)]),(.box [(.int .i64 h1_0),(.sl h1_1z (List.map (V.int .i64) h1_1l)),(.bool h1_2),(.int .i64 h1_3)]),(.row 0 false 3 (List.map zkn.enc h2l) true)] A
theorem zbne: ∀q,zbnc q/\zbnd q:=lpn @zbnb (ai @zoo.eq_2<| @zon.eq_2)
instance zbnf (q):zbnc q:=(zbne q).1
instance zbng (q):zbnd q:=(zbne q).2
instance zbnh (a0:(Sl Int)): ∀q,Aq q (zop q a0) (Dp T 187 [(Sl.enc (V.int .u8)) a0] fun r=>[zko.enc r.1,(V.int .i64) r.2]):=snd (fun q=>zop.eq_2 ..) @zbnb
instance zbni (a0:(Sl Int)): ∀q,Aq q (zoq q a0) (Dp T 120 [(Sl.enc (V.int .u8)) a0] fun r=>[zko.enc r.1,(V.int .i64) r.2]):=snd (fun q=>zoq.eq_2 ..) (ai @zbb5<| ai @z9y<| ai @zbbw<| ai @zbco<| ai @zbc3<| ai @zbc4<| ai @zbc5<| @zbc7)
def zbnj:=trivial
abbrev zbnk (q:Nat):Prop:= ∀(v0z:Bool) (v0l:List Int) (v3:Int),Aq q (zor q v0z v0l v3) fun M r=> ∀A,some [V.bool r]=A-> ∀j,q<=j->Lz T (M+7) 0 [0,3] [.blk 0, .code (.seq (.reg [mt 15 0,mh 16 15,mk 17 .lss 16 10,mt 2 17]) .ret)] z7o j (fin [.tmp 2] [[]]) [(0,(.sl v0z (List.map (V.int .u8) v0l))),(3,(.int .i64 v3))] [] A
instance zbnl: ∀q,zbnk q:=lp1 @zbnj @zor.eq_2
instance zbnm (a0:(Sl Int)): ∀q,Aq q (zos q a0) (Dp T 281 [(Sl.enc (V.int .u8)) a0] fun r=>[V.bool r]):=snd (fun q=>zos.eq_2 ..) @zbnj
def zbnn:=trivial
abbrev zbno (q:Nat):Prop:= ∀(v0z:Bool) (v0l:List Int) (v4 v5 v6:Int),Aq q (zot q v0z v0l v4 v5 v6) fun M r=> ∀A,some [(V.int .u64) r.1,(V.int .i64) r.2]=A-> ∀j,q<=j->Lz T (M+7) 0 [0,4,5,6] [.blk 0, .code (.seq (.reg [mc 2 (.int .u64 0),mz 3 0]) .ret)] z61 j (fin [.tmp 2, .tmp 3] [[],[]]) [(0,(.sl v0z (List.map (V.int .u8) v0l))),(4,(.int .u64 v4)),(5,(.int .u64 v5)),(6,(.int .i64 v6))] [] A
instance zbnp: ∀q,zbno q:=lp1 @zbnn @zot.eq_2
instance zbnq (a0:(Sl Int)): ∀q,Aq q (zou q a0) (Dp T 266 [(Sl.enc (V.int .u8)) a0] fun r=>[(V.int .u64) r.1,(V.int .i64) r.2]):=snd (fun q=>zou.eq_2 ..) @zbnn
instance zbnr (a0:(Sl Int)): ∀q,Aq q (zov q a0) (Dp T 237 [(Sl.enc (V.int .u8)) a0] fun r=>[(V.int .i64) r.1,(V.int .i64) r.2]):=snd (fun q=>zov.eq_2 ..) @zbe1
def zbns:=trivial
abbrev zbnt (q:Nat):Prop:= ∀(v3 v4:Int),Aq q (zow q v3 v4) fun M r=> ∀A,some [(V.int .u32) r]=A-> ∀j,q<=j->Lz T (M+7) 0 [3,4] [.blk 0, .code (.seq (.reg [mt 20 3,mt 2 20]) .ret)] z65 j (fin [.tmp 2] [[]]) [(3,(.int .u32 v3)),(4,(.int .i64 v4))] [] A
instance zbnu: ∀q,zbnt q:=lp1 @zbns @zow.eq_2
instance zbnv (a0:Int): ∀q,Aq q (zox q a0) (Dp T 267 [(V.int .u8) a0] fun r=>[(V.int .u32) r]):=snd (fun q=>zox.eq_2 ..) @zbns
def zbnw:= @zbe2
abbrev zbnx (q:Nat):Prop:= ∀(v1z:Bool) (v1l:List Int) (v5 v6:Int),Aq q (zoy q v1z v1l v5 v6) fun M r=> ∀A,some [(V.int .u32) r]=A-> ∀j,q<=j->Lz T (M+7) 0 [1,5,6] [.blk 0, .code (.seq (.reg [mt 26 5,mo 27 (.un .xor (.t 26)),mt 4 27]) .ret)] z4f j (fin [.tmp 4] [[]]) [(1,(.sl v1z (List.map (V.int .u8) v1l))),(5,(.int .u32 v5)),(6,(.int .i64 v6))] [] A
instance zbny: ∀q,zbnx q:=lp1 @zbnw @zoy.eq_2
instance zbnz (a0:Int) (a1:(Sl Int)): ∀q,Aq q (zoz q a0 a1) (Dp T 239 [(V.int .u32) a0,(Sl.enc (V.int .u8)) a1] fun r=>[(V.int .u32) r]):=snd (fun q=>zoz.eq_2 ..) @zbnw
instance zbn0 (a0:(Sl Int)): ∀q,Aq q (zo0 q a0) (Dp T 197 [(Sl.enc (V.int .u8)) a0] fun r=>[(V.int .u32) r]):=snd (fun q=>zo0.eq_2 ..) @zbef
def zbn1:=trivial
abbrev zbn2 (q:Nat):Prop:= ∀(v0z:Bool) (v0l:List Int) (v3 v4:Int),Aq q (zo1 q v0z v0l v3 v4) fun M r=> ∀A,some [(V.int .u64) r]=A-> ∀j,q<=j->Lz T (M+7) 0 [0,3,4] [.blk 0, .code (.seq (.reg [mt 21 3,mt 2 21]) .ret)] z4d j (fin [.tmp 2] [[]]) [(0,(.sl v0z (List.map (V.int .u8) v0l))),(3,(.int .u64 v3)),(4,(.int .i64 v4))] [] A
instance zbn3: ∀q,zbn2 q:=lp1 @zbn1 @zo1.eq_2
instance zbn4 (a0:(Sl Int)): ∀q,Aq q (zo2 q a0) (Dp T 238 [(Sl.enc (V.int .u8)) a0] fun r=>[(V.int .u64) r]):=snd (fun q=>zo2.eq_2 ..) @zbn1
instance zbn5 (a0:(Sl Int)): ∀q,Aq q (zo3 q a0) (Dp T 256 [(Sl.enc (V.int .u8)) a0] fun r=>[(Ow.enc 1 (V.int .u8)) r.1,(V.int .i64) r.2.1,(V.int .i64) r.2.2]):=snd (fun q=>zo3.eq_2 ..) (ai @zbdi<| ai @zbed<| ai @zbee<| @zbfe)
def zbn6:= @zber
abbrev zbn7 (q:Nat):Prop:= ∀(v0z:Bool) (v0l:List Int) (v6:Int) (h0z:Bool) (h0l:List (Sl Int)),Aq q (zo4 q v0z v0l v6 h0z h0l) fun M r=> ∀A,some [(Ow.enc 1 (Sl.enc (V.int .u8))) r.1,(V.int .i64) r.2.1,(V.int .i64) r.2.2]=A-> ∀j,q<=j->Lz T (M+7) 0 [0,5,6] [.blk 0, .code (.seq (.reg [mt 34 5,mt 35 6,mt 2 34,mt 3 35,mz 4 0]) .ret)] z22 j (fin [.tmp 2, .tmp 3, .tmp 4] [[2],[],[]]) [(0,(.sl v0z (List.map (V.int .u8) v0l))),(5,(.vw 0 0 0 h0l.length 1)),(6,(.int .i64 v6))] [(.row 0 h0z 1 (List.map (Sl.enc (V.int .u8)) h0l) true)] A
instance zbn8: ∀q,zbn7 q:=lp1 @zbn6 @zo4.eq_2
instance zbn9 (a0:(Sl Int)): ∀q,Aq q (zo5 q a0) (Dp T 227 [(Sl.enc (V.int .u8)) a0] fun r=>[(Ow.enc 1 (Sl.enc (V.int .u8))) r.1,(V.int .i64) r.2.1,(V.int .i64) r.2.2]):=snd (fun q=>zo5.eq_2 ..) @zbn6
instance zboa (a0:(Sl Int)): ∀q,Aq q (zo6 q a0) (Dp T 188 [(Sl.enc (V.int .u8)) a0] fun r=>[(Ow.enc 1 (Sl.enc (V.int .u8))) r.1,(V.int .i64) r.2]):=snd (fun q=>zo6.eq_2 ..) @zbdz
instance zbob (a0 a1:Int): ∀q,Aq q (zo7 q a0 a1) (Dp T 292 [(V.int .i64) a0,(V.int .i64) a1] fun r=>[V.bool r]):=snd (fun q=>zo7.eq_2 ..) trivial
instance zboc (a0:Int): ∀q,Aq q (zo8 q a0) (Dp T 285 [(V.int .u64) a0] fun r=>[(V.int .i64) r]):=snd (fun q=>zo8.eq_2 ..) trivial
instance zbod (a0:(Sl Int)): ∀q,Aq q (zo9 q a0) (Dp T 268 [(Sl.enc (V.int .u8)) a0] fun r=>[(V.int .i64) r.1,(V.int .i64) r.2]):=snd (fun q=>zo9.eq_2 ..) (ai @zbe1<| @zbfk)
instance zboe (a0:zkp): ∀q,Aq q (zpa q a0) (Dp T 232 [zkp.enc a0] fun r=>[V.bool r]):=snd (fun q=>zpa.eq_2 ..) (ai @zbd5<| @zba4)
instance zbof (a0:(Sl Int)): ∀q,Aq q (zpb q a0) (Dp T 294 [(Sl.enc (V.int .u8)) a0] fun r=>[zkp.enc r.1,(V.int .i64) r.2]):=snd (fun q=>zpb.eq_2 ..) (ai @zbd6<| ai @zbed<| @zbe3)
instance zbog (a0:zkq) (a1:Int) (a2:(Sl Int)): ∀q,Aq q (zpc q a0 a1 a2) (Dp T 293 [zkq.enc a0,(V.int .i64) a1,(Sl.enc (V.int .u8)) a2] fun r=>[zkq.enc r.1,(V.int .i64) r.2]):=snd (fun q=>zpc.eq_2 ..) (ai @zbed<| ai @zbe3<| @zbfq)
instance zboh (a0:zkq): ∀q,Aq q (zpd q a0) (Dp T 192 [zkq.enc a0] fun r=>[V.bool r]):=snd (fun q=>zpd.eq_2 ..) @zbd6
def zboi:=(ai @zbff<| ai @zbdd<| ai @zbed<| ai @zbfo<| @zbfp)
abbrev zboj (q:Nat):Prop:= ∀(v0z:Bool) (v0l:List Int) (v5 v6 v8 v9 h2_0 h2_1 h2_2 h2_3 h2_4 h2_5 h2_6:Int),Aq q (zpe q v0z v0l v5 v6 v8 v9 h2_0 h2_1 h2_2 h2_3 h2_4 h2_5 h2_6) fun M r=> ∀A,some [zkq.enc r.1,(V.int .i64) r.2]=A-> ∀j,q<=j->Lz T (M+7) 0 [0,2,4,5,6,7,8,9] [.blk 0, .code z70] z7y j (fin [.cell 2 7 true, .tmp 3] [[],[]]) [(0,(.sl v0z (List.map (V.int .u8) v0l))),(2,(.ptr 0 0)),(4,(.ptr 1 0)),(5,(.int .i64 v5)),(6,(.int .i64 v6)),(7,(.ptr 2 0)),(8,(.int .i64 v8)),(9,(.int .i64 v9))] [(.box [(.int .i64 0),(.int .i64 0),(.int .i64 0),(.int .i64 0),(.int .i64 0),(.int .i64 0),(.int .i64 0)]),(.box [(.int .i64 0),(.int .i64 0),(.int .i64 0),(.int .i64 0),(.int .i64 0),(.int .i64 0),(.int .i64 0)]),(.box [(.int .i64 h2_0),(.int .i64 h2_1),(.int .i64 h2_2),(.int .i64 h2_3),(.int .i64 h2_4),(.int .i64 h2_5),(.int .i64 h2_6)])] A
instance zbok: ∀q,zboj q:=lp1 @zboi @zpe.eq_2
instance zbol (a0:(Sl Int)): ∀q,Aq q (zpf q a0) (Dp T 282 [(Sl.enc (V.int .u8)) a0] fun r=>[zkq.enc r.1,(V.int .i64) r.2]):=snd (fun q=>zpf.eq_2 ..) @zboi
def zbom:=(ai @zbed<| @zbfg)
abbrev zbon (q:Nat):Prop:= ∀(v0:Int) (v1z:Bool) (v1l:List Int) (h0z:Bool) (h0l:List zkq),Aq q (zpg q v0 v1z v1l h0z h0l) fun M r=> ∀A,some [(Ow.enc 7 zkq.enc) r.1,V.bool r.2]=A-> ∀j,q<=j->Lz T (M+7) 0 [0,1,6] [.blk 0, .code (.seq (.reg [mt 63 6,mt 4 63,mc 5 (.bool true)]) .ret)] z5x j (fin [.tmp 4, .tmp 5] [[8],[]]) [(0,(.int .i64 v0)),(1,(.sl v1z (List.map (V.int .u8) v1l))),(6,(.vw 0 0 0 h0l.length 1))] [(.row 0 h0z 7 (List.map zkq.enc h0l) true)] A
instance zboo: ∀q,zbon q:=lp1 @zbom @zpg.eq_2
instance zbop (a0:Int) (a1:(Sl Int)): ∀q,Aq q (zph q a0 a1) (Dp T 257 [(V.int .i64) a0,(Sl.enc (V.int .u8)) a1] fun r=>[(Ow.enc 7 zkq.enc) r.1,V.bool r.2]):=snd (fun q=>zph.eq_2 ..) @zbom
def zboq:= @zbdd
abbrev zbor (q:Nat):Prop:= ∀(v0z:Bool) (v0l:List zkq) (v1 v5:Int),Aq q (zpi q v0z v0l v1 v5) fun M r=> ∀A,some [V.bool r]=A-> ∀j,q<=j->Lz T (M+7) 0 [0,1,5] [.blk 0, .code (.seq (.reg [mc 4 (.bool true)]) .ret)] z58 j (fin [.tmp 4] [[]]) [(0,(.sl v0z (List.map zkq.enc v0l))),(1,(.int .i64 v1)),(5,(.int .i64 v5))] [] A
instance zbos: ∀q,zbor q:=lp1 @zboq @zpi.eq_2
instance zbot (a0:(Sl zkq)) (a1:Int): ∀q,Aq q (zpj q a0 a1) (Dp T 259 [(Sl.enc zkq.enc) a0,(V.int .i64) a1] fun r=>[V.bool r]):=snd (fun q=>zpj.eq_2 ..) @zboq
def zbou:=trivial
abbrev zbov (q:Nat):Prop:= ∀(v0z:Bool) (v0l:List zkq) (v1 v5:Int),Aq q (zpk q v0z v0l v1 v5) fun M r=> ∀A,some [(V.int .i64) r]=A-> ∀j,q<=j->Lz T (M+7) 0 [0,1,5] [.blk 0, .code (.seq (.reg [mz 4 0]) .ret)] z84 j (fin [.tmp 4] [[]]) [(0,(.sl v0z (List.map zkq.enc v0l))),(1,(.int .i64 v1)),(5,(.int .i64 v5))] [] A
instance zbow: ∀q,zbov q:=lp1 @zbou @zpk.eq_2
instance zbox (a0:(Sl zkq)) (a1:Int): ∀q,Aq q (zpl q a0 a1) (Dp T 295 [(Sl.enc zkq.enc) a0,(V.int .i64) a1] fun r=>[(V.int .i64) r]):=snd (fun q=>zpl.eq_2 ..) @zbou
instance zboy (a0:(Sl zkq)) (a1:(Sl Int)): ∀q,Aq q (zpm q a0 a1) (Dp T 283 [(Sl.enc zkq.enc) a0,(Sl.enc (V.int .u8)) a1] fun r=>[zkq.enc r.1,(V.int .i64) r.2]):=snd (fun q=>zpm.eq_2 ..) (ai @zbed<| ai @zbe3<| ai @zbfq<| @zbfr)
def zboz:= @zbdd
abbrev zbo0 (q:Nat):Prop:= ∀(v0z:Bool) (v0l:List zkq) (v3:Int),Aq q (zpn q v0z v0l v3) fun M r=> ∀A,some [V.bool r]=A-> ∀j,q<=j->Lz T (M+7) 0 [0,3] [.blk 0, .code (.seq (.reg [mc 2 (.bool true)]) .ret)] z87 j (fin [.tmp 2] [[]]) [(0,(.sl v0z (List.map zkq.enc v0l))),(3,(.int .i64 v3))] [] A
instance zbo1: ∀q,zbo0 q:=lp1 @zboz @zpn.eq_2
instance zbo2 (a0:(Sl zkq)): ∀q,Aq q (zpo q a0) (Dp T 296 [(Sl.enc zkq.enc) a0] fun r=>[V.bool r]):=snd (fun q=>zpo.eq_2 ..) @zboz
def zbo3:=trivial
abbrev zbo4 (q:Nat):Prop:= ∀(v0:Int) (h0z:Bool) (h0l:List Int),Aq q (zpp q v0 h0z h0l) fun M r=> ∀A,some [(Ow.enc 1 (V.int .u8)) r]=A-> ∀j,q<=j->Lz T (M+7) 0 [0,3] [.blk 0, .code (.seq (.reg [mt 15 3,mt 16 0,mo 17 (.conv .u8 (.t 16)),mo 18 (.bsl 1 [.t 17] 0),mo 19 (.app (.t 15) (.t 18) 1),mt 2 19]) .ret)] z6d j (fin [.tmp 2] [[2]]) [(0,(.int .u64 v0)),(3,(.vw 0 0 0 h0l.length 1))] [(.row 0 h0z 1 (List.map (V.int .u8) h0l) true)] A
instance zbo5: ∀q,zbo4 q:=lp1 @zbo3 @zpp.eq_2
instance zbo6 (a0:Int): ∀q,Aq q (zpq q a0) (Dp T 261 [(V.int .u64) a0] fun r=>[(Ow.enc 1 (V.int .u8)) r]):=snd (fun q=>zpq.eq_2 ..) @zbo3
instance zbo7 (a0:(Sl Int)) (a1:Int): ∀q,Aq q (zpr q a0 a1) (Dp T 231 [(Sl.enc (V.int .u8)) a0,(V.int .i64) a1] fun r=>[(Ow.enc 1 (V.int .u8)) r]):=snd (fun q=>zpr.eq_2 ..) @zbew
instance zbo8 (a0:Int): ∀q,Aq q (zps q a0) (Dp T 311 [(V.int .i64) a0] fun r=>[(V.int .u64) r]):=snd (fun q=>zps.eq_2 ..) trivial
instance zbo9 (a0:(Sl Int)) (a1:Int): ∀q,Aq q (zpt q a0 a1) (Dp T 297 [(Sl.enc (V.int .u8)) a0,(V.int .i64) a1] fun r=>[(Ow.enc 1 (V.int .u8)) r]):=snd (fun q=>zpt.eq_2 ..) (ai @zbew<| @zbfw)
instance zbpa (a0:(Sl Int)) (a1:zkp): ∀q,Aq q (zpu q a0 a1) (Dp T 298 [(Sl.enc (V.int .u8)) a0,zkp.enc a1] fun r=>[(Ow.enc 1 (V.int .u8)) r.1,(V.int .i64) r.2]):=snd (fun q=>zpu.eq_2 ..) (ai @zbd4<| ai @zbd6<| @zbft)
def zbpb:=(ai @zbfi<| ai @zbd4<| ai @zbfr<| ai @zbfs<| ai @zbft<| @zbfu)
abbrev zbpc (q:Nat):Prop:= ∀(v0z:Bool) (v0l:List zkq) (v6:Int) (h0z:Bool) (h0l:List Int) (h0x:Bool),Aq q (zpv q v0z v0l v6 h0z h0l h0x) fun M r=> ∀A,some [(Ow.enc 1 (V.int .u8)) r.1,(V.int .i64) r.2]=A-> ∀j,q<=j->Lz T (M+7) 0 [0,5,6] [.blk 0, .code (.seq (.reg [mt 69 5,mt 2 69,mz 3 0]) .ret)] z8f j (fin [.tmp 2, .tmp 3] [[2],[]]) [(0,(.sl v0z (List.map zkq.enc v0l))),(5,(.vw 0 0 0 h0l.length 1)),(6,(.int .i64 v6))] [(.row 0 h0z 1 (List.map (V.int .u8) h0l) h0x)] A
instance zbpd: ∀q,zbpc q:=lp1 @zbpb @zpv.eq_2
instance zbpe (a0:(Sl zkq)): ∀q,Aq q (zpw q a0) (Dp T 284 [(Sl.enc zkq.enc) a0] fun r=>[(Ow.enc 1 (V.int .u8)) r.1,(V.int .i64) r.2]):=snd (fun q=>zpw.eq_2 ..) @zbpb
def zbpf:=(ai @zbed<| ai @zbfh<| @zbfj)
abbrev zbpg (q:Nat):Prop:= ∀(v0z:Bool) (v0l:List Int) (v4 v6 v9 v10:Int) (h0z:Bool) (h0l:List zkq),Aq q (zpx q v0z v0l v4 v6 v9 v10 h0z h0l) fun M r=> ∀A,some [(Ow.enc 7 zkq.enc) r.1,(V.int .i64) r.2]=A-> ∀j,q<=j->Lz T (M+7) 0 [0,4,6,8,9,10] [.blk 0, .code (.seq (.reg [mt 71 8,ma 72 284 [.t 71],mt 70 72,me 73 70 0,me 74 70 1,mt 13 73,mt 14 74]) z52)] z51 j (fin [.tmp 2, .tmp 3] [[8],[]]) [(0,(.sl v0z (List.map (V.int .u8) v0l))),(4,(.int .i64 v4)),(6,(.int .i64 v6)),(8,(.vw 0 0 0 h0l.length 1)),(9,(.int .i64 v9)),(10,(.int .i64 v10))] [(.row 0 h0z 7 (List.map zkq.enc h0l) true)] A
instance zbph: ∀q,zbpg q:=lp1 @zbpf @zpx.eq_2
instance zbpi (a0:(Sl Int)): ∀q,Aq q (zpy q a0) (Dp T 258 [(Sl.enc (V.int .u8)) a0] fun r=>[(Ow.enc 7 zkq.enc) r.1,(V.int .i64) r.2]):=snd (fun q=>zpy.eq_2 ..) @zbpf
end Go.Dvm.C
