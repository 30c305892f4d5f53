/- The machine comes to these answers: part 1. -/
import Derived.Test.YtfefdjloogcapaaGreatQl0
import Derived.KernelRfl
set_option linter.all false
set_option maxRecDepth 100000
set_option maxHeartbeats 4000000
namespace Go.Dvm.C
open Go Go.Dvm Go.Dvm.I
def zyb (q:Nat):Prop:= ∀M,12*q<=M-> ∀j,q<=j-> ∀(v5:Int) (h0_0 h1_0:List Int) (r:(List Int)),zm6 q v5 h0_0 h1_0=some r->LS T (M+11) 0 [0,1,5] [.blk 0, .code (.seq (.reg [mo 25 (.load (.t 1) 256 true),ms 0 25 256]) .ret)] ztn j (fin [.cell 0 256 true] [[]]) (some [(arrEnc (V.int .u32)) r]) [(0,(.ptr 0 0)),(1,(.ptr 1 0)),(5,(.int .i64 v5))] [(.box (List.map (V.int .u32) h0_0)),(.box (List.map (V.int .u32) h1_0))]
def zyc (q:Nat):Prop:= ∀M,12*q<=M-> ∀j,q<=j-> ∀j1,q<=j1-> ∀(v2 v3 v5 v10:Int) (h0_0 h1_0:List Int) (r:(List Int)),zm7 q v2 v3 v5 v10 h0_0 h1_0=some r->LS T (M+11) 0 [0,1,2,3,5,10] [.blk 2, .code (.reg [mt 21 2,mt 22 3,mo 23 (.aaddr (.t 1) (.t 21) 256 1),ms 23 22 1]), .blk 1, .code (.reg [mk 24 .add 5 1,mt 5 24]), .rounds [0,1,5] ztn j1, .blk 0, .code (.seq (.reg [mo 25 (.load (.t 1) 256 true),ms 0 25 256]) .ret)] ztl j (fin [.cell 0 256 true] [[]]) (some [(arrEnc (V.int .u32)) r]) [(0,(.ptr 0 0)),(1,(.ptr 1 0)),(2,(.int .i64 v2)),(3,(.int .u32 v3)),(5,(.int .i64 v5)),(10,(.int .i64 v10))] [(.box (List.map (V.int .u32) h0_0)),(.box (List.map (V.int .u32) h1_0))]
def zyd:=ai @kk<| ai @ke<| @kn
theorem zye (q:Nat) (z12:zyc q):zyb (q+1):=by
 intro M hM j hj v5 h0_0 h1_0 r h R hR fr H hc
 obtain ⟨j,rfl⟩: ∃i,j=i+1:=⟨j - 1,by omega⟩
 rw [zhw,hc];clear hc
 rw [zm6] at h
 replace h:=br h;rcases h with ⟨h1,h⟩ | ⟨h1,h⟩
 ·replace h:=z12 M (by omega) (M+11) (by omega) j (by omega) _ _ _ _ _ _ _ h R hR
  simp (maxDischargeDepth:=12) only [zyd,simprocAttr,arrEnc, *]
 ·replace h:=bn h;obtain ⟨h2,h⟩:=h
  replace h:=bc h;rcases h with ⟨h3,h⟩ | ⟨h3,h⟩
  ·replace h:=bn h;obtain ⟨h4,h⟩:=h
   replace h:=bn h;obtain ⟨h5,h⟩:=h
   cases h;subst hR;simp (maxDischargeDepth:=12) only [zyd,simprocAttr,arrEnc, *]
  ·cases h
theorem zyf (q:Nat) (z13:zyb q) (z12:zyc q):zyc (q+1):=by
 intro M hM j hj j1 hj1 v2 v3 v5 v10 h0_0 h1_0 r h R hR fr H hc
 obtain ⟨j,rfl⟩: ∃i,j=i+1:=⟨j - 1,by omega⟩
 rw [zhw,hc];clear hc
 rw [zm7] at h
 replace h:=br h;rcases h with ⟨h1,h⟩ | ⟨h1,h⟩
 ·replace h:=z12 M (by omega) j (by omega) j1 (by omega) _ _ _ _ _ _ _ h R hR
  simp (maxDischargeDepth:=12) only [zyd,simprocAttr,arrEnc, *]
 ·replace h:=bn h;obtain ⟨h2,h⟩:=h
  replace h:=bn h;obtain ⟨h3,h⟩:=h
  replace h:=bn h;obtain ⟨h4,h⟩:=h
  replace h:=z13 M (by omega) j1 (by omega) _ _ _ _ h R hR
  simp (maxDischargeDepth:=12) only [zyd,simprocAttr,arrEnc, *]
theorem zyg: ∀q,zyb q/\zyc q
 | 0=>by refine ⟨?_,?_⟩<;>(intro M hM j hj;intros;rename_i h;first | (cases h;done) | simp only [zm6.eq_1,zm7.eq_1,reduceCtorEq] at h)
 | q+1=>by have ⟨i0,i1⟩:=zyg q;exact ⟨zye q i1,zyf q i0 i1⟩
instance zyh: ∀q,Aq q (zm8 q) (Dp T 201 [] fun r=>[(arrEnc (V.int .u32)) r]):=sndo (fun q=>zm8.eq_2 ..) (hs:=by
 intro q M hM r h R hR
 have z13:=(zyg q).1
 replace h:=z13 M (by omega) (M+11) (by omega) _ _ _ _ h R hR
 simp (maxDischargeDepth:=12) only [zyd,simprocAttr,arrEnc, *])
def FS:Nat->List V->Option (List V)
 | 201,[]=>(I.zm8 2570).map fun r=>[.agg (r.map (V.int .u32))]
 | _,_=>none
theorem fs_ok: ∀f ds r,FS f ds=some r-> ∀M,30840<=M->(orc T M).deep f ds=some r:=by
 intro f ds r h M hM
 unfold FS at h
 split at h
 ·obtain ⟨x,hx,rfl⟩:=Option.map_eq_some_iff.1 h;exact us (q:=2570) hM hx 0
 ·cases h
theorem zyi:(orcE T FS 800).deep 12 []=some [.bool true]:=by kernel_rfl
instance zyj: ∀q,Aq q (zlq q) (Dp T 12 [] fun r=>[V.bool r]):=fun q=>⟨by
 intro M hM r h k
 unfold I.zlq at h
 split at h
 ·cases h;exact closed fs_ok zyi (by omega)
 ·cases h⟩
def zyk:=trivial
abbrev zyl (q:Nat):Prop:= ∀(v0z:Bool) (v0l:List zlf) (v3:Int),Aq q (zlr q v0z v0l v3) fun M r=> ∀A,some [V.bool r]=A-> ∀j,q<=j->Lz T (M+11) 0 [0,3] [.blk 0, .code (.seq (.reg [mc 2 (.bool true)]) .ret)] zou j (fin [.tmp 2] [[]]) [(0,(.sl v0z (List.map zlf.enc v0l))),(3,(.int .i64 v3))] [] A
instance zym: ∀q,zyl q:=lp1 @zyk @zlr.eq_2
instance zyn (a0:(Sl zlf)): ∀q,Aq q (zls q a0) (Dp T 13 [(Sl.enc zlf.enc) a0] fun r=>[V.bool r]):=snd (fun q=>zls.eq_2 ..) @zyk
instance zyo (a0:Int): ∀q,Aq q (zlt q a0) (Dp T 35 [(V.int .i64) a0] fun r=>[zlg.enc r]):=snd (fun q=>zlt.eq_2 ..) trivial
instance zyp (a0:(Sl zli)): ∀q,Aq q (zlu q a0) (Dp T 82 [(Sl.enc zli.enc) a0] fun r=>[zli.enc r.1,V.bool r.2]):=snd (fun q=>zlu.eq_2 ..) trivial
instance zyq (a0:(Sl Int)): ∀q,Aq q (zlv q a0) (Dp T 84 [(Sl.enc (V.int .i64)) a0] fun r=>[(Ow.enc 1 (V.int .i64)) r]):=snd (fun q=>zlv.eq_2 ..) trivial
instance zyr (a0:(Sl zlh)): ∀q,Aq q (zlw q a0) (Dp T 85 [(Sl.enc zlh.enc) a0] fun r=>[(Ow.enc 3 zlh.enc) r]):=snd (fun q=>zlw.eq_2 ..) trivial
instance zys (a0:zli): ∀q,Aq q (zlx q a0) (Dp T 57 [zli.enc a0] fun r=>[zli.enc r]):=snd (fun q=>zlx.eq_2 ..) (ai @zu3<| ai @zvf<| @zvg)
instance zyt (a0:Int): ∀q,Aq q (zly q a0) (Dp T 175 [(V.int .i64) a0] fun r=>[(V.int .i64) r]):=snd (fun q=>zly.eq_2 ..) trivial
instance zyu (a0:zld): ∀q,Aq q (zlz q a0) (Dp T 122 [zld.enc a0] fun r=>[V.bool r]):=snd (fun q=>zlz.eq_2 ..) (ai @zv1<| @zwq)
instance zyv (a0:zle): ∀q,Aq q (zl0 q a0) (Dp T 79 [zle.enc a0] fun r=>[V.bool r]):=snd (fun q=>zl0.eq_2 ..) @zv2
instance zyw (a0:Int): ∀q,Aq q (zl1 q a0) (Dp T 177 [(V.int .i64) a0] fun r=>[V.bool r]):=snd (fun q=>zl1.eq_2 ..) @zwq
def zyx:=trivial
abbrev zyy (q:Nat):Prop:= ∀(v0z:Bool) (v0l:List Int) (v1 v5 v6:Int),Aq q (zl2 q v0z v0l v1 v5 v6) fun M r=> ∀A,some [V.bool r]=A-> ∀j,q<=j->Lz T (M+11) 0 [0,1,5,6] [.blk 0, .code zs0] zsz j (fin [.tmp 4] [[]]) [(0,(.sl v0z (List.map (V.int .i64) v0l))),(1,(.int .i64 v1)),(5,(.int .i64 v5)),(6,(.int .i64 v6))] [] A
instance zyz: ∀q,zyy q:=lp1 @zyx @zl2.eq_2
instance zy0 (a0:(Sl Int)) (a1:Int): ∀q,Aq q (zl3 q a0 a1) (Dp T 178 [(Sl.enc (V.int .i64)) a0,(V.int .i64) a1] fun r=>[V.bool r]):=snd (fun q=>zl3.eq_2 ..) @zyx
def zy1 (q:Nat):Prop:= ∀M,12*q<=M-> ∀j,q<=j-> ∀(v0z:Bool) (v0l:List Int) (v7 v8 h0_0:Int) (h0_1z:Bool) (h0_1l:List Int) (h0_2:Bool) (h0_3 r:Int),zl4 q v0z v0l v7 v8 h0_0 h0_1z h0_1l h0_2 h0_3=some r->LS T (M+9) 1 [0,1,7,8] [.blk 0, .code (.seq (.reg [mc 4 (.int .i64 (-1))]) .ret)] zti j (finI 1 false [.tmp 4]) ((some ([(.int .i64 r)],[(.box [(.int .i64 h0_0),(.sl h0_1z (List.map (V.int .i64) h0_1l)),(.bool h0_2),(.int .i64 h0_3)])]):Option (List V×Hp))) [(0,(.sl v0z (List.map (V.int .i64) v0l))),(1,(.fn 177 [])),(7,(.int .i64 v7)),(8,(.int .i64 v8))] [(.box [(.int .i64 h0_0),(.sl h0_1z (List.map (V.int .i64) h0_1l)),(.bool h0_2),(.int .i64 h0_3)])]
def zy2:=ai @kk<| ai @ke<| ai @kn<| @zwt
theorem zy3 (q:Nat) (z14:zy1 q):zy1 (q+1):=by
 intro M hM j hj v0z v0l v7 v8 h0_0 h0_1z h0_1l h0_2 h0_3 r h R hR fr H hc
 obtain ⟨j,rfl⟩: ∃i,j=i+1:=⟨j - 1,by omega⟩
 rw [zhw,hc];clear hc
 rw [zl4] at h
 replace h:=br h;rcases h with ⟨h1,h⟩ | ⟨h1,h⟩
 ·replace h:=bn h;obtain ⟨h2,h⟩:=h
  replace h:=ob h;obtain ⟨e1,h3,h⟩:=h
  replace h:=ob h;obtain ⟨r2,h4,h⟩:=h
  replace h4:=us1 (q:=q) (M:=M) (by omega) h4 9
  try simp only [kf,simprocAttr] at h4
  replace h:=bb h;rcases h with ⟨h5',h5,h⟩ | ⟨h5',h5,h⟩
  ·cases h;subst hR;simp only [zy2,simprocAttr, *]
  ·replace h:=z14 M (by omega) j (by omega) _ _ _ _ _ _ _ _ _ _ h R hR
   simp only [zy2,simprocAttr, *]
 ·cases h;subst hR;simp only [zy2,simprocAttr, *]
theorem zy4: ∀q,zy1 q
 | 0=>by intro M hM j hj;intros;rename_i h;cases h
 | q+1=>by have i0:=zy4 q;exact zy3 q i0
theorem zy5: ∀(q M:Nat),12*q<=M-> ∀(v0z:Bool),∀(v0l:List Int),∀(h0_0:Int),∀(h0_1z:Bool),∀(h0_1l:List Int),∀(h0_2:Bool),∀(h0_3 r:Int),zl5 q v0z v0l h0_0 h0_1z h0_1l h0_2 h0_3=some r->(orc T (M+10)).inl 191 [(.sl v0z (List.map (V.int .i64) v0l)),(.fn 177 [])] [(.box [(.int .i64 h0_0),(.sl h0_1z (List.map (V.int .i64) h0_1l)),(.bool h0_2),(.int .i64 h0_3)])]=(some ([(.int .i64 r)],[(.box [(.int .i64 h0_0),(.sl h0_1z (List.map (V.int .i64) h0_1l)),(.bool h0_2),(.int .i64 h0_3)])]):Option (List V×Hp)):=by
 intro q M hM v0z v0l h0_0 h0_1z h0_1l h0_2 h0_3 r h
 rcases q with _ | q
 ·cases h
 have z14:=(zy4 q)
 refine byR fun R hR=>?_
 rw [zw2.2 (n:=M+9)]
 rw [zl5] at h
 replace h:=z14 M (by omega) (M+9) (by omega) _ _ _ _ _ _ _ _ _ _ h R hR
 simp only [zy2,simprocAttr, *]
def zy6:=ai @kk<| ai @ke<| ai @kn<| ai @zwu<| ai @zw1<| @zws
instance zy7 (a0:zlg): ∀q,Aq q (zl6 q a0) (Dp T 123 [zlg.enc a0] fun r=>[V.bool r]):=sndo (fun q=>zl6.eq_2 ..) (hs:=by
 intro q M hM r h R hR
 repeat' (first | (cases h;done) | (replace h:=bb h;rcases h with ⟨_,_,h⟩ | ⟨_,_,h⟩) | (replace h:=br h;rcases h with ⟨_,h⟩ | ⟨_,h⟩) | (replace h:=ob h;obtain ⟨_,g,h⟩:=h;first | (replace g:=zy5 q M (by omega) _ _ _ _ _ _ _ _ g;try simp only [kf,simprocAttr] at g) | (replace g:=us1 (q:=q) (M:=M) (by omega) g 11;try simp only [kf,simprocAttr] at g) | skip))
 all_goals (cases h;subst hR;simp only [zy6,simprocAttr, *]))
instance zy8 (a0:zlg) (a1:zld): ∀q,Aq q (zl7 q a0 a1) (Dp T 124 [zlg.enc a0,zld.enc a1] fun r=>[zlg.enc r.1,(V.int .i64) r.2]):=snd (fun q=>zl7.eq_2 ..) @zwq
instance zy9 (a0:(Ow Int)) (a1 a2:Int): ∀q,Aq q (zl8 q a0 a1 a2) (Dp T 179 [(Ow.enc 1 (V.int .i64)) a0,(V.int .i64) a1,(V.int .i64) a2] fun r=>[(Ow.enc 1 (V.int .i64)) r]):=snd (fun q=>zl8.eq_2 ..) trivial
instance zza (a0:zlg) (a1:zld): ∀q,Aq q (zl9 q a0 a1) (Dp T 125 [zlg.enc a0,zld.enc a1] fun r=>[zlg.enc r.1,(V.int .i64) r.2]):=snd (fun q=>zl9.eq_2 ..) (ai @zv5<| ai @zvf<| ai @zwq<| @zwv)
def zzb:=trivial
abbrev zzc (q:Nat):Prop:= ∀(v0z:Bool) (v0l:List Int) (v1 v6:Int),Aq q (zma q v0z v0l v1 v6) fun M r=> ∀A,some [(V.int .i64) r.1,V.bool r.2]=A-> ∀j,q<=j->Lz T (M+11) 0 [0,1,6] [.blk 0, .code zs6] zs5 j (fin [.tmp 4, .tmp 5] [[],[]]) [(0,(.sl v0z (List.map (V.int .i64) v0l))),(1,(.int .i64 v1)),(6,(.int .i64 v6))] [] A
instance zzd: ∀q,zzc q:=lp1 @zzb @zma.eq_2
instance zze (a0:(Sl Int)) (a1:Int): ∀q,Aq q (zmb q a0 a1) (Dp T 181 [(Sl.enc (V.int .i64)) a0,(V.int .i64) a1] fun r=>[(V.int .i64) r.1,V.bool r.2]):=snd (fun q=>zmb.eq_2 ..) @zzb
instance zzf (a0:(Sl Int)) (a1:Int): ∀q,Aq q (zmc q a0 a1) (Dp T 180 [(Sl.enc (V.int .i64)) a0,(V.int .i64) a1] fun r=>[(V.int .i64) r]):=snd (fun q=>zmc.eq_2 ..) @zwx
instance zzg (a0:Ow Int) (a1:Int) (a2:Ow Int): ∀q,Aq q (zmd q a0 a1 a2) (Dp T 226 [(Ow.enc 1 (V.int .i64)) a0, .int .i64 a1,(Ow.enc 1 (V.int .i64)) a2] fun r=>[(Ow.enc 1 (V.int .i64)) r]):=fun q=>⟨by
 intro M hM r h k
 rcases q with _ | q
 ·cases h
 obtain ⟨M,rfl⟩: ∃N,M=N+8:=⟨M - 8,by omega⟩
 rw [show M+8+k=M+k+7+1 from by omega,zh7,show T 226=some _ from rfl,y4,zh3 _ rfl]
 rw [zmd] at h
 by_cases c:insOk a0 a1 a2
 ·rw [if_pos c] at h;cases h;exact zjd (V.int .i64) 1 c
 ·rw [if_neg c] at h;cases h⟩
instance zzh (a0:(Sl Int)) (a1 a2:Int): ∀q,Aq q (zme q a0 a1 a2) (Dp T 182 [(Sl.enc (V.int .i64)) a0,(V.int .i64) a1,(V.int .i64) a2] fun r=>[(Sl.enc (V.int .i64)) r.1,V.bool r.2]):=snd (fun q=>zme.eq_2 ..) (ai @zvf<| ai @zwx<| @zw4)
instance zzi (a0:zlg) (a1:zld): ∀q,Aq q (zmf q a0 a1) (Dp T 126 [zlg.enc a0,zld.enc a1] fun r=>[zlg.enc r.1,(V.int .i64) r.2]):=snd (fun q=>zmf.eq_2 ..) (ai @zv7<| ai @zvf<| ai @zwq<| ai @zwv<| ai @zww<| ai @zwx<| @zwy)
instance zzj (a0:zlg) (a1:zld): ∀q,Aq q (zmg q a0 a1) (Dp T 183 [zlg.enc a0,zld.enc a1] fun r=>[zlg.enc r.1,(V.int .i64) r.2]):=snd (fun q=>zmg.eq_2 ..) (ai @zwz<| ai @zww<| @zwy)
instance zzk (a0:zlg) (a1:zld): ∀q,Aq q (zmh q a0 a1) (Dp T 127 [zlg.enc a0,zld.enc a1] fun r=>[zlg.enc r.1,(V.int .i64) r.2]):=snd (fun q=>zmh.eq_2 ..) (ai @zv9<| ai @zwq<| ai @zww<| ai @zwy<| @zw0)
instance zzl (a0:zlg) (a1:zld): ∀q,Aq q (zmi q a0 a1) (Dp T 80 [zlg.enc a0,zld.enc a1] fun r=>[zlg.enc r.1,(V.int .i64) r.2]):=snd (fun q=>zmi.eq_2 ..) (ai @zv3<| ai @zv4<| ai @zv6<| ai @zv8<| @zwa)
instance zzm (a0:Ow zlh) (a1:Int) (a2:Ow zlh): ∀q,Aq q (zmj q a0 a1 a2) (Dp T 132 [(Ow.enc 3 zlh.enc) a0, .int .i64 a1,(Ow.enc 3 zlh.enc) a2] fun r=>[(Ow.enc 3 zlh.enc) r]):=fun q=>⟨by
 intro M hM r h k
 rcases q with _ | q
 ·cases h
 obtain ⟨M,rfl⟩: ∃N,M=N+8:=⟨M - 8,by omega⟩
 rw [show M+8+k=M+k+7+1 from by omega,zh7,show T 132=some _ from rfl,y4,zh3 _ rfl]
 rw [zmj] at h
 by_cases c:insOk a0 a1 a2
 ·rw [if_pos c] at h;cases h;exact zjd zlh.enc 3 c
 ·rw [if_neg c] at h;cases h⟩
def zzn (q:Nat):Prop:= ∀M,12*q<=M-> ∀j,q<=j-> ∀(w1:Nat) (v7 v8 h0_0 h0_1 h0_2 h0_3 h0_4 h0_5 h0_6:Int) (h1z:Bool) (h1l:List zlh) (h1x:Bool) (r:Int),zmk q v7 v8 h0_0 h0_1 h0_2 h0_3 h0_4 h0_5 h0_6 h1z h1l h1x=some r->LS T (M+9) 2 [0,1,7,8] [.blk 0, .code (.seq (.reg [mc 4 (.int .i64 (-1))]) .ret)] zsm j (finI 2 false [.tmp 4]) ((some ([(.int .i64 r)],[(.box [(.int .i64 h0_0),(.int .i64 h0_1),(.int .i64 h0_2),(.int .i64 h0_3),(.int .i64 h0_4),(.int .i64 h0_5),(.int .i64 h0_6)]),(.row w1 h1z 3 (List.map zlh.enc h1l) h1x)]):Option (List V×Hp))) [(0,(.vw 1 w1 0 h1l.length 1)),(1,(.fn 129 [(.ptr 0 0)])),(7,(.int .i64 v7)),(8,(.int .i64 v8))] [(.box [(.int .i64 h0_0),(.int .i64 h0_1),(.int .i64 h0_2),(.int .i64 h0_3),(.int .i64 h0_4),(.int .i64 h0_5),(.int .i64 h0_6)]),(.row w1 h1z 3 (List.map zlh.enc h1l) h1x)]
def zzo:=ai @kk<| ai @ke<| ai @kn<| @zwe
theorem zzp (q:Nat) (z15:zzn q):zzn (q+1):=by
 intro M hM j hj w1 v7 v8 h0_0 h0_1 h0_2 h0_3 h0_4 h0_5 h0_6 h1z h1l h1x r h R hR fr H hc
 obtain ⟨j,rfl⟩: ∃i,j=i+1:=⟨j - 1,by omega⟩
 rw [zhw,hc];clear hc
 rw [zmk] at h
 replace h:=br h;rcases h with ⟨h1,h⟩ | ⟨h1,h⟩
 ·replace h:=bn h;obtain ⟨h2,h⟩:=h
  replace h:=bn h;obtain ⟨h3,h⟩:=h
  replace h:=ob h;obtain ⟨e1,h4,h⟩:=h
  replace h:=br h;rcases h with ⟨h5,h⟩ | ⟨h5,h⟩
  ·cases h;subst hR;simp only [zzo,simprocAttr, *]
  ·replace h:=z15 M (by omega) j (by omega) w1 _ _ _ _ _ _ _ _ _ _ _ _ _ h R hR
   simp only [zzo,simprocAttr, *]
 ·cases h;subst hR;simp only [zzo,simprocAttr, *]
theorem zzq: ∀q,zzn q
 | 0=>by intro M hM j hj;intros;rename_i h;cases h
 | q+1=>by have i0:=zzq q;exact zzp q i0
theorem zzr: ∀(q M:Nat),12*q<=M-> ∀(w1:Nat),∀(h0_0 h0_1 h0_2 h0_3 h0_4 h0_5 h0_6:Int),∀(h1z:Bool),∀(h1l:List zlh),∀(h1x:Bool),∀(r:Int),zml q h0_0 h0_1 h0_2 h0_3 h0_4 h0_5 h0_6 h1z h1l h1x=some r->(orc T (M+10)).inl 130 [(.vw 1 w1 0 h1l.length 1),(.fn 129 [(.ptr 0 0)])] [(.box [(.int .i64 h0_0),(.int .i64 h0_1),(.int .i64 h0_2),(.int .i64 h0_3),(.int .i64 h0_4),(.int .i64 h0_5),(.int .i64 h0_6)]),(.row w1 h1z 3 (List.map zlh.enc h1l) h1x)]=(some ([(.int .i64 r)],[(.box [(.int .i64 h0_0),(.int .i64 h0_1),(.int .i64 h0_2),(.int .i64 h0_3),(.int .i64 h0_4),(.int .i64 h0_5),(.int .i64 h0_6)]),(.row w1 h1z 3 (List.map zlh.enc h1l) h1x)]):Option (List V×Hp)):=by
 intro q M hM w1 h0_0 h0_1 h0_2 h0_3 h0_4 h0_5 h0_6 h1z h1l h1x r h
 rcases q with _ | q
 ·cases h
 have z15:=(zzq q)
 refine byR fun R hR=>?_
 rw [zwg.2 (n:=M+9)]
 rw [zml] at h
 replace h:=z15 M (by omega) (M+9) (by omega) w1 _ _ _ _ _ _ _ _ _ _ _ _ _ h R hR
 simp only [zzo,simprocAttr, *]
def zzs (q:Nat):Prop:= ∀M,12*q<=M-> ∀j,q<=j-> ∀(w1:Nat) (v5 v6 h0_0 h0_1 h0_2 h0_3 h0_4 h0_5 h0_6:Int) (h1z:Bool) (h1l:List zlh) (h1x:Bool) (r:Nat×(List zlh)×Bool),zmm q v5 v6 h0_0 h0_1 h0_2 h0_3 h0_4 h0_5 h0_6 h1z h1l h1x=some r->LS T (M+10) 2 [0,1,5,6] [.blk 0, .code zsj] zsi j (finI 2 true [.tmp 4]) ((some ([(.vw 1 w1 0 r.1 0)],[(.box [(.int .i64 h0_0),(.int .i64 h0_1),(.int .i64 h0_2),(.int .i64 h0_3),(.int .i64 h0_4),(.int .i64 h0_5),(.int .i64 h0_6)]),(.row w1 h1z 3 (List.map zlh.enc r.2.1) r.2.2)]):Option (List V×Hp))) [(0,(.vw 1 w1 0 h1l.length 1)),(1,(.fn 129 [(.ptr 0 0)])),(5,(.int .i64 v5)),(6,(.int .i64 v6))] [(.box [(.int .i64 h0_0),(.int .i64 h0_1),(.int .i64 h0_2),(.int .i64 h0_3),(.int .i64 h0_4),(.int .i64 h0_5),(.int .i64 h0_6)]),(.row w1 h1z 3 (List.map zlh.enc h1l) h1x)]
def zzt:=ai @kk<| ai @ke<| ai @kn<| ai @zwf<| @zwe
theorem zzu (q:Nat) (z16:zzs q):zzs (q+1):=by
 intro M hM j hj w1 v5 v6 h0_0 h0_1 h0_2 h0_3 h0_4 h0_5 h0_6 h1z h1l h1x r h R hR fr H hc
 obtain ⟨j,rfl⟩: ∃i,j=i+1:=⟨j - 1,by omega⟩
 rw [zhw,hc];clear hc
 rw [zmm] at h
 repeat' (first | (cases h;done) | (replace h:=bb h;rcases h with ⟨_,_,h⟩ | ⟨_,_,h⟩) | (replace h:=bn h;obtain ⟨_,h⟩:=h) | (replace h:=br h;rcases h with ⟨_,h⟩ | ⟨_,h⟩) | (replace h:=ob h;obtain ⟨_,g,h⟩:=h))
 all_goals (first | (cases h;subst hR;simp only [zzt,simprocAttr, *]) | (replace h:=z16 M (by omega) j (by omega) w1 _ _ _ _ _ _ _ _ _ _ _ _ _ h R hR;simp only [zzt,simprocAttr, *]))
theorem zzv: ∀q,zzs q
 | 0=>by intro M hM j hj;intros;rename_i h;cases h
 | q+1=>by have i0:=zzv q;exact zzu q i0
theorem zzw: ∀(q M:Nat),12*q<=M-> ∀(w1:Nat),∀(h0_0 h0_1 h0_2 h0_3 h0_4 h0_5 h0_6:Int),∀(h1z:Bool),∀(h1l:List zlh),∀(h1x:Bool),∀(r:Nat×(List zlh)×Bool),zmn q h0_0 h0_1 h0_2 h0_3 h0_4 h0_5 h0_6 h1z h1l h1x=some r->(orc T (M+11)).inl 128 [(.vw 1 w1 0 h1l.length 1),(.fn 129 [(.ptr 0 0)])] [(.box [(.int .i64 h0_0),(.int .i64 h0_1),(.int .i64 h0_2),(.int .i64 h0_3),(.int .i64 h0_4),(.int .i64 h0_5),(.int .i64 h0_6)]),(.row w1 h1z 3 (List.map zlh.enc h1l) h1x)]=(some ([(.vw 1 w1 0 r.1 0)],[(.box [(.int .i64 h0_0),(.int .i64 h0_1),(.int .i64 h0_2),(.int .i64 h0_3),(.int .i64 h0_4),(.int .i64 h0_5),(.int .i64 h0_6)]),(.row w1 h1z 3 (List.map zlh.enc r.2.1) r.2.2)]):Option (List V×Hp)):=by
 intro q M hM w1 h0_0 h0_1 h0_2 h0_3 h0_4 h0_5 h0_6 h1z h1l h1x r h
 rcases q with _ | q
 ·cases h
 have z16:=(zzv q)
 refine byR fun R hR=>?_
 rw [zwc.2 (n:=M+10)]
 rw [zmn] at h
 replace h:=ob h;obtain ⟨r1,h1,h⟩:=h
 replace h1:=zzr q M (by omega) w1 _ _ _ _ _ _ _ _ _ _ _ h1
 try simp only [kf,simprocAttr] at h1
 replace h:=br h;rcases h with ⟨h2,h⟩ | ⟨h2,h⟩
 ·cases h;subst hR;simp only [zzt,simprocAttr, *]
 ·replace h:=z16 M (by omega) (M+10) (by omega) w1 _ _ _ _ _ _ _ _ _ _ _ _ _ h R hR
  simp only [zzt,simprocAttr, *]
def zzx (q:Nat):Prop:= ∀M,12*q<=M-> ∀j,q<=j-> ∀(w1 v0len:Nat) (v7 v8 h0_0 h0_1 h0_2 h0_3 h0_4 h0_5 h0_6:Int) (h1z:Bool) (h1l:List zlh) (h1x:Bool) (r:Int),zmo q v0len v7 v8 h0_0 h0_1 h0_2 h0_3 h0_4 h0_5 h0_6 h1z h1l h1x=some r->LS T (M+10) 2 [0,1,7,8] [.blk 0, .code (.seq (.reg [mc 4 (.int .i64 (-1))]) .ret)] zsm j (finI 2 false [.tmp 4]) ((some ([(.int .i64 r)],[(.box [(.int .i64 h0_0),(.int .i64 h0_1),(.int .i64 h0_2),(.int .i64 h0_3),(.int .i64 h0_4),(.int .i64 h0_5),(.int .i64 h0_6)]),(.row w1 h1z 3 (List.map zlh.enc h1l) h1x)]):Option (List V×Hp))) [(0,(.vw 1 w1 0 v0len 0)),(1,(.fn 131 [(.ptr 0 0)])),(7,(.int .i64 v7)),(8,(.int .i64 v8))] [(.box [(.int .i64 h0_0),(.int .i64 h0_1),(.int .i64 h0_2),(.int .i64 h0_3),(.int .i64 h0_4),(.int .i64 h0_5),(.int .i64 h0_6)]),(.row w1 h1z 3 (List.map zlh.enc h1l) h1x)]
def zzy:=ai @kk<| ai @ke<| ai @kn<| @zwi
theorem zzz (q:Nat) (z17:zzx q):zzx (q+1):=by
 intro M hM j hj w1 v0len v7 v8 h0_0 h0_1 h0_2 h0_3 h0_4 h0_5 h0_6 h1z h1l h1x r h R hR fr H hc
 obtain ⟨j,rfl⟩: ∃i,j=i+1:=⟨j - 1,by omega⟩
 rw [zhw,hc];clear hc
 rw [zmo] at h
 replace h:=br h;rcases h with ⟨h1,h⟩ | ⟨h1,h⟩
 ·replace h:=bn h;obtain ⟨h2,h⟩:=h
  replace h:=bn h;obtain ⟨h3,h⟩:=h
  replace h:=ob h;obtain ⟨e1,h4,h⟩:=h
  replace h:=br h;rcases h with ⟨h5,h⟩ | ⟨h5,h⟩
  ·cases h;subst hR;simp only [zzy,simprocAttr, *]
  ·replace h:=z17 M (by omega) j (by omega) w1 _ _ _ _ _ _ _ _ _ _ _ _ _ _ h R hR
   simp only [zzy,simprocAttr, *]
 ·cases h;subst hR;simp only [zzy,simprocAttr, *]
theorem zz0: ∀q,zzx q
 | 0=>by intro M hM j hj;intros;rename_i h;cases h
 | q+1=>by have i0:=zz0 q;exact zzz q i0
theorem zz1: ∀(q M:Nat),12*q<=M-> ∀(w1 v0len:Nat),∀(h0_0 h0_1 h0_2 h0_3 h0_4 h0_5 h0_6:Int),∀(h1z:Bool),∀(h1l:List zlh),∀(h1x:Bool),∀(r:Int),zmp q v0len h0_0 h0_1 h0_2 h0_3 h0_4 h0_5 h0_6 h1z h1l h1x=some r->(orc T (M+11)).inl 130 [(.vw 1 w1 0 v0len 0),(.fn 131 [(.ptr 0 0)])] [(.box [(.int .i64 h0_0),(.int .i64 h0_1),(.int .i64 h0_2),(.int .i64 h0_3),(.int .i64 h0_4),(.int .i64 h0_5),(.int .i64 h0_6)]),(.row w1 h1z 3 (List.map zlh.enc h1l) h1x)]=(some ([(.int .i64 r)],[(.box [(.int .i64 h0_0),(.int .i64 h0_1),(.int .i64 h0_2),(.int .i64 h0_3),(.int .i64 h0_4),(.int .i64 h0_5),(.int .i64 h0_6)]),(.row w1 h1z 3 (List.map zlh.enc h1l) h1x)]):Option (List V×Hp)):=by
 intro q M hM w1 v0len h0_0 h0_1 h0_2 h0_3 h0_4 h0_5 h0_6 h1z h1l h1x r h
 rcases q with _ | q
 ·cases h
 have z17:=(zz0 q)
 refine byR fun R hR=>?_
 rw [zwg.2 (n:=M+10)]
 rw [zmp] at h
 replace h:=z17 M (by omega) (M+10) (by omega) w1 _ _ _ _ _ _ _ _ _ _ _ _ _ _ h R hR
 simp only [zzy,simprocAttr, *]
def zz2:=ai @kk<| ai @ke<| ai @kn<| ai @zvg<| ai @zwb<| ai @zwf<| @zwj
instance zz3 (a0:(Sl zlh)) (a1:zle): ∀q,Aq q (zmq q a0 a1) (Dp T 81 [(Sl.enc zlh.enc) a0,zle.enc a1] fun r=>[(Ow.enc 3 zlh.enc) r]):=sndo (fun q=>zmq.eq_2 ..) (hs:=by
 intro q M hM r h R hR
 repeat' (first | (cases h;done) | (replace h:=bb h;rcases h with ⟨_,_,h⟩ | ⟨_,_,h⟩) | (replace h:=br h;rcases h with ⟨_,h⟩ | ⟨_,h⟩) | (replace h:=ob h;obtain ⟨_,g,h⟩:=h;first | (replace g:=us1 (q:=q) (M:=M) (by omega) g 11;try simp only [kf,simprocAttr] at g) | (replace g:=zzw q M (by omega) 0 _ _ _ _ _ _ _ _ _ _ _ g;try simp only [kf,simprocAttr] at g) | (replace g:=zz1 q M (by omega) 0 _ _ _ _ _ _ _ _ _ _ _ _ g;try simp only [kf,simprocAttr] at g) | skip))
 all_goals (cases h;subst hR;simp only [zz2,simprocAttr, *]))
def zz4:=(ai @zuf<| ai @zvb<| ai @zvc<| @zvd)
abbrev zz5 (q:Nat):Prop:= ∀(v8z:Bool) (v8l:List zle) (v9 h0_0 h0_1:Int) (h0_2z:Bool) (h0_2l:List Int) (h0_3:Bool) (h0_4:Int) (h0_5z:Bool) (h0_5l:List zlh),Aq q (zms q v8z v8l v9 h0_0 h0_1 h0_2z h0_2l h0_3 h0_4 h0_5z h0_5l) fun M r=> ∀A,some [zli.enc r.1,(V.int .i64) r.2]=A-> ∀j,q<=j->Lz T (M+11) 0 [2,4,8,9,10] [.blk 0, .code (.seq (.reg [mo 46 (.load (.t 2) 6 true),ms 4 46 6,mz 5 0]) .ret)] zpp j (fin [.cell 4 6 true, .tmp 5] [[],[]]) [(2,(.ptr 0 0)),(4,(.ptr 1 0)),(8,(.sl v8z (List.map zle.enc v8l))),(9,(.int .i64 v9)),(10,(.int .i64 0))] [(.box [(.int .i64 h0_0),(.int .i64 h0_1),(.sl h0_2z (List.map (V.int .i64) h0_2l)),(.bool h0_3),(.int .i64 h0_4),(.sl h0_5z (List.map zlh.enc h0_5l))]),(.box [(.int .i64 0),(.int .i64 0),(.sl true []),(.bool false),(.int .i64 0),(.sl true [])])] A
abbrev zz6 (q:Nat):Prop:= ∀(v8z:Bool) (v8l:List zle) (v9 v10 h0_0 h0_1:Int) (h0_2z:Bool) (h0_2l:List Int) (h0_3:Bool) (h0_4:Int) (h2z:Bool) (h2l:List zlh) (h2x:Bool),Aq q (zmr q v8z v8l v9 v10 h0_0 h0_1 h0_2z h0_2l h0_3 h0_4 h2z h2l h2x) fun M r=> ∀A,some [zli.enc r.1,(V.int .i64) r.2]=A-> ∀j,q<=j->Lz T (M+11) 0 [2,4,8,9,10] [.blk 0, .code (.seq (.reg [mo 46 (.load (.t 2) 6 true),ms 4 46 6,mz 5 0]) .ret)] zpp j (fin [.cell 4 6 true, .tmp 5] [[],[]]) [(2,(.ptr 0 0)),(4,(.ptr 1 0)),(8,(.sl v8z (List.map zle.enc v8l))),(9,(.int .i64 v9)),(10,(.int .i64 v10))] [(.box [(.int .i64 h0_0),(.int .i64 h0_1),(.sl h0_2z (List.map (V.int .i64) h0_2l)),(.bool h0_3),(.int .i64 h0_4),(.vw 2 0 0 h2l.length 1)]),(.box [(.int .i64 0),(.int .i64 0),(.sl true []),(.bool false),(.int .i64 0),(.sl true [])]),(.row 0 h2z 3 (List.map zlh.enc h2l) h2x)] A
theorem zz7: ∀q,zz5 q/\zz6 q:=lpn @zz4 (ai @zms.eq_2<| @zmr.eq_2)
instance zz8 (q):zz5 q:=(zz7 q).1
instance zz9 (q):zz6 q:=(zz7 q).2
instance z0a (a0:zli) (a1:(Sl zle)): ∀q,Aq q (zmt q a0 a1) (Dp T 34 [zli.enc a0,(Sl.enc zle.enc) a1] fun r=>[zli.enc r.1,(V.int .i64) r.2]):=snd (fun q=>zmt.eq_2 ..) @zz4
def z0b:=trivial
abbrev z0c (q:Nat):Prop:= ∀(v0 v6 h0_0 h0_1 h0_2 h0_3 h0_4 h0_5:Int) (h0_6z:Bool) (h0_6l:List Int) (h0_7z:Bool) (h0_7l:List zle) (h0_8z:Bool) (h0_8l:List Int) (h1z:Bool) (h1l:List zle),Aq q (zmu q v0 v6 h0_0 h0_1 h0_2 h0_3 h0_4 h0_5 h0_6z h0_6l h0_7z h0_7l h0_8z h0_8l h1z h1l) fun M r=> ∀A,some [(Ow.enc 7 zle.enc) r]=A-> ∀j,q<=j->Lz T (M+11) 0 [0,3,5,6] [.blk 0, .code (.seq (.reg [mt 30 5,mt 4 30]) .ret)] zo0 j (fin [.tmp 4] [[8]]) [(0,(.int .i64 v0)),(3,(.ptr 0 0)),(5,(.vw 1 0 0 h1l.length 1)),(6,(.int .i64 v6))] [(.box [(.int .i64 h0_0),(.int .i64 h0_1),(.int .i64 h0_2),(.int .i64 h0_3),(.int .i64 h0_4),(.int .i64 h0_5),(.sl h0_6z (List.map (V.int .i64) h0_6l)),(.sl h0_7z (List.map zle.enc h0_7l)),(.sl h0_8z (List.map (V.int .u8) h0_8l))]),(.row 0 h1z 7 (List.map zle.enc h1l) true)] A
instance z0d: ∀q,z0c q:=lp1 @z0b @zmu.eq_2
instance z0e (a0:Int) (a1:zlf): ∀q,Aq q (zmv q a0 a1) (Dp T 16 [(V.int .i64) a0,zlf.enc a1] fun r=>[(Ow.enc 7 zle.enc) r]):=snd (fun q=>zmv.eq_2 ..) @z0b
def z0f:= @zvb
abbrev z0g (q:Nat):Prop:= ∀(v0z:Bool) (v0l:List zle) (v5z:Bool) (v5l:List zle) (v6 v7:Int),Aq q (zmw q v0z v0l v5z v5l v6 v7) fun M r=> ∀A,some [V.bool r]=A-> ∀j,q<=j->Lz T (M+11) 0 [0,5,6,7] [.blk 0, .code zq7] zq6 j (fin [.tmp 2] [[]]) [(0,(.sl v0z (List.map zle.enc v0l))),(5,(.sl v5z (List.map zle.enc v5l))),(6,(.int .i64 v6)),(7,(.int .i64 v7))] [] A
instance z0h: ∀q,z0g q:=lp1 @z0f @zmw.eq_2
instance z0i (a0:(Sl zle)): ∀q,Aq q (zmx q a0) (Dp T 94 [(Sl.enc zle.enc) a0] fun r=>[V.bool r]):=snd (fun q=>zmx.eq_2 ..) @z0f
def z0j (q:Nat):Prop:= ∀M,12*q<=M-> ∀j,q<=j-> ∀(w0:Nat) (v1:Int) (h0z:Bool) (h0l:List Int) (h0x:Bool) (r:(Ow Int)),zmy q v1 h0z h0l h0x=some r->LS T (M+11) 1 [0,1] [.blk 0, .code (.seq (.reg [mt 15 0,mt 16 1,mo 17 (.conv .u8 (.t 16)),mo 18 (.bsl 1 [.t 17] 0),mo 19 (.app (.t 15) (.t 18) 1),mt 4 19]) .ret)] zso j (fin [.tmp 4] [[2]]) (some [(Ow.enc 1 (V.int .u8)) r]) [(0,(.vw 0 w0 0 h0l.length 1)),(1,(.int .u64 v1))] [(.row w0 h0z 1 (List.map (V.int .u8) h0l) h0x)]
def z0k:=ai @kk<| ai @ke<| @kn
theorem z0l (q:Nat) (z18:z0j q):z0j (q+1):=by
 intro M hM j hj w0 v1 h0z h0l h0x r h R hR fr H hc
 obtain ⟨j,rfl⟩: ∃i,j=i+1:=⟨j - 1,by omega⟩
 rw [zhw,hc];clear hc
 rw [zmy] at h
 replace h:=br h;rcases h with ⟨h1,h⟩ | ⟨h1,h⟩
 ·replace h:=bn h;obtain ⟨h2,h⟩:=h
  replace h:=z18 M (by omega) j (by omega) (w0+1) _ _ _ _ _ h R hR
  simp only [z0k,simprocAttr, *]
 ·replace h:=bn h;obtain ⟨h3,h⟩:=h
  cases h;subst hR;simp only [z0k,simprocAttr, *]
theorem z0m: ∀q,z0j q
 | 0=>by intro M hM j hj;intros;rename_i h;cases h
 | q+1=>by have i0:=z0m q;exact z0l q i0
instance z0n (a0:(Ow Int)) (a1:Int): ∀q,Aq q (zmz q a0 a1) (Dp T 151 [(Ow.enc 1 (V.int .u8)) a0,(V.int .u64) a1] fun r=>[(Ow.enc 1 (V.int .u8)) r]):=sndo (fun q=>zmz.eq_2 ..) (hs:=by
 intro q M hM r h R hR
 have z18:=(z0m q)
 replace h:=z18 M (by omega) (M+11) (by omega) 0 _ _ _ _ _ h R hR
 simp only [z0k,simprocAttr, *])
instance z0o (a0:(Ow Int)) (a1:Int): ∀q,Aq q (zm0 q a0 a1) (Dp T 95 [(Ow.enc 1 (V.int .u8)) a0,(V.int .i64) a1] fun r=>[(Ow.enc 1 (V.int .u8)) r]):=snd (fun q=>zm0.eq_2 ..) @zwk
instance z0p (a0:Int): ∀q,Aq q (zm1 q a0) (Dp T 152 [(V.int .i64) a0] fun r=>[(V.int .u64) r]):=snd (fun q=>zm1.eq_2 ..) trivial
instance z0q (a0:(Ow Int)) (a1:Int): ∀q,Aq q (zm2 q a0 a1) (Dp T 96 [(Ow.enc 1 (V.int .u8)) a0,(V.int .i64) a1] fun r=>[(Ow.enc 1 (V.int .u8)) r]):=snd (fun q=>zm2.eq_2 ..) (ai @zwk<| @zwl)
instance z0r (a0:(Ow Int)) (a1:zld): ∀q,Aq q (zm3 q a0 a1) (Dp T 97 [(Ow.enc 1 (V.int .u8)) a0,zld.enc a1] fun r=>[(Ow.enc 1 (V.int .u8)) r.1,(V.int .i64) r.2]):=snd (fun q=>zm3.eq_2 ..) (ai @zvp<| ai @zvn<| ai @zvo<| @zv2)
def z0s:=(ai @zuu<| ai @zvm<| ai @zvn<| ai @zvo<| @zvq)
abbrev z0t (q:Nat):Prop:= ∀(v20z:Bool) (v20l:List zle) (v21 v22:Int) (h0m:List (Int×Int)) (h1z:Bool) (h1l:List Int) (h1x:Bool),Aq q (zm4 q v20z v20l v21 v22 h0m h1z h1l h1x) fun M r=> ∀A,some [(Ow.enc 1 (V.int .u8)) r.1,(V.int .i64) r.2]=A-> ∀j,q<=j->Lz T (M+11) 0 [4,5,20,21,22] [.blk 0, .code (.seq (.reg [mt 55 5,mt 2 55,mz 3 0]) .ret)] zqb j (fin [.tmp 2, .tmp 3] [[2],[]]) [(4,(.mp 0)),(5,(.vw 1 0 0 h1l.length 1)),(20,(.sl v20z (List.map zle.enc v20l))),(21,(.int .i64 v21)),(22,(.int .i64 v22))] [(.map h0m),(.row 0 h1z 1 (List.map (V.int .u8) h1l) h1x)] A
instance z0u: ∀q,z0t q:=lp1 @z0s @zm4.eq_2
instance z0v (a0:(Sl zle)): ∀q,Aq q (zm5 q a0) (Dp T 50 [(Sl.enc zle.enc) a0] fun r=>[(Ow.enc 1 (V.int .u8)) r.1,(V.int .i64) r.2]):=snd (fun q=>zm5.eq_2 ..) @z0s
def z0w:= @zw3
abbrev z0x (q:Nat):Prop:= ∀(v6:Int) (v12z:Bool) (v12l:List Int) (v13 v14:Int) (h0_0:List Int),Aq q (zm9 q v6 v12z v12l v13 v14 h0_0) fun M r=> ∀A,some [(V.int .u32) r]=A-> ∀j,q<=j->Lz T (M+11) 0 [5,6,12,13,14] [.blk 0, .code (.seq (.reg [mt 28 6,mo 29 (.un .xor (.t 28)),mt 4 29]) .ret)] zsu j (fin [.tmp 4] [[]]) [(5,(.ptr 0 0)),(6,(.int .u32 v6)),(12,(.sl v12z (List.map (V.int .u8) v12l))),(13,(.int .i64 v13)),(14,(.int .i64 v14))] [(.box (List.map (V.int .u32) h0_0))] A
instance z0y: ∀q,z0x q:=lp1 @z0w @zm9.eq_2
instance z0z (a0:Int) (a1:(Sl Int)): ∀q,Aq q (zna q a0 a1) (Dp T 154 [(V.int .u32) a0,(Sl.enc (V.int .u8)) a1] fun r=>[(V.int .u32) r]):=sndc (fun q=>zna.eq_2 ..) @z0w
instance z00 (a0:(Sl Int)): ∀q,Aq q (znb q a0) (Dp T 116 [(Sl.enc (V.int .u8)) a0] fun r=>[(V.int .u32) r]):=snd (fun q=>znb.eq_2 ..) @zwo
def z01:=trivial
abbrev z02 (q:Nat):Prop:= ∀(v0 v7 v8:Int) (h0z:Bool) (h0l:List Int),Aq q (znc q v0 v7 v8 h0z h0l) fun M r=> ∀A,some [(Ow.enc 1 (V.int .u8)) r]=A-> ∀j,q<=j->Lz T (M+11) 0 [0,5,7,8] [.blk 0, .code (.seq (.reg [mt 20 5,mt 4 20]) .ret)] zsx j (fin [.tmp 4] [[2]]) [(0,(.int .u64 v0)),(5,(.vw 0 0 0 h0l.length 1)),(7,(.int .i64 v7)),(8,(.int .i64 v8))] [(.row 0 h0z 1 (List.map (V.int .u8) h0l) true)] A
instance z03: ∀q,z02 q:=lp1 @z01 @znc.eq_2
instance z04 (a0 a1:Int): ∀q,Aq q (znd q a0 a1) (Dp T 173 [(V.int .u64) a0,(V.int .i64) a1] fun r=>[(Ow.enc 1 (V.int .u8)) r]):=snd (fun q=>znd.eq_2 ..) @z01
instance z05 (a0:Int): ∀q,Aq q (zne q a0) (Dp T 115 [(V.int .u32) a0] fun r=>[(Ow.enc 1 (V.int .u8)) r]):=snd (fun q=>zne.eq_2 ..) @zwp
instance z06 (a0 a1:(Sl Int)): ∀q,Aq q (znf q a0 a1) (Dp T 99 [(Sl.enc (V.int .u8)) a0,(Sl.enc (V.int .u8)) a1] fun r=>[(Ow.enc 1 (V.int .u8)) r]):=snd (fun q=>znf.eq_2 ..) (ai @zvx<| ai @zvy<| @zwo)
def z07:= @zwn
abbrev z08 (q:Nat):Prop:= ∀(v0z:Bool) (v0l:List (Sl Int)) (v3:Int) (v9z:Bool) (v9l:List (Sl Int)) (v10 v11:Int),Aq q (znj q v0z v0l v3 v9z v9l v10 v11) fun M r=> ∀A,some [(Ow.enc 1 (V.int .u8)) r]=A-> ∀j,q<=j->Lz T (M+11) 0 [0,3,9,10,11] [.blk 0, .code zrf] zrc j (fin [.tmp 2] [[2]]) [(0,(.sl v0z (List.map (Sl.enc (V.int .u8)) v0l))),(3,(.int .i64 v3)),(9,(.sl v9z (List.map (Sl.enc (V.int .u8)) v9l))),(10,(.int .i64 v10)),(11,(.int .i64 v11))] [] A
abbrev z09 (q:Nat):Prop:= ∀(v6len:Nat) (v25z:Bool) (v25l:List (Sl Int)) (v26 v27:Int) (h0z:Bool) (h0l:List Int),Aq q (zng q v6len v25z v25l v26 v27 h0z h0l) fun M r=> ∀A,some [(Ow.enc 1 (V.int .u8)) r]=A-> ∀j,q<=j->Lz T (M+11) 0 [6,25,26,27] [.blk 2, .code (.seq (.reg [mt 35 6,mt 2 35]) .ret)] zre j (fin [.tmp 2] [[2]]) [(6,(.vw 0 0 0 v6len 0)),(25,(.sl v25z (List.map (Sl.enc (V.int .u8)) v25l))),(26,(.int .i64 v26)),(27,(.int .i64 v27))] [(.row 0 h0z 1 (List.map (V.int .u8) h0l) true)] A
abbrev z1a (q:Nat):Prop:= ∀(v25z:Bool) (v25l:List (Sl Int)) (v26:Int),Aq q (zni q v25z v25l v26) fun M r=> ∀A,some [(Ow.enc 1 (V.int .u8)) r]=A-> ∀j,q<=j->Lz T (M+11) 0 [6,25,26,27] [.blk 2, .code (.seq (.reg [mt 35 6,mt 2 35]) .ret)] zre j (fin [.tmp 2] [[2]]) [(6,(.sl true [])),(25,(.sl v25z (List.map (Sl.enc (V.int .u8)) v25l))),(26,(.int .i64 v26)),(27,(.int .i64 0))] [] A
abbrev z1b (q:Nat):Prop:= ∀(v25z:Bool) (v25l:List (Sl Int)) (v26 v27:Int) (h0z:Bool) (h0l:List Int),Aq q (znh q v25z v25l v26 v27 h0z h0l) fun M r=> ∀A,some [(Ow.enc 1 (V.int .u8)) r]=A-> ∀j,q<=j->Lz T (M+11) 0 [6,25,26,27] [.blk 2, .code (.seq (.reg [mt 35 6,mt 2 35]) .ret)] zre j (fin [.tmp 2] [[2]]) [(6,(.vw 0 0 0 h0l.length 1)),(25,(.sl v25z (List.map (Sl.enc (V.int .u8)) v25l))),(26,(.int .i64 v26)),(27,(.int .i64 v27))] [(.row 0 h0z 1 (List.map (V.int .u8) h0l) true)] A
theorem z1c: ∀q,z08 q/\z09 q/\z1a q/\z1b q:=lpn @z07 (ai @znj.eq_2<| ai @zng.eq_2<| ai @zni.eq_2<| @znh.eq_2)
instance z1d (q):z08 q:=(z1c q).1
instance z1e (q):z09 q:=(z1c q).2.1
instance z1f (q):z1a q:=(z1c q).2.2.1
instance z1g (q):z1b q:=(z1c q).2.2.2
instance z1h (a0:(Sl (Sl Int))): ∀q,Aq q (znk q a0) (Dp T 98 [(Sl.enc (Sl.enc (V.int .u8))) a0] fun r=>[(Ow.enc 1 (V.int .u8)) r]):=snd (fun q=>znk.eq_2 ..) @z07
instance z1i (a0:(Sl Int)): ∀q,Aq q (znl q a0) (Dp T 51 [(Sl.enc (V.int .u8)) a0] fun r=>[(Ow.enc 1 (V.int .u8)) r.1,(V.int .i64) r.2]):=snd (fun q=>znl.eq_2 ..) (ai @zvn<| ai @zvr<| @zvs)
instance z1j (a0:Int): ∀q,Aq q (znm q a0) (Dp T 100 [(V.int .i64) a0] fun r=>[V.bool r]):=snd (fun q=>znm.eq_2 ..) trivial
instance z1k (a0:(Sl Int)): ∀q,Aq q (znn q a0) (Dp T 101 [(Sl.enc (V.int .u8)) a0] fun r=>[(Ow.enc 1 (V.int .u8)) r]):=snd (fun q=>znn.eq_2 ..) @zuw
instance z1l (a0 a1 a2:Int): ∀q,Aq q (zno q a0 a1 a2) (Dp T 52 [(V.int .i64) a0,(V.int .i64) a1,(V.int .i64) a2] fun r=>[(Ow.enc 1 (V.int .u8)) r.1,(V.int .i64) r.2]):=snd (fun q=>zno.eq_2 ..) (ai @zvn<| ai @zvt<| @zvu)
instance z1m (a0:(Sl Int)): ∀q,Aq q (znp q a0) (Dp T 102 [(Sl.enc (V.int .i64)) a0] fun r=>[(V.int .i64) r.1,V.bool r.2]):=snd (fun q=>znp.eq_2 ..) trivial
instance z1n (a0:(Sl zle)): ∀q,Aq q (znq q a0) (Dp T 54 [(Sl.enc zle.enc) a0] fun r=>[(Ow.enc 7 zle.enc) r]):=snd (fun q=>znq.eq_2 ..) trivial
def z1o:=trivial
abbrev z1p (q:Nat):Prop:= ∀(v0z:Bool) (v0l:List zle) (v1z:Bool) (v1l:List zle) (v5:Int),Aq q (znr q v0z v0l v1z v1l v5) fun M r=> ∀A,some [V.bool r]=A-> ∀j,q<=j->Lz T (M+11) 0 [0,1,5] [.blk 0, .code (.seq (.reg [mc 4 (.bool true)]) .ret)] zph j (fin [.tmp 4] [[]]) [(0,(.sl v0z (List.map zle.enc v0l))),(1,(.sl v1z (List.map zle.enc v1l))),(5,(.int .i64 v5))] [] A
instance z1q: ∀q,z1p q:=lp1 @z1o @znr.eq_2
instance z1r (a0 a1:(Sl zle)): ∀q,Aq q (zns q a0 a1) (Dp T 21 [(Sl.enc zle.enc) a0,(Sl.enc zle.enc) a1] fun r=>[V.bool r]):=snd (fun q=>zns.eq_2 ..) @z1o
def z1s:=trivial
abbrev z1t (q:Nat):Prop:= ∀(v0z:Bool) (v0l:List Int) (v1z:Bool) (v1l:List Int) (v12 v13:Int),Aq q (znt q v0z v0l v1z v1l v12 v13) fun M r=> ∀A,some [V.bool r]=A-> ∀j,q<=j->Lz T (M+11) 0 [0,1,12,13] [.blk 0, .code (.seq (.reg [mc 4 (.bool true)]) .ret)] zri j (fin [.tmp 4] [[]]) [(0,(.sl v0z (List.map (V.int .i64) v0l))),(1,(.sl v1z (List.map (V.int .i64) v1l))),(12,(.int .i64 v12)),(13,(.int .i64 v13))] [] A
instance z1u: ∀q,z1t q:=lp1 @z1s @znt.eq_2
instance z1v (a0 a1:(Sl Int)): ∀q,Aq q (znu q a0 a1) (Dp T 103 [(Sl.enc (V.int .i64)) a0,(Sl.enc (V.int .i64)) a1] fun r=>[V.bool r]):=snd (fun q=>znu.eq_2 ..) @z1s
instance z1w (a0 a1:zlg): ∀q,Aq q (znv q a0 a1) (Dp T 55 [zlg.enc a0,zlg.enc a1] fun r=>[V.bool r]):=snd (fun q=>znv.eq_2 ..) @zvw
def z1x:=trivial
abbrev z1y (q:Nat):Prop:= ∀(v0z:Bool) (v0l:List zlh) (v1z:Bool) (v1l:List zlh) (v12 v13:Int),Aq q (znw q v0z v0l v1z v1l v12 v13) fun M r=> ∀A,some [V.bool r]=A-> ∀j,q<=j->Lz T (M+11) 0 [0,1,12,13] [.blk 0, .code (.seq (.reg [mc 4 (.bool true)]) .ret)] zqn j (fin [.tmp 4] [[]]) [(0,(.sl v0z (List.map zlh.enc v0l))),(1,(.sl v1z (List.map zlh.enc v1l))),(12,(.int .i64 v12)),(13,(.int .i64 v13))] [] A
instance z1z: ∀q,z1y q:=lp1 @z1x @znw.eq_2
instance z10 (a0 a1:(Sl zlh)): ∀q,Aq q (znx q a0 a1) (Dp T 56 [(Sl.enc zlh.enc) a0,(Sl.enc zlh.enc) a1] fun r=>[V.bool r]):=snd (fun q=>znx.eq_2 ..) @z1x
instance z11 (a0 a1:zli): ∀q,Aq q (zny q a0 a1) (Dp T 22 [zli.enc a0,zli.enc a1] fun r=>[V.bool r]):=snd (fun q=>zny.eq_2 ..) (ai @zu1<| @zu2)
end Go.Dvm.C
