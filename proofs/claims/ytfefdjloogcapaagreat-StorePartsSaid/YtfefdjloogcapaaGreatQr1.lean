/- The machine comes to these answers: part 2. -/
import Derived.Test.YtfefdjloogcapaaGreatQl0
import Derived.Test.YtfefdjloogcapaaGreatQr0
set_option linter.all false
set_option maxRecDepth 100000
set_option maxHeartbeats 4000000
namespace Go.Dvm.C
open Go Go.Dvm Go.Dvm.I
def z19 (q:Nat):Prop:= ∀M,12*q<=M-> ∀j,q<=j-> ∀(v29z:Bool) (v29l:List Int) (v30:Int) (h0d h1d:Dk) (h2_1:Int) (h3l:List zli) (r:Nat×Int×(List zli)),zn0 q v29z v29l v30 h0d h1d h2_1 h3l=some r->LS T (M+9) 3 [0,29,30,31] [.blk 0, .code zp2] zpz j (finI 3 false []) ((some ([],[(.dsk h0d),(.dsk h1d),(.box [(.dp 0),(.int .i64 h2_1),(.vw 3 0 0 r.1 1),(.sl true []),(.sl true []),(.int .i64 r.2.1),(.int .i64 0),(.int .i64 0),(.int .i64 0),(.sl true []),(.bool false),(.int .i64 0),(.sl true []),(.int .i64 0),(.bool false)]),(.row 0 false 6 (List.map zli.enc r.2.2) false)]):Option (List V×Hp))) [(0,(.ptr 2 0)),(29,(.sl v29z (List.map (V.int .i64) v29l))),(30,(.int .i64 v30)),(31,(.int .i64 0))] [(.dsk h0d),(.dsk h1d),(.box [(.dp 0),(.int .i64 h2_1),(.vw 3 0 0 h3l.length 1),(.sl true []),(.sl true []),(.int .i64 0),(.int .i64 0),(.int .i64 0),(.int .i64 0),(.sl true []),(.bool false),(.int .i64 0),(.sl true []),(.int .i64 0),(.bool false)]),(.row 0 false 6 (List.map zli.enc h3l) true)]
def z2a (q:Nat):Prop:= ∀M,12*q<=M-> ∀j,q<=j-> ∀(v82z:Bool) (v82l:List Int) (v83:Int) (h0d h1d:Dk) (h2_1 h2_5:Int) (h3l:List zli) (r:Nat×Int×(List zli)),znz q v82z v82l v83 h0d h1d h2_1 h2_5 h3l=some r->LS T (M+9) 3 [0,82,83,84] [.blk 2] zp1 j (finI 3 false []) ((some ([],[(.dsk h0d),(.dsk h1d),(.box [(.dp 0),(.int .i64 h2_1),(.vw 3 0 0 r.1 1),(.sl true []),(.sl true []),(.int .i64 r.2.1),(.int .i64 0),(.int .i64 0),(.int .i64 0),(.sl true []),(.bool false),(.int .i64 0),(.sl true []),(.int .i64 0),(.bool false)]),(.row 0 false 6 (List.map zli.enc r.2.2) false)]):Option (List V×Hp))) [(0,(.ptr 2 0)),(82,(.sl v82z (List.map (V.int .i64) v82l))),(83,(.int .i64 v83)),(84,(.int .i64 0))] [(.dsk h0d),(.dsk h1d),(.box [(.dp 0),(.int .i64 h2_1),(.vw 3 0 0 h3l.length 1),(.sl true []),(.sl true []),(.int .i64 h2_5),(.int .i64 0),(.int .i64 0),(.int .i64 0),(.sl true []),(.bool false),(.int .i64 0),(.sl true []),(.int .i64 0),(.bool false)]),(.row 0 false 6 (List.map zli.enc h3l) false)]
def z2b:=ai @kk<| ai @ke<| ai @kn<| ai @wl<| ai @wq<| ai @zuh<| ai @zu4<| ai @zve<| ai @zuj<| ai @zvj<| ai @zvl<| @zv0
theorem z2c (q:Nat) (z20:z2a q):z19 (q+1):=by
 intro M hM j hj v29z v29l v30 h0d h1d h2_1 h3l r h R hR fr H hc
 obtain ⟨j,rfl⟩: ∃i,j=i+1:=⟨j - 1,by omega⟩
 rw [zhw,hc];clear hc
 rw [zn0] at h
 repeat' (first | (cases h;done) | (replace h:=br h;rcases h with ⟨_,h⟩ | ⟨_,h⟩) | (replace h:=ob h;obtain ⟨_,g,h⟩:=h;first | (replace g:=us1 (q:=q) (M:=M) (by omega) g 8;try simp only [kf,simprocAttr] at g) | skip))
 all_goals (replace h:=z20 M (by omega) (M+9) (by omega) _ _ _ _ _ _ _ _ _ h R hR;simp only [z2b,simprocAttr, *])
theorem z2d (q:Nat):z2a (q+1):=by
 intro M hM j hj v82z v82l v83 h0d h1d h2_1 h2_5 h3l r h R hR fr H hc
 obtain ⟨j,rfl⟩: ∃i,j=i+1:=⟨j - 1,by omega⟩
 rw [zhw,hc];clear hc
 rw [znz] at h
 replace h:=br h;rcases h with ⟨h1,h⟩ | ⟨h1,h⟩
 ·replace h:=ob h;obtain ⟨e7,h2,h⟩:=h
  cases h
 ·cases h;subst hR;simp only [z2b,simprocAttr, *]
theorem z2e: ∀q,z19 q/\z2a q
 | 0=>by refine ⟨?_,?_⟩<;>(intro M hM j hj;intros;rename_i h;first | (cases h;done) | simp only [zn0.eq_1,znz.eq_1,reduceCtorEq] at h)
 | q+1=>by have ⟨i0,i1⟩:=z2e q;exact ⟨z2c q i1,z2d q⟩
theorem z2f: ∀(q M:Nat),12*q<=M-> ∀(h0d h1d:Dk),∀(h2_1:Int),∀(r:Nat×Int×(List zli)),zn1 q h0d h1d h2_1=some r->(orc T (M+10)).inl 48 [(.ptr 2 0)] [(.dsk h0d),(.dsk h1d),(.box [(.dp 0),(.int .i64 h2_1),(.sl true []),(.sl true []),(.sl true []),(.int .i64 0),(.int .i64 0),(.int .i64 0),(.int .i64 0),(.sl true []),(.bool false),(.int .i64 0),(.sl true []),(.int .i64 0),(.bool false)])]=(some ([],[(.dsk h0d),(.dsk h1d),(.box [(.dp 0),(.int .i64 h2_1),(.vw 3 0 0 r.1 1),(.sl true []),(.sl true []),(.int .i64 r.2.1),(.int .i64 0),(.int .i64 0),(.int .i64 0),(.sl true []),(.bool false),(.int .i64 0),(.sl true []),(.int .i64 0),(.bool false)]),(.row 0 false 6 (List.map zli.enc r.2.2) false)]):Option (List V×Hp)):=by
 intro q M hM h0d h1d h2_1 r h
 rcases q with _ | q
 ·cases h
 have ih_ferrymanlaw12_StoreParts_s0_l0:=(z2e q).1
 refine byR fun R hR=>?_
 rw [zuq.2 (n:=M+9)]
 rw [zn1] at h
 replace h:=ob h;obtain ⟨r1,h1,h⟩:=h
 replace h1:=us1 (q:=q) (M:=M) (by omega) h1 9
 try simp only [kf,simprocAttr] at h1
 replace h:=ob h;obtain ⟨e2,h2,h⟩:=h
 replace h:=ih_ferrymanlaw12_StoreParts_s0_l0 M (by omega) (M+9) (by omega) _ _ _ _ _ _ _ _ h R hR
 simp only [z2b,simprocAttr, *]
def z2g (q:Nat):Prop:= ∀M,12*q<=M-> ∀j,q<=j-> ∀(w3:Nat) (v29z:Bool) (v29l:List Int) (v30:Int) (h0d h1d:Dk) (h2_1:Int) (h2_2len:Nat) (h2_5 h2_6 h2_7 h2_8:Int) (h2_9z:Bool) (h2_9l:List Int) (h2_10:Bool) (h2_11:Int) (h2_12z:Bool) (h2_12l:List zlh) (h3l:List zli) (h4_1:Int) (h5l:List zli) (r:Nat×Int×(List zli)),zn3 q v29z v29l v30 h0d h1d h2_1 h2_2len h2_5 h2_6 h2_7 h2_8 h2_9z h2_9l h2_10 h2_11 h2_12z h2_12l h3l h4_1 h5l=some r->LS T (M+9) 5 [0,29,30,31] [.blk 0, .code zp2] zpz j (finI 5 false []) ((some ([],[(.dsk h0d),(.dsk h1d),(.box [(.dp 0),(.int .i64 h2_1),(.vw 3 w3 0 h2_2len 1),(.sl true []),(.sl true []),(.int .i64 h2_5),(.int .i64 h2_6),(.int .i64 h2_7),(.int .i64 h2_8),(.sl h2_9z (List.map (V.int .i64) h2_9l)),(.bool h2_10),(.int .i64 h2_11),(.sl h2_12z (List.map zlh.enc h2_12l)),(.int .i64 0),(.bool false)]),(.row w3 false 6 (List.map zli.enc h3l) false),(.box [(.dp 1),(.int .i64 h4_1),(.vw 5 0 0 r.1 1),(.sl true []),(.sl true []),(.int .i64 r.2.1),(.int .i64 0),(.int .i64 0),(.int .i64 0),(.sl true []),(.bool false),(.int .i64 0),(.sl true []),(.int .i64 0),(.bool false)]),(.row 0 false 6 (List.map zli.enc r.2.2) false)]):Option (List V×Hp))) [(0,(.ptr 4 0)),(29,(.sl v29z (List.map (V.int .i64) v29l))),(30,(.int .i64 v30)),(31,(.int .i64 0))] [(.dsk h0d),(.dsk h1d),(.box [(.dp 0),(.int .i64 h2_1),(.vw 3 w3 0 h2_2len 1),(.sl true []),(.sl true []),(.int .i64 h2_5),(.int .i64 h2_6),(.int .i64 h2_7),(.int .i64 h2_8),(.sl h2_9z (List.map (V.int .i64) h2_9l)),(.bool h2_10),(.int .i64 h2_11),(.sl h2_12z (List.map zlh.enc h2_12l)),(.int .i64 0),(.bool false)]),(.row w3 false 6 (List.map zli.enc h3l) false),(.box [(.dp 1),(.int .i64 h4_1),(.vw 5 0 0 h5l.length 1),(.sl true []),(.sl true []),(.int .i64 0),(.int .i64 0),(.int .i64 0),(.int .i64 0),(.sl true []),(.bool false),(.int .i64 0),(.sl true []),(.int .i64 0),(.bool false)]),(.row 0 false 6 (List.map zli.enc h5l) true)]
def z2h (q:Nat):Prop:= ∀M,12*q<=M-> ∀j,q<=j-> ∀(w3:Nat) (v82z:Bool) (v82l:List Int) (v83:Int) (h0d h1d:Dk) (h2_1:Int) (h2_2len:Nat) (h2_5 h2_6 h2_7 h2_8:Int) (h2_9z:Bool) (h2_9l:List Int) (h2_10:Bool) (h2_11:Int) (h2_12z:Bool) (h2_12l:List zlh) (h3l:List zli) (h4_1 h4_5:Int) (h5l:List zli) (r:Nat×Int×(List zli)),zn2 q v82z v82l v83 h0d h1d h2_1 h2_2len h2_5 h2_6 h2_7 h2_8 h2_9z h2_9l h2_10 h2_11 h2_12z h2_12l h3l h4_1 h4_5 h5l=some r->LS T (M+9) 5 [0,82,83,84] [.blk 2] zp1 j (finI 5 false []) ((some ([],[(.dsk h0d),(.dsk h1d),(.box [(.dp 0),(.int .i64 h2_1),(.vw 3 w3 0 h2_2len 1),(.sl true []),(.sl true []),(.int .i64 h2_5),(.int .i64 h2_6),(.int .i64 h2_7),(.int .i64 h2_8),(.sl h2_9z (List.map (V.int .i64) h2_9l)),(.bool h2_10),(.int .i64 h2_11),(.sl h2_12z (List.map zlh.enc h2_12l)),(.int .i64 0),(.bool false)]),(.row w3 false 6 (List.map zli.enc h3l) false),(.box [(.dp 1),(.int .i64 h4_1),(.vw 5 0 0 r.1 1),(.sl true []),(.sl true []),(.int .i64 r.2.1),(.int .i64 0),(.int .i64 0),(.int .i64 0),(.sl true []),(.bool false),(.int .i64 0),(.sl true []),(.int .i64 0),(.bool false)]),(.row 0 false 6 (List.map zli.enc r.2.2) false)]):Option (List V×Hp))) [(0,(.ptr 4 0)),(82,(.sl v82z (List.map (V.int .i64) v82l))),(83,(.int .i64 v83)),(84,(.int .i64 0))] [(.dsk h0d),(.dsk h1d),(.box [(.dp 0),(.int .i64 h2_1),(.vw 3 w3 0 h2_2len 1),(.sl true []),(.sl true []),(.int .i64 h2_5),(.int .i64 h2_6),(.int .i64 h2_7),(.int .i64 h2_8),(.sl h2_9z (List.map (V.int .i64) h2_9l)),(.bool h2_10),(.int .i64 h2_11),(.sl h2_12z (List.map zlh.enc h2_12l)),(.int .i64 0),(.bool false)]),(.row w3 false 6 (List.map zli.enc h3l) false),(.box [(.dp 1),(.int .i64 h4_1),(.vw 5 0 0 h5l.length 1),(.sl true []),(.sl true []),(.int .i64 h4_5),(.int .i64 0),(.int .i64 0),(.int .i64 0),(.sl true []),(.bool false),(.int .i64 0),(.sl true []),(.int .i64 0),(.bool false)]),(.row 0 false 6 (List.map zli.enc h5l) false)]
def z2i:=ai @kk<| ai @ke<| ai @kn<| ai @wl<| ai @wq<| ai @zuh<| ai @zu4<| ai @zve<| ai @zuj<| ai @zvj<| ai @zvl<| @zv0
theorem z2j (q:Nat) (z21:z2h q):z2g (q+1):=by
 intro M hM j hj w3 v29z v29l v30 h0d h1d h2_1 h2_2len h2_5 h2_6 h2_7 h2_8 h2_9z h2_9l h2_10 h2_11 h2_12z h2_12l h3l h4_1 h5l r h R hR fr H hc
 obtain ⟨j,rfl⟩: ∃i,j=i+1:=⟨j - 1,by omega⟩
 rw [zhw,hc];clear hc
 rw [zn3] at h
 repeat' (first | (cases h;done) | (replace h:=br h;rcases h with ⟨_,h⟩ | ⟨_,h⟩) | (replace h:=ob h;obtain ⟨_,g,h⟩:=h;first | (replace g:=us1 (q:=q) (M:=M) (by omega) g 8;try simp only [kf,simprocAttr] at g) | skip))
 all_goals (replace h:=z21 M (by omega) (M+9) (by omega) w3 _ _ _ _ _ _ _ _ _ _ _ _ _ _ _ _ _ _ _ _ _ _ h R hR;simp only [z2i,simprocAttr, *])
theorem z2k (q:Nat):z2h (q+1):=by
 intro M hM j hj w3 v82z v82l v83 h0d h1d h2_1 h2_2len h2_5 h2_6 h2_7 h2_8 h2_9z h2_9l h2_10 h2_11 h2_12z h2_12l h3l h4_1 h4_5 h5l r h R hR fr H hc
 obtain ⟨j,rfl⟩: ∃i,j=i+1:=⟨j - 1,by omega⟩
 rw [zhw,hc];clear hc
 rw [zn2] at h
 replace h:=br h;rcases h with ⟨h1,h⟩ | ⟨h1,h⟩
 ·replace h:=ob h;obtain ⟨e7,h2,h⟩:=h
  cases h
 ·cases h;subst hR;simp only [z2i,simprocAttr, *]
theorem z2l: ∀q,z2g q/\z2h q
 | 0=>by refine ⟨?_,?_⟩<;>(intro M hM j hj;intros;rename_i h;first | (cases h;done) | simp only [zn3.eq_1,zn2.eq_1,reduceCtorEq] at h)
 | q+1=>by have ⟨i0,i1⟩:=z2l q;exact ⟨z2j q i1,z2k q⟩
theorem z2m: ∀(q M:Nat),12*q<=M-> ∀(w3:Nat),∀(h0d h1d:Dk),∀(h2_1:Int),∀(h2_2len:Nat),∀(h2_5 h2_6 h2_7 h2_8:Int),∀(h2_9z:Bool),∀(h2_9l:List Int),∀(h2_10:Bool),∀(h2_11:Int),∀(h2_12z:Bool),∀(h2_12l:List zlh),∀(h3l:List zli),∀(h4_1:Int),∀(r:Nat×Int×(List zli)),zn4 q h0d h1d h2_1 h2_2len h2_5 h2_6 h2_7 h2_8 h2_9z h2_9l h2_10 h2_11 h2_12z h2_12l h3l h4_1=some r->(orc T (M+10)).inl 48 [(.ptr 4 0)] [(.dsk h0d),(.dsk h1d),(.box [(.dp 0),(.int .i64 h2_1),(.vw 3 w3 0 h2_2len 1),(.sl true []),(.sl true []),(.int .i64 h2_5),(.int .i64 h2_6),(.int .i64 h2_7),(.int .i64 h2_8),(.sl h2_9z (List.map (V.int .i64) h2_9l)),(.bool h2_10),(.int .i64 h2_11),(.sl h2_12z (List.map zlh.enc h2_12l)),(.int .i64 0),(.bool false)]),(.row w3 false 6 (List.map zli.enc h3l) false),(.box [(.dp 1),(.int .i64 h4_1),(.sl true []),(.sl true []),(.sl true []),(.int .i64 0),(.int .i64 0),(.int .i64 0),(.int .i64 0),(.sl true []),(.bool false),(.int .i64 0),(.sl true []),(.int .i64 0),(.bool false)])]=(some ([],[(.dsk h0d),(.dsk h1d),(.box [(.dp 0),(.int .i64 h2_1),(.vw 3 w3 0 h2_2len 1),(.sl true []),(.sl true []),(.int .i64 h2_5),(.int .i64 h2_6),(.int .i64 h2_7),(.int .i64 h2_8),(.sl h2_9z (List.map (V.int .i64) h2_9l)),(.bool h2_10),(.int .i64 h2_11),(.sl h2_12z (List.map zlh.enc h2_12l)),(.int .i64 0),(.bool false)]),(.row w3 false 6 (List.map zli.enc h3l) false),(.box [(.dp 1),(.int .i64 h4_1),(.vw 5 0 0 r.1 1),(.sl true []),(.sl true []),(.int .i64 r.2.1),(.int .i64 0),(.int .i64 0),(.int .i64 0),(.sl true []),(.bool false),(.int .i64 0),(.sl true []),(.int .i64 0),(.bool false)]),(.row 0 false 6 (List.map zli.enc r.2.2) false)]):Option (List V×Hp)):=by
 intro q M hM w3 h0d h1d h2_1 h2_2len h2_5 h2_6 h2_7 h2_8 h2_9z h2_9l h2_10 h2_11 h2_12z h2_12l h3l h4_1 r h
 rcases q with _ | q
 ·cases h
 have ih_ferrymanlaw12_StoreParts_s1_l0:=(z2l q).1
 refine byR fun R hR=>?_
 rw [zuq.2 (n:=M+9)]
 rw [zn4] at h
 replace h:=ob h;obtain ⟨r1,h1,h⟩:=h
 replace h1:=us1 (q:=q) (M:=M) (by omega) h1 9
 try simp only [kf,simprocAttr] at h1
 replace h:=ob h;obtain ⟨e2,h2,h⟩:=h
 replace h:=ih_ferrymanlaw12_StoreParts_s1_l0 M (by omega) (M+9) (by omega) w3 _ _ _ _ _ _ _ _ _ _ _ _ _ _ _ _ _ _ _ _ _ h R hR
 simp only [z2i,simprocAttr, *]
def z2n (q:Nat):Prop:= ∀M,12*q<=M-> ∀j,q<=j-> ∀(v1z:Bool) (v1l:List zlf) (v13 h0_1:Int) (h0_2len:Nat) (h0_5 h0_6 h0_7 h0_8:Int) (h0_9z:Bool) (h0_9l:List Int) (h0_10:Bool) (h0_11:Int) (h0_12z:Bool) (h0_12l:List zlh) (h1_1:Int) (h1_2len:Nat) (h1_5 h1_6 h1_7 h1_8:Int) (h1_9z:Bool) (h1_9l:List Int) (h1_10:Bool) (h1_11:Int) (h1_12z:Bool) (h1_12l:List zlh) (h2d:Dk) (h3l:List zli) (h4d:Dk) (h5l:List zli) (r:Bool),zn9 q v1z v1l v13 h0_1 h0_2len h0_5 h0_6 h0_7 h0_8 h0_9z h0_9l h0_10 h0_11 h0_12z h0_12l h1_1 h1_2len h1_5 h1_6 h1_7 h1_8 h1_9z h1_9l h1_10 h1_11 h1_12z h1_12l h2d h3l h4d h5l=some r->LS T (M+11) 0 [1,9,11,13] [.blk 0, .code zok] zoh j (fin [.tmp 4] [[]]) (some [V.bool r]) [(1,(.sl v1z (List.map zlf.enc v1l))),(9,(.ptr 0 0)),(11,(.ptr 1 0)),(13,(.int .i64 v13))] [(.box [(.dp 2),(.int .i64 h0_1),(.vw 3 0 0 h0_2len 1),(.sl true []),(.sl true []),(.int .i64 h0_5),(.int .i64 h0_6),(.int .i64 h0_7),(.int .i64 h0_8),(.sl h0_9z (List.map (V.int .i64) h0_9l)),(.bool h0_10),(.int .i64 h0_11),(.sl h0_12z (List.map zlh.enc h0_12l)),(.int .i64 0),(.bool false)]),(.box [(.dp 4),(.int .i64 h1_1),(.vw 5 0 0 h1_2len 1),(.sl true []),(.sl true []),(.int .i64 h1_5),(.int .i64 h1_6),(.int .i64 h1_7),(.int .i64 h1_8),(.sl h1_9z (List.map (V.int .i64) h1_9l)),(.bool h1_10),(.int .i64 h1_11),(.sl h1_12z (List.map zlh.enc h1_12l)),(.int .i64 0),(.bool false)]),(.dsk h2d),(.row 0 false 6 (List.map zli.enc h3l) false),(.dsk h4d),(.row 0 false 6 (List.map zli.enc h5l) false)]
def z2o (q:Nat):Prop:= ∀M,12*q<=M-> ∀j,q<=j-> ∀j1,q<=j1-> ∀(v1z:Bool) (v1l:List zlf) (v13 h0_1:Int) (h0_2len:Nat) (h0_5 h0_6 h0_7 h0_8:Int) (h0_9z:Bool) (h0_9l:List Int) (h0_10:Bool) (h0_11:Int) (h0_12z:Bool) (h0_12l:List zlh) (h1_1:Int) (h1_2len:Nat) (h1_5 h1_6 h1_7 h1_8:Int) (h1_9z:Bool) (h1_9l:List Int) (h1_10:Bool) (h1_11:Int) (h1_12z:Bool) (h1_12l:List zlh) (h2z:Bool) (h2l:List zle) (h3d:Dk) (h4l:List zli) (h5l:List zlj) (h6z:Bool) (h6l:List zle) (h7d:Dk) (h8l:List zli) (r:Bool),zn7 q v1z v1l v13 h0_1 h0_2len h0_5 h0_6 h0_7 h0_8 h0_9z h0_9l h0_10 h0_11 h0_12z h0_12l h1_1 h1_2len h1_5 h1_6 h1_7 h1_8 h1_9z h1_9l h1_10 h1_11 h1_12z h1_12l h2z h2l h3d h4l h5l h6z h6l h7d h8l=some r->LS T (M+11) 0 [1,9,11,13,14,15] [.blk 2, .blk 1, .code (.reg [mt 79 13,mk 80 .add 79 1,mt 13 80]), .rounds [1,9,11,13] zoh j1, .blk 0, .code zok] zof j (fin [.tmp 4] [[]]) (some [V.bool r]) [(1,(.sl v1z (List.map zlf.enc v1l))),(9,(.ptr 0 0)),(11,(.ptr 1 0)),(13,(.int .i64 v13)),(14,(.vw 2 0 0 h2l.length 1)),(15,(.int .i64 0))] [(.box [(.dp 3),(.int .i64 h0_1),(.vw 4 0 0 h0_2len 1),(.vw 5 0 0 h5l.length 1),(.vw 6 0 0 h6l.length 1),(.int .i64 h0_5),(.int .i64 h0_6),(.int .i64 h0_7),(.int .i64 h0_8),(.sl h0_9z (List.map (V.int .i64) h0_9l)),(.bool h0_10),(.int .i64 h0_11),(.sl h0_12z (List.map zlh.enc h0_12l)),(.int .i64 2),(.bool false)]),(.box [(.dp 7),(.int .i64 h1_1),(.vw 8 0 0 h1_2len 1),(.sl true []),(.sl true []),(.int .i64 h1_5),(.int .i64 h1_6),(.int .i64 h1_7),(.int .i64 h1_8),(.sl h1_9z (List.map (V.int .i64) h1_9l)),(.bool h1_10),(.int .i64 h1_11),(.sl h1_12z (List.map zlh.enc h1_12l)),(.int .i64 0),(.bool false)]),(.row 0 h2z 7 (List.map zle.enc h2l) false),(.dsk h3d),(.row 0 false 6 (List.map zli.enc h4l) false),(.row 0 false 3 (List.map zlj.enc h5l) true),(.row 0 h6z 7 (List.map zle.enc h6l) true),(.dsk h7d),(.row 0 false 6 (List.map zli.enc h8l) false)]
def z2p (q:Nat):Prop:= ∀M,12*q<=M-> ∀j,q<=j-> ∀j1,q<=j1-> ∀(v1z:Bool) (v1l:List zlf) (v13 v15 h0_1:Int) (h0_2len:Nat) (h0_5 h0_6 h0_7 h0_8:Int) (h0_9z:Bool) (h0_9l:List Int) (h0_10:Bool) (h0_11:Int) (h0_12z:Bool) (h0_12l:List zlh) (h1_1:Int) (h1_2len:Nat) (h1_5 h1_6 h1_7 h1_8:Int) (h1_9z:Bool) (h1_9l:List Int) (h1_10:Bool) (h1_11:Int) (h1_12z:Bool) (h1_12l:List zlh) (h1_13:Int) (h1_14 h2z:Bool) (h2l:List zle) (h3d:Dk) (h4l:List zli) (h5l:List zlj) (h6z:Bool) (h6l:List zle) (h7d:Dk) (h8l:List zli) (h9l:List zlj) (h10z:Bool) (h10l:List zle) (r:Bool),zn5 q v1z v1l v13 v15 h0_1 h0_2len h0_5 h0_6 h0_7 h0_8 h0_9z h0_9l h0_10 h0_11 h0_12z h0_12l h1_1 h1_2len h1_5 h1_6 h1_7 h1_8 h1_9z h1_9l h1_10 h1_11 h1_12z h1_12l h1_13 h1_14 h2z h2l h3d h4l h5l h6z h6l h7d h8l h9l h10z h10l=some r->LS T (M+11) 0 [1,9,11,13,14,15] [.blk 2, .blk 1, .code (.reg [mt 79 13,mk 80 .add 79 1,mt 13 80]), .rounds [1,9,11,13] zoh j1, .blk 0, .code zok] zof j (fin [.tmp 4] [[]]) (some [V.bool r]) [(1,(.sl v1z (List.map zlf.enc v1l))),(9,(.ptr 0 0)),(11,(.ptr 1 0)),(13,(.int .i64 v13)),(14,(.vw 2 0 0 h2l.length 1)),(15,(.int .i64 v15))] [(.box [(.dp 3),(.int .i64 h0_1),(.vw 4 0 0 h0_2len 1),(.vw 5 0 0 h5l.length 1),(.vw 6 0 0 h6l.length 1),(.int .i64 h0_5),(.int .i64 h0_6),(.int .i64 h0_7),(.int .i64 h0_8),(.sl h0_9z (List.map (V.int .i64) h0_9l)),(.bool h0_10),(.int .i64 h0_11),(.sl h0_12z (List.map zlh.enc h0_12l)),(.int .i64 2),(.bool false)]),(.box [(.dp 7),(.int .i64 h1_1),(.vw 8 0 0 h1_2len 1),(.vw 9 0 0 h9l.length 1),(.vw 10 0 0 h10l.length 1),(.int .i64 h1_5),(.int .i64 h1_6),(.int .i64 h1_7),(.int .i64 h1_8),(.sl h1_9z (List.map (V.int .i64) h1_9l)),(.bool h1_10),(.int .i64 h1_11),(.sl h1_12z (List.map zlh.enc h1_12l)),(.int .i64 h1_13),(.bool h1_14)]),(.row 0 h2z 7 (List.map zle.enc h2l) false),(.dsk h3d),(.row 0 false 6 (List.map zli.enc h4l) false),(.row 0 false 3 (List.map zlj.enc h5l) true),(.row 0 h6z 7 (List.map zle.enc h6l) true),(.dsk h7d),(.row 0 false 6 (List.map zli.enc h8l) false),(.row 0 false 3 (List.map zlj.enc h9l) true),(.row 0 h10z 7 (List.map zle.enc h10l) true)]
def z2q (q:Nat):Prop:= ∀M,12*q<=M-> ∀j,q<=j-> ∀(v1z:Bool) (v1l:List zlf) (v13 h0_1:Int) (h0_2len:Nat) (h0_5 h0_6 h0_7 h0_8:Int) (h0_9z:Bool) (h0_9l:List Int) (h0_10:Bool) (h0_11:Int) (h0_12z:Bool) (h0_12l:List zlh) (h1_1:Int) (h1_2len:Nat) (h1_5 h1_6 h1_7 h1_8:Int) (h1_9z:Bool) (h1_9l:List Int) (h1_10:Bool) (h1_11:Int) (h1_12z:Bool) (h1_12l:List zlh) (h2d:Dk) (h3l:List zli) (h4l:List zlj) (h5z:Bool) (h5l:List zle) (h6d:Dk) (h7l:List zli) (r:Bool),zn8 q v1z v1l v13 h0_1 h0_2len h0_5 h0_6 h0_7 h0_8 h0_9z h0_9l h0_10 h0_11 h0_12z h0_12l h1_1 h1_2len h1_5 h1_6 h1_7 h1_8 h1_9z h1_9l h1_10 h1_11 h1_12z h1_12l h2d h3l h4l h5z h5l h6d h7l=some r->LS T (M+11) 0 [1,9,11,13] [.blk 0, .code zok] zoh j (fin [.tmp 4] [[]]) (some [V.bool r]) [(1,(.sl v1z (List.map zlf.enc v1l))),(9,(.ptr 0 0)),(11,(.ptr 1 0)),(13,(.int .i64 v13))] [(.box [(.dp 2),(.int .i64 h0_1),(.vw 3 0 0 h0_2len 1),(.vw 4 0 0 h4l.length 1),(.vw 5 0 0 h5l.length 1),(.int .i64 h0_5),(.int .i64 h0_6),(.int .i64 h0_7),(.int .i64 h0_8),(.sl h0_9z (List.map (V.int .i64) h0_9l)),(.bool h0_10),(.int .i64 h0_11),(.sl h0_12z (List.map zlh.enc h0_12l)),(.int .i64 2),(.bool false)]),(.box [(.dp 6),(.int .i64 h1_1),(.vw 7 0 0 h1_2len 1),(.sl true []),(.sl true []),(.int .i64 h1_5),(.int .i64 h1_6),(.int .i64 h1_7),(.int .i64 h1_8),(.sl h1_9z (List.map (V.int .i64) h1_9l)),(.bool h1_10),(.int .i64 h1_11),(.sl h1_12z (List.map zlh.enc h1_12l)),(.int .i64 0),(.bool false)]),(.dsk h2d),(.row 0 false 6 (List.map zli.enc h3l) false),(.row 0 false 3 (List.map zlj.enc h4l) true),(.row 0 h5z 7 (List.map zle.enc h5l) true),(.dsk h6d),(.row 0 false 6 (List.map zli.enc h7l) false)]
def z2r (q:Nat):Prop:= ∀M,12*q<=M-> ∀j,q<=j-> ∀(v1z:Bool) (v1l:List zlf) (v13 h0_1:Int) (h0_2len:Nat) (h0_5 h0_6 h0_7 h0_8:Int) (h0_9z:Bool) (h0_9l:List Int) (h0_10:Bool) (h0_11:Int) (h0_12z:Bool) (h0_12l:List zlh) (h1_1:Int) (h1_2len:Nat) (h1_5 h1_6 h1_7 h1_8:Int) (h1_9z:Bool) (h1_9l:List Int) (h1_10:Bool) (h1_11:Int) (h1_12z:Bool) (h1_12l:List zlh) (h1_13:Int) (h1_14:Bool) (h2d:Dk) (h3l:List zli) (h4l:List zlj) (h5z:Bool) (h5l:List zle) (h6d:Dk) (h7l:List zli) (h8l:List zlj) (h9z:Bool) (h9l:List zle) (r:Bool),zn6 q v1z v1l v13 h0_1 h0_2len h0_5 h0_6 h0_7 h0_8 h0_9z h0_9l h0_10 h0_11 h0_12z h0_12l h1_1 h1_2len h1_5 h1_6 h1_7 h1_8 h1_9z h1_9l h1_10 h1_11 h1_12z h1_12l h1_13 h1_14 h2d h3l h4l h5z h5l h6d h7l h8l h9z h9l=some r->LS T (M+11) 0 [1,9,11,13] [.blk 0, .code zok] zoh j (fin [.tmp 4] [[]]) (some [V.bool r]) [(1,(.sl v1z (List.map zlf.enc v1l))),(9,(.ptr 0 0)),(11,(.ptr 1 0)),(13,(.int .i64 v13))] [(.box [(.dp 2),(.int .i64 h0_1),(.vw 3 0 0 h0_2len 1),(.vw 4 0 0 h4l.length 1),(.vw 5 0 0 h5l.length 1),(.int .i64 h0_5),(.int .i64 h0_6),(.int .i64 h0_7),(.int .i64 h0_8),(.sl h0_9z (List.map (V.int .i64) h0_9l)),(.bool h0_10),(.int .i64 h0_11),(.sl h0_12z (List.map zlh.enc h0_12l)),(.int .i64 2),(.bool false)]),(.box [(.dp 6),(.int .i64 h1_1),(.vw 7 0 0 h1_2len 1),(.vw 8 0 0 h8l.length 1),(.vw 9 0 0 h9l.length 1),(.int .i64 h1_5),(.int .i64 h1_6),(.int .i64 h1_7),(.int .i64 h1_8),(.sl h1_9z (List.map (V.int .i64) h1_9l)),(.bool h1_10),(.int .i64 h1_11),(.sl h1_12z (List.map zlh.enc h1_12l)),(.int .i64 h1_13),(.bool h1_14)]),(.dsk h2d),(.row 0 false 6 (List.map zli.enc h3l) false),(.row 0 false 3 (List.map zlj.enc h4l) true),(.row 0 h5z 7 (List.map zle.enc h5l) true),(.dsk h6d),(.row 0 false 6 (List.map zli.enc h7l) false),(.row 0 false 3 (List.map zlj.enc h8l) true),(.row 0 h9z 7 (List.map zle.enc h9l) true)]
def z2s:=ai @kk<| ai @ke<| ai @kn<| ai @wl<| ai @wq<| ai @ztp<| ai @zt1<| ai @zur<| ai @ztr<| ai @zts<| ai @zty<| ai @zt8<| ai @zt9<| ai @zug<| ai @zup<| ai @zuv<| ai @zuw<| ai @zux<| ai @zu0<| ai @zu4<| ai @zve<| ai @zvv<| ai @ztv<| ai @ztx<| ai @zt0<| ai @zt3<| ai @zt5<| ai @zt7<| ai @zub<| ai @zue<| ai @zuj<| ai @zul<| ai @zuo<| ai @zut<| ai @zuz<| ai @zu7<| ai @zva<| @zvj
theorem z2t (q:Nat) (z22:z2n q) (z23:z2o q):z2n (q+1):=by
 intro M hM j hj v1z v1l v13 h0_1 h0_2len h0_5 h0_6 h0_7 h0_8 h0_9z h0_9l h0_10 h0_11 h0_12z h0_12l h1_1 h1_2len h1_5 h1_6 h1_7 h1_8 h1_9z h1_9l h1_10 h1_11 h1_12z h1_12l h2d h3l h4d h5l r h R hR fr H hc
 obtain ⟨j,rfl⟩: ∃i,j=i+1:=⟨j - 1,by omega⟩
 rw [zhw,hc];clear hc
 rw [zn9] at h
 replace h:=br h;rcases h with ⟨h1,h⟩ | ⟨h1,h⟩
 ·replace h:=bn h;obtain ⟨h2,h⟩:=h
  replace h:=ob h;obtain ⟨e11,h3,h⟩:=h
  replace h:=ob h;obtain ⟨r12,h4,h⟩:=h
  replace h4:=us1 (q:=q) (M:=M) (by omega) h4 11
  try simp only [kf,simprocAttr] at h4
  replace h:=ob h;obtain ⟨r13,h5,h⟩:=h
  replace h5:=us1 (q:=q) (M:=M) (by omega) h5 10
  try simp only [kf,simprocAttr] at h5
  replace h:=br h;rcases h with ⟨h6,h⟩ | ⟨h6,h⟩
  ·replace h:=bn h;obtain ⟨h7,h⟩:=h
   replace h:=ob h;obtain ⟨e14,h8,h⟩:=h
   replace h:=bn h;obtain ⟨h9,h⟩:=h
   replace h:=ob h;obtain ⟨r15,h10,h⟩:=h
   replace h10:=us1 (q:=q) (M:=M) (by omega) h10 10
   try simp only [kf,simprocAttr] at h10
   replace h:=ob h;obtain ⟨r16,h11,h⟩:=h
   replace h11:=us1 (q:=q) (M:=M) (by omega) h11 10
   try simp only [kf,simprocAttr] at h11
   replace h:=ob h;obtain ⟨e17,h12,h⟩:=h
   replace h:=ob h;obtain ⟨r18,h13,h⟩:=h
   replace h13:=us1 (q:=q) (M:=M) (by omega) h13 9
   try simp only [kf,simprocAttr] at h13
   replace h:=bb h;rcases h with ⟨h14',h14,h⟩ | ⟨h14',h14,h⟩
   ·cases h
   ·replace h:=bn h;obtain ⟨h15,h⟩:=h
    replace h:=ob h;obtain ⟨e19,h16,h⟩:=h
    replace h:=bn h;obtain ⟨h17,h⟩:=h
    replace h:=bn h;obtain ⟨h18,h⟩:=h
    replace h:=ob h;obtain ⟨r20,h19,h⟩:=h
    replace h19:=us1 (q:=q) (M:=M) (by omega) h19 10
    try simp only [kf,simprocAttr] at h19
    replace h:=z23 M (by omega) (M+11) (by omega) j (by omega) _ _ _ _ _ _ _ _ _ _ _ _ _ _ _ _ _ _ _ _ _ _ _ _ _ _ _ _ _ _ _ _ _ _ _ _ _ h R hR
    simp (maxDischargeDepth:=12) only [z2s,simprocAttr,beq_self_eq_true, *]
  ·replace h:=z22 M (by omega) j (by omega) _ _ _ _ _ _ _ _ _ _ _ _ _ _ _ _ _ _ _ _ _ _ _ _ _ _ _ _ _ _ _ _ h R hR
   simp (maxDischargeDepth:=12) only [z2s,simprocAttr,beq_self_eq_true, *]
 ·replace h:=bm h;obtain ⟨h20,h⟩:=h
  replace h:=bm h;obtain ⟨h21,h⟩:=h
  replace h:=bm h;obtain ⟨h22,h⟩:=h
  replace h:=bn h;obtain ⟨h23,h⟩:=h
  replace h:=bn h;obtain ⟨h24,h⟩:=h
  replace h:=bn h;obtain ⟨h25,h⟩:=h
  replace h:=ob h;obtain ⟨r21,h26,h⟩:=h
  replace h26:=us1 (q:=q) (M:=M) (by omega) h26 10
  try simp only [kf,simprocAttr] at h26
  replace h:=bm h;obtain ⟨h27,h⟩:=h
  replace h:=bm h;obtain ⟨h28,h⟩:=h
  replace h:=bm h;obtain ⟨h29,h⟩:=h
  replace h:=bn h;obtain ⟨h30,h⟩:=h
  replace h:=bn h;obtain ⟨h31,h⟩:=h
  replace h:=bn h;obtain ⟨h32,h⟩:=h
  replace h:=ob h;obtain ⟨r22,h33,h⟩:=h
  replace h33:=us1 (q:=q) (M:=M) (by omega) h33 11
  try simp only [kf,simprocAttr] at h33
  replace h:=bb h;rcases h with ⟨h34',h34,h⟩ | ⟨h34',h34,h⟩
  ·replace h:=ob h;obtain ⟨r23,h35,h⟩:=h
   replace h35:=us1 (q:=q) (M:=M) (by omega) h35 10
   try simp only [kf,simprocAttr] at h35
   replace h:=ob h;obtain ⟨r24,h36,h⟩:=h
   replace h36:=us1 (q:=q) (M:=M) (by omega) h36 10
   try simp only [kf,simprocAttr] at h36
   replace h:=ob h;obtain ⟨r25,h37,h⟩:=h
   replace h37:=us1 (q:=q) (M:=M) (by omega) h37 11
   try simp only [kf,simprocAttr] at h37
   cases h;subst hR;simp (maxDischargeDepth:=12) only [z2s,simprocAttr,beq_self_eq_true, *]
  ·cases h;subst hR;simp (maxDischargeDepth:=12) only [z2s,simprocAttr,beq_self_eq_true, *]
theorem z2u (q:Nat) (z24:z2p q) (z25:z2q q):z2o (q+1):=by
 intro M hM j hj j1 hj1 v1z v1l v13 h0_1 h0_2len h0_5 h0_6 h0_7 h0_8 h0_9z h0_9l h0_10 h0_11 h0_12z h0_12l h1_1 h1_2len h1_5 h1_6 h1_7 h1_8 h1_9z h1_9l h1_10 h1_11 h1_12z h1_12l h2z h2l h3d h4l h5l h6z h6l h7d h8l r h R hR fr H hc
 obtain ⟨j,rfl⟩: ∃i,j=i+1:=⟨j - 1,by omega⟩
 rw [zhw,hc];clear hc
 rw [zn7] at h
 replace h:=br h;rcases h with ⟨h1,h⟩ | ⟨h1,h⟩
 ·replace h:=bn h;obtain ⟨h2,h⟩:=h
  replace h:=bb h;rcases h with ⟨h3',h3,h⟩ | ⟨h3',h3,h⟩
  ·cases h
  ·replace h:=ob h;obtain ⟨r26,h4,h⟩:=h
   replace h4:=us1 (q:=q) (M:=M) (by omega) h4 10
   try simp only [kf,simprocAttr] at h4
   replace h:=br h;rcases h with ⟨h5,h⟩ | ⟨h5,h⟩
   ·replace h:=ob h;obtain ⟨e27,h6,h⟩:=h
    replace h:=bn h;obtain ⟨h7,h⟩:=h
    replace h:=ob h;obtain ⟨r28,h8,h⟩:=h
    replace h8:=us1 (q:=q) (M:=M) (by omega) h8 10
    try simp only [kf,simprocAttr] at h8
    replace h:=ob h;obtain ⟨r29,h9,h⟩:=h
    replace h9:=us1 (q:=q) (M:=M) (by omega) h9 10
    try simp only [kf,simprocAttr] at h9
    replace h:=ob h;obtain ⟨e30,h10,h⟩:=h
    replace h:=ob h;obtain ⟨r31,h11,h⟩:=h
    replace h11:=us1 (q:=q) (M:=M) (by omega) h11 9
    try simp only [kf,simprocAttr] at h11
    replace h:=bb h;rcases h with ⟨h12',h12,h⟩ | ⟨h12',h12,h⟩
    ·cases h
    ·replace h:=bn h;obtain ⟨h13,h⟩:=h
     replace h:=ob h;obtain ⟨e32,h14,h⟩:=h
     replace h:=bn h;obtain ⟨h15,h⟩:=h
     replace h:=bn h;obtain ⟨h16,h⟩:=h
     replace h:=ob h;obtain ⟨r33,h17,h⟩:=h
     replace h17:=us1 (q:=q) (M:=M) (by omega) h17 10
     try simp only [kf,simprocAttr] at h17
     replace h:=bn h;obtain ⟨h18,h⟩:=h
     replace h:=ob h;obtain ⟨e34,h19,h⟩:=h
     replace h:=br h;rcases h with ⟨h20,h⟩ | ⟨h20,h⟩
     ·replace h:=ob h;obtain ⟨e35,h21,h⟩:=h
      replace h:=bn h;obtain ⟨h22,h⟩:=h
      replace h:=ob h;obtain ⟨e36,h23,h⟩:=h
      replace h:=bn h;obtain ⟨h24,h⟩:=h
      replace h:=z24 M (by omega) j (by omega) j1 (by omega) _ _ _ _ _ _ _ _ _ _ _ _ _ _ _ _ _ _ _ _ _ _ _ _ _ _ _ _ _ _ _ _ _ _ _ _ _ _ _ _ _ _ _ h R hR
      simp (maxDischargeDepth:=12) only [z2s,simprocAttr,beq_self_eq_true, *]
     ·replace h:=z24 M (by omega) j (by omega) j1 (by omega) _ _ _ _ _ _ _ _ _ _ _ _ _ _ _ _ _ _ _ _ _ _ _ _ _ _ _ _ _ _ _ _ _ _ _ _ _ _ _ _ _ _ _ h R hR
      simp (maxDischargeDepth:=12) only [z2s,simprocAttr,beq_self_eq_true, *]
   ·cases h;subst hR;simp (maxDischargeDepth:=12) only [z2s,simprocAttr,beq_self_eq_true, *]
 ·replace h:=z25 M (by omega) j1 (by omega) _ _ _ _ _ _ _ _ _ _ _ _ _ _ _ _ _ _ _ _ _ _ _ _ _ _ _ _ _ _ _ _ _ _ _ h R hR
  simp (maxDischargeDepth:=12) only [z2s,simprocAttr,beq_self_eq_true, *]
theorem z2v (q:Nat) (z24:z2p q) (z26:z2r q):z2p (q+1):=by
 intro M hM j hj j1 hj1 v1z v1l v13 v15 h0_1 h0_2len h0_5 h0_6 h0_7 h0_8 h0_9z h0_9l h0_10 h0_11 h0_12z h0_12l h1_1 h1_2len h1_5 h1_6 h1_7 h1_8 h1_9z h1_9l h1_10 h1_11 h1_12z h1_12l h1_13 h1_14 h2z h2l h3d h4l h5l h6z h6l h7d h8l h9l h10z h10l r h R hR fr H hc
 obtain ⟨j,rfl⟩: ∃i,j=i+1:=⟨j - 1,by omega⟩
 rw [zhw,hc];clear hc
 rw [zn5] at h
 replace h:=br h;rcases h with ⟨h1,h⟩ | ⟨h1,h⟩
 ·replace h:=bn h;obtain ⟨h2,h⟩:=h
  replace h:=bn h;obtain ⟨h3,h⟩:=h
  replace h:=bn h;obtain ⟨h4,h⟩:=h
  replace h:=bb h;rcases h with ⟨h5',h5,h⟩ | ⟨h5',h5,h⟩
  ·cases h
  ·replace h:=ob h;obtain ⟨r37,h6,h⟩:=h
   replace h6:=us1 (q:=q) (M:=M) (by omega) h6 10
   try simp only [kf,simprocAttr] at h6
   replace h:=br h;rcases h with ⟨h7,h⟩ | ⟨h7,h⟩
   ·replace h:=bn h;obtain ⟨h8,h⟩:=h
    replace h:=ob h;obtain ⟨e38,h9,h⟩:=h
    replace h:=bn h;obtain ⟨h10,h⟩:=h
    replace h:=ob h;obtain ⟨r39,h11,h⟩:=h
    replace h11:=us1 (q:=q) (M:=M) (by omega) h11 10
    try simp only [kf,simprocAttr] at h11
    replace h:=br h;rcases h with ⟨h12,h⟩ | ⟨h12,h⟩
    ·replace h:=ob h;obtain ⟨r40,h13,h⟩:=h
     replace h13:=us1 (q:=q) (M:=M) (by omega) h13 10
     try simp only [kf,simprocAttr] at h13
     replace h:=ob h;obtain ⟨e41,h14,h⟩:=h
     replace h:=ob h;obtain ⟨r42,h15,h⟩:=h
     replace h15:=us1 (q:=q) (M:=M) (by omega) h15 9
     try simp only [kf,simprocAttr] at h15
     replace h:=bb h;rcases h with ⟨h16',h16,h⟩ | ⟨h16',h16,h⟩
     ·replace h:=bn h;obtain ⟨h17,h⟩:=h
      replace h:=ob h;obtain ⟨e43,h18,h⟩:=h
      replace h:=bn h;obtain ⟨h19,h⟩:=h
      replace h:=bn h;obtain ⟨h20,h⟩:=h
      replace h:=bn h;obtain ⟨h21,h⟩:=h
      replace h:=bn h;obtain ⟨h22,h⟩:=h
      replace h:=ob h;obtain ⟨r44,h23,h⟩:=h
      replace h23:=us1 (q:=q) (M:=M) (by omega) h23 10
      try simp only [kf,simprocAttr] at h23
      replace h:=bn h;obtain ⟨h24,h⟩:=h
      replace h:=ob h;obtain ⟨e45,h25,h⟩:=h
      replace h:=br h;rcases h with ⟨h26,h⟩ | ⟨h26,h⟩
      ·replace h:=bm h;obtain ⟨h27,h⟩:=h
       replace h:=ob h;obtain ⟨e46,h28,h⟩:=h
       replace h:=bn h;obtain ⟨h29,h⟩:=h
       replace h:=ob h;obtain ⟨e47,h30,h⟩:=h
       replace h:=bn h;obtain ⟨h31,h⟩:=h
       replace h:=z24 M (by omega) j (by omega) j1 (by omega) _ _ _ _ _ _ _ _ _ _ _ _ _ _ _ _ _ _ _ _ _ _ _ _ _ _ _ _ _ _ _ _ _ _ _ _ _ _ _ _ _ _ _ h R hR
       simp (maxDischargeDepth:=12) only [z2s,simprocAttr,beq_self_eq_true, *]
      ·replace h:=z24 M (by omega) j (by omega) j1 (by omega) _ _ _ _ _ _ _ _ _ _ _ _ _ _ _ _ _ _ _ _ _ _ _ _ _ _ _ _ _ _ _ _ _ _ _ _ _ _ _ _ _ _ _ h R hR
       simp (maxDischargeDepth:=12) only [z2s,simprocAttr,beq_self_eq_true, *]
     ·cases h
    ·replace h:=ob h;obtain ⟨e48,h32,h⟩:=h
     replace h:=bn h;obtain ⟨h33,h⟩:=h
     replace h:=bn h;obtain ⟨h34,h⟩:=h
     replace h:=bn h;obtain ⟨h35,h⟩:=h
     replace h:=ob h;obtain ⟨e49,h36,h⟩:=h
     replace h:=bn h;obtain ⟨h37,h⟩:=h
     replace h:=ob h;obtain ⟨r50,h38,h⟩:=h
     replace h38:=us1 (q:=q) (M:=M) (by omega) h38 10
     try simp only [kf,simprocAttr] at h38
     replace h:=bn h;obtain ⟨h39,h⟩:=h
     replace h:=ob h;obtain ⟨e51,h40,h⟩:=h
     replace h:=br h;rcases h with ⟨h41,h⟩ | ⟨h41,h⟩
     ·replace h:=ob h;obtain ⟨e52,h42,h⟩:=h
      replace h:=bn h;obtain ⟨h43,h⟩:=h
      replace h:=bb h;rcases h with ⟨h44',h44,h⟩ | ⟨h44',h44,h⟩
      ·cases h
      ·replace h:=ob h;obtain ⟨e53,h45,h⟩:=h
       replace h:=bn h;obtain ⟨h46,h⟩:=h
       replace h:=z24 M (by omega) j (by omega) j1 (by omega) _ _ _ _ _ _ _ _ _ _ _ _ _ _ _ _ _ _ _ _ _ _ _ _ _ _ _ _ _ _ _ _ _ _ _ _ _ _ _ _ _ _ _ h R hR
       simp (maxDischargeDepth:=12) only [z2s,simprocAttr,beq_self_eq_true, *]
     ·replace h:=z24 M (by omega) j (by omega) j1 (by omega) _ _ _ _ _ _ _ _ _ _ _ _ _ _ _ _ _ _ _ _ _ _ _ _ _ _ _ _ _ _ _ _ _ _ _ _ _ _ _ _ _ _ _ h R hR
      simp (maxDischargeDepth:=12) only [z2s,simprocAttr,beq_self_eq_true, *]
   ·cases h;subst hR;simp (maxDischargeDepth:=12) only [z2s,simprocAttr,beq_self_eq_true, *]
 ·replace h:=z26 M (by omega) j1 (by omega) _ _ _ _ _ _ _ _ _ _ _ _ _ _ _ _ _ _ _ _ _ _ _ _ _ _ _ _ _ _ _ _ _ _ _ _ _ _ _ _ h R hR
  simp (maxDischargeDepth:=12) only [z2s,simprocAttr,beq_self_eq_true, *]
theorem z2w (q:Nat) (z23:z2o q) (z25:z2q q):z2q (q+1):=by
 intro M hM j hj v1z v1l v13 h0_1 h0_2len h0_5 h0_6 h0_7 h0_8 h0_9z h0_9l h0_10 h0_11 h0_12z h0_12l h1_1 h1_2len h1_5 h1_6 h1_7 h1_8 h1_9z h1_9l h1_10 h1_11 h1_12z h1_12l h2d h3l h4l h5z h5l h6d h7l r h R hR fr H hc
 obtain ⟨j,rfl⟩: ∃i,j=i+1:=⟨j - 1,by omega⟩
 rw [zhw,hc];clear hc
 rw [zn8] at h
 replace h:=br h;rcases h with ⟨h1,h⟩ | ⟨h1,h⟩
 ·replace h:=bn h;obtain ⟨h2,h⟩:=h
  replace h:=ob h;obtain ⟨e54,h3,h⟩:=h
  replace h:=ob h;obtain ⟨r55,h4,h⟩:=h
  replace h4:=us1 (q:=q) (M:=M) (by omega) h4 11
  try simp only [kf,simprocAttr] at h4
  replace h:=ob h;obtain ⟨r56,h5,h⟩:=h
  replace h5:=us1 (q:=q) (M:=M) (by omega) h5 10
  try simp only [kf,simprocAttr] at h5
  replace h:=br h;rcases h with ⟨h6,h⟩ | ⟨h6,h⟩
  ·replace h:=bn h;obtain ⟨h7,h⟩:=h
   replace h:=ob h;obtain ⟨e57,h8,h⟩:=h
   replace h:=bn h;obtain ⟨h9,h⟩:=h
   replace h:=ob h;obtain ⟨r58,h10,h⟩:=h
   replace h10:=us1 (q:=q) (M:=M) (by omega) h10 10
   try simp only [kf,simprocAttr] at h10
   replace h:=ob h;obtain ⟨e59,h11,h⟩:=h
   replace h:=bn h;obtain ⟨h12,h⟩:=h
   replace h:=bn h;obtain ⟨h13,h⟩:=h
   replace h:=bn h;obtain ⟨h14,h⟩:=h
   replace h:=ob h;obtain ⟨e60,h15,h⟩:=h
   replace h:=bn h;obtain ⟨h16,h⟩:=h
   replace h:=ob h;obtain ⟨r61,h17,h⟩:=h
   replace h17:=us1 (q:=q) (M:=M) (by omega) h17 10
   try simp only [kf,simprocAttr] at h17
   replace h:=z23 M (by omega) (M+11) (by omega) j (by omega) _ _ _ _ _ _ _ _ _ _ _ _ _ _ _ _ _ _ _ _ _ _ _ _ _ _ _ _ _ _ _ _ _ _ _ _ _ h R hR
   simp (maxDischargeDepth:=12) only [z2s,simprocAttr,beq_self_eq_true, *]
  ·replace h:=z25 M (by omega) j (by omega) _ _ _ _ _ _ _ _ _ _ _ _ _ _ _ _ _ _ _ _ _ _ _ _ _ _ _ _ _ _ _ _ _ _ _ h R hR
   simp (maxDischargeDepth:=12) only [z2s,simprocAttr,beq_self_eq_true, *]
 ·replace h:=bm h;obtain ⟨h18,h⟩:=h
  replace h:=bm h;obtain ⟨h19,h⟩:=h
  replace h:=bm h;obtain ⟨h20,h⟩:=h
  replace h:=bn h;obtain ⟨h21,h⟩:=h
  replace h:=bn h;obtain ⟨h22,h⟩:=h
  replace h:=bn h;obtain ⟨h23,h⟩:=h
  replace h:=bb h;rcases h with ⟨h24',h24,h⟩ | ⟨h24',h24,h⟩
  ·cases h
  ·replace h:=ob h;obtain ⟨r62,h25,h⟩:=h
   replace h25:=us1 (q:=q) (M:=M) (by omega) h25 10
   try simp only [kf,simprocAttr] at h25
   replace h:=bm h;obtain ⟨h26,h⟩:=h
   replace h:=bm h;obtain ⟨h27,h⟩:=h
   replace h:=bm h;obtain ⟨h28,h⟩:=h
   replace h:=bn h;obtain ⟨h29,h⟩:=h
   replace h:=bn h;obtain ⟨h30,h⟩:=h
   replace h:=bn h;obtain ⟨h31,h⟩:=h
   replace h:=ob h;obtain ⟨r63,h32,h⟩:=h
   replace h32:=us1 (q:=q) (M:=M) (by omega) h32 10
   try simp only [kf,simprocAttr] at h32
   replace h:=ob h;obtain ⟨r64,h33,h⟩:=h
   replace h33:=us1 (q:=q) (M:=M) (by omega) h33 11
   try simp only [kf,simprocAttr] at h33
   replace h:=bb h;rcases h with ⟨h34',h34,h⟩ | ⟨h34',h34,h⟩
   ·replace h:=ob h;obtain ⟨r65,h35,h⟩:=h
    replace h35:=us1 (q:=q) (M:=M) (by omega) h35 10
    try simp only [kf,simprocAttr] at h35
    replace h:=ob h;obtain ⟨r66,h36,h⟩:=h
    replace h36:=us1 (q:=q) (M:=M) (by omega) h36 10
    try simp only [kf,simprocAttr] at h36
    replace h:=ob h;obtain ⟨r67,h37,h⟩:=h
    replace h37:=us1 (q:=q) (M:=M) (by omega) h37 11
    try simp only [kf,simprocAttr] at h37
    cases h;subst hR;simp (maxDischargeDepth:=12) only [z2s,simprocAttr,beq_self_eq_true, *]
   ·cases h;subst hR;simp (maxDischargeDepth:=12) only [z2s,simprocAttr,beq_self_eq_true, *]
theorem z2x (q:Nat) (z24:z2p q) (z26:z2r q):z2r (q+1):=by
 intro M hM j hj v1z v1l v13 h0_1 h0_2len h0_5 h0_6 h0_7 h0_8 h0_9z h0_9l h0_10 h0_11 h0_12z h0_12l h1_1 h1_2len h1_5 h1_6 h1_7 h1_8 h1_9z h1_9l h1_10 h1_11 h1_12z h1_12l h1_13 h1_14 h2d h3l h4l h5z h5l h6d h7l h8l h9z h9l r h R hR fr H hc
 obtain ⟨j,rfl⟩: ∃i,j=i+1:=⟨j - 1,by omega⟩
 rw [zhw,hc];clear hc
 rw [zn6] at h
 replace h:=br h;rcases h with ⟨h1,h⟩ | ⟨h1,h⟩
 ·replace h:=bn h;obtain ⟨h2,h⟩:=h
  replace h:=ob h;obtain ⟨e68,h3,h⟩:=h
  replace h:=ob h;obtain ⟨r69,h4,h⟩:=h
  replace h4:=us1 (q:=q) (M:=M) (by omega) h4 11
  try simp only [kf,simprocAttr] at h4
  replace h:=ob h;obtain ⟨r70,h5,h⟩:=h
  replace h5:=us1 (q:=q) (M:=M) (by omega) h5 10
  try simp only [kf,simprocAttr] at h5
  replace h:=br h;rcases h with ⟨h6,h⟩ | ⟨h6,h⟩
  ·replace h:=bn h;obtain ⟨h7,h⟩:=h
   replace h:=ob h;obtain ⟨e71,h8,h⟩:=h
   replace h:=bn h;obtain ⟨h9,h⟩:=h
   replace h:=ob h;obtain ⟨r72,h10,h⟩:=h
   replace h10:=us1 (q:=q) (M:=M) (by omega) h10 10
   try simp only [kf,simprocAttr] at h10
   replace h:=ob h;obtain ⟨e73,h11,h⟩:=h
   replace h:=bn h;obtain ⟨h12,h⟩:=h
   replace h:=bn h;obtain ⟨h13,h⟩:=h
   replace h:=bn h;obtain ⟨h14,h⟩:=h
   replace h:=ob h;obtain ⟨e74,h15,h⟩:=h
   replace h:=bn h;obtain ⟨h16,h⟩:=h
   replace h:=ob h;obtain ⟨r75,h17,h⟩:=h
   replace h17:=us1 (q:=q) (M:=M) (by omega) h17 10
   try simp only [kf,simprocAttr] at h17
   replace h:=z24 M (by omega) (M+11) (by omega) j (by omega) _ _ _ _ _ _ _ _ _ _ _ _ _ _ _ _ _ _ _ _ _ _ _ _ _ _ _ _ _ _ _ _ _ _ _ _ _ _ _ _ _ _ _ h R hR
   simp (maxDischargeDepth:=12) only [z2s,simprocAttr,beq_self_eq_true, *]
  ·replace h:=z26 M (by omega) j (by omega) _ _ _ _ _ _ _ _ _ _ _ _ _ _ _ _ _ _ _ _ _ _ _ _ _ _ _ _ _ _ _ _ _ _ _ _ _ _ _ _ h R hR
   simp (maxDischargeDepth:=12) only [z2s,simprocAttr,beq_self_eq_true, *]
 ·replace h:=bm h;obtain ⟨h18,h⟩:=h
  replace h:=bm h;obtain ⟨h19,h⟩:=h
  replace h:=bm h;obtain ⟨h20,h⟩:=h
  replace h:=bn h;obtain ⟨h21,h⟩:=h
  replace h:=bn h;obtain ⟨h22,h⟩:=h
  replace h:=bn h;obtain ⟨h23,h⟩:=h
  replace h:=bb h;rcases h with ⟨h24',h24,h⟩ | ⟨h24',h24,h⟩
  ·cases h
  ·replace h:=ob h;obtain ⟨r76,h25,h⟩:=h
   replace h25:=us1 (q:=q) (M:=M) (by omega) h25 10
   try simp only [kf,simprocAttr] at h25
   replace h:=bm h;obtain ⟨h26,h⟩:=h
   replace h:=bm h;obtain ⟨h27,h⟩:=h
   replace h:=bm h;obtain ⟨h28,h⟩:=h
   replace h:=bn h;obtain ⟨h29,h⟩:=h
   replace h:=bn h;obtain ⟨h30,h⟩:=h
   replace h:=bn h;obtain ⟨h31,h⟩:=h
   replace h:=bb h;rcases h with ⟨h32',h32,h⟩ | ⟨h32',h32,h⟩
   ·cases h
   ·replace h:=ob h;obtain ⟨r77,h33,h⟩:=h
    replace h33:=us1 (q:=q) (M:=M) (by omega) h33 10
    try simp only [kf,simprocAttr] at h33
    replace h:=ob h;obtain ⟨r78,h34,h⟩:=h
    replace h34:=us1 (q:=q) (M:=M) (by omega) h34 11
    try simp only [kf,simprocAttr] at h34
    replace h:=bb h;rcases h with ⟨h35',h35,h⟩ | ⟨h35',h35,h⟩
    ·replace h:=ob h;obtain ⟨r79,h36,h⟩:=h
     replace h36:=us1 (q:=q) (M:=M) (by omega) h36 10
     try simp only [kf,simprocAttr] at h36
     replace h:=ob h;obtain ⟨r80,h37,h⟩:=h
     replace h37:=us1 (q:=q) (M:=M) (by omega) h37 10
     try simp only [kf,simprocAttr] at h37
     replace h:=ob h;obtain ⟨r81,h38,h⟩:=h
     replace h38:=us1 (q:=q) (M:=M) (by omega) h38 11
     try simp only [kf,simprocAttr] at h38
     cases h;subst hR;simp (maxDischargeDepth:=12) only [z2s,simprocAttr,beq_self_eq_true, *]
    ·cases h;subst hR;simp (maxDischargeDepth:=12) only [z2s,simprocAttr,beq_self_eq_true, *]
theorem z2y: ∀q,z2n q/\z2o q/\z2p q/\z2q q/\z2r q
 | 0=>by refine ⟨?_,?_,?_,?_,?_⟩<;>(intro M hM j hj;intros;rename_i h;first | (cases h;done) | simp only [zn9.eq_1,zn7.eq_1,zn5.eq_1,zn8.eq_1,zn6.eq_1,reduceCtorEq] at h)
 | q+1=>by have ⟨i0,i1,i2,i3,i4⟩:=z2y q;exact ⟨z2t q i0 i1,z2u q i2 i3,z2v q i2 i4,z2w q i1 i3,z2x q i2 i4⟩
instance z2z (a0:Int) (a1:(Sl zlf)): ∀q,Aq q (zoa q a0 a1) (Dp T 3 [(V.int .i64) a0,(Sl.enc zlf.enc) a1] fun r=>[V.bool r]):=sndo (fun q=>zoa.eq_2 ..) (hs:=by
 intro q M hM r h R hR
 have z22:=(z2y q).1
 replace h:=ob h;obtain ⟨r1,h1,h⟩:=h
 replace h1:=us1 (q:=q) (M:=M) (by omega) h1 11
 try simp only [kf,simprocAttr] at h1
 replace h:=ob h;obtain ⟨r2,h2,h⟩:=h
 replace h2:=us1 (q:=q) (M:=M) (by omega) h2 11
 try simp only [kf,simprocAttr] at h2
 replace h:=bb h;rcases h with ⟨h3',h3,h⟩ | ⟨h3',h3,h⟩
 ·replace h:=bb h;rcases h with ⟨h4',h4,h⟩ | ⟨h4',h4,h⟩
  ·replace h:=br h;rcases h with ⟨h5,h⟩ | ⟨h5,h⟩
   ·cases h;subst hR;simp (maxDischargeDepth:=12) only [z2s,simprocAttr,beq_self_eq_true, *]
   ·replace h:=br h;rcases h with ⟨h6,h⟩ | ⟨h6,h⟩
    ·cases h;subst hR;simp (maxDischargeDepth:=12) only [z2s,simprocAttr,beq_self_eq_true, *]
    ·replace h:=bb h;rcases h with ⟨h7',h7,h⟩ | ⟨h7',h7,h⟩
     ·cases h;subst hR;simp (maxDischargeDepth:=12) only [z2s,simprocAttr,beq_self_eq_true, *]
     ·replace h:=ob h;obtain ⟨r3,h8,h⟩:=h
      replace h8:=z2f q M (by omega) _ _ _ _ h8
      try simp only [kf,simprocAttr] at h8
      replace h:=ob h;obtain ⟨r4,h9,h⟩:=h
      replace h9:=us1 (q:=q) (M:=M) (by omega) h9 8
      try simp only [kf,simprocAttr] at h9
      replace h:=ob h;obtain ⟨r5,h10,h⟩:=h
      replace h10:=us1 (q:=q) (M:=M) (by omega) h10 8
      try simp only [kf,simprocAttr] at h10
      replace h:=bm h;obtain ⟨h11,h⟩:=h
      replace h:=bm h;obtain ⟨h12,h⟩:=h
      replace h:=bn h;obtain ⟨h13,h⟩:=h
      replace h:=bn h;obtain ⟨h14,h⟩:=h
      replace h:=ob h;obtain ⟨r6,h15,h⟩:=h
      replace h15:=us1 (q:=q) (M:=M) (by omega) h15 9
      try simp only [kf,simprocAttr] at h15
      replace h:=bn h;obtain ⟨h16,h⟩:=h
      replace h:=ob h;obtain ⟨r7,h17,h⟩:=h
      replace h17:=z2m q M (by omega) 0 _ _ _ _ _ _ _ _ _ _ _ _ _ _ _ _ _ h17
      try simp only [kf,simprocAttr] at h17
      replace h:=ob h;obtain ⟨r8,h18,h⟩:=h
      replace h18:=us1 (q:=q) (M:=M) (by omega) h18 8
      try simp only [kf,simprocAttr] at h18
      replace h:=ob h;obtain ⟨r9,h19,h⟩:=h
      replace h19:=us1 (q:=q) (M:=M) (by omega) h19 8
      try simp only [kf,simprocAttr] at h19
      replace h:=bm h;obtain ⟨h20,h⟩:=h
      replace h:=bm h;obtain ⟨h21,h⟩:=h
      replace h:=bn h;obtain ⟨h22,h⟩:=h
      replace h:=bn h;obtain ⟨h23,h⟩:=h
      replace h:=ob h;obtain ⟨r10,h24,h⟩:=h
      replace h24:=us1 (q:=q) (M:=M) (by omega) h24 9
      try simp only [kf,simprocAttr] at h24
      replace h:=bn h;obtain ⟨h25,h⟩:=h
      replace h:=z22 M (by omega) (M+11) (by omega) _ _ _ _ _ _ _ _ _ _ _ _ _ _ _ _ _ _ _ _ _ _ _ _ _ _ _ _ _ _ _ _ h R hR
      simp (maxDischargeDepth:=12) only [z2s,simprocAttr,beq_self_eq_true, *]
  ·cases h;subst hR;simp (maxDischargeDepth:=12) only [z2s,simprocAttr,beq_self_eq_true, *]
 ·cases h;subst hR;simp (maxDischargeDepth:=12) only [z2s,simprocAttr,beq_self_eq_true, *])
end Go.Dvm.C
