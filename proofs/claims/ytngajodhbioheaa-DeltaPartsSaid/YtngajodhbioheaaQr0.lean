/- The machine comes to these answers: part 1. -/
import Derived.Test.YtngajodhbioheaaQl0
set_option linter.all false
set_option maxRecDepth 100000
set_option maxHeartbeats 4000000
namespace Go.Dvm.C
open Go Go.Dvm Go.Dvm.I
def zyd := And.intro @kk <| And.intro @ke <| And.intro @kn <| And.intro @zwz <| @zw1
theorem zye : ∀ (q N : Nat), 8 * q ≤ N → ∀ (a0 r : Int), zjk q a0 = some r → (orc T N).deep F.zjk [(V.int .i64) a0] = some [(V.int .i64) r] := by
 intro q N hM a0 r h
 rcases q with _ | q
 ·cases h
 obtain ⟨M, rfl⟩ : ∃ M, N = M + 8 := ⟨N - 8, by omega⟩
 generalize hR : some [(V.int .i64) r] = R
 rw [zhv, zuc, y6, zht]
 rw [zjk] at h
 cases h; subst hR; simp only [zyd, simprocAttr, *]
def zyf := And.intro @kk <| And.intro @ke <| And.intro @kn <| And.intro @zww <| And.intro @zw0 <| @zwy
theorem zyg : ∀ (q N : Nat), 8 * q ≤ N → ∀ (a0 : Int), ∀ (r : Bool), zjl q a0 = some r → (orc T N).deep F.zjl [(V.int .i64) a0] = some [V.bool r] := by
 intro q N hM a0 r h
 rcases q with _ | q
 ·cases h
 obtain ⟨M, rfl⟩ : ∃ M, N = M + 8 := ⟨N - 8, by omega⟩
 generalize hR : some [V.bool r] = R
 rw [zhv, zub, y6, zht]
 rw [zjl] at h
 replace h := ob h; obtain ⟨r1, h1, h⟩ := h
 replace h1 := zye q (M + 7) (by omega) _ _ h1
 cases h; subst hR; simp only [zyf, simprocAttr, *]
def zyh (q : Nat) : Prop := ∀ (M : Nat) (hM : 8 * q ≤ M) (j : Nat) (hj : q ≤ j) (v0z : Bool) (v0l : List Int) (v1 v5 v6 : Int) (r : Bool) (_ : zjm q v0z v0l v1 v5 v6 = some r) (R : Option (List V)) (_ : some [V.bool r] = R) (fr : Fr) (H : Hp) (_ : canon 0 [0, 1, 5, 6] fr H = ([(0, (.sl v0z (List.map (V.int .i64) v0l))), (1, (.int .i64 v1)), (5, (.int .i64 v5)), (6, (.int .i64 v6))], [])), fin zsi (unw T (orc T (M + 7)) (M + 7) 0 [.blk 0, .code zse] (iter 0 [0, 1, 5, 6] (exec T (orc T (M + 7)) (M + 7) 0 zsb) j fr H)) = R
def zyi := And.intro @kk <| And.intro @ke <| And.intro @kn <| And.intro @zw2 <| @zw4
theorem zyj (q : Nat) (z1m : zyh q) : zyh (q + 1) := by
 intro M hM j hj v0z v0l v1 v5 v6 r h R hR fr H hc
 obtain ⟨j, rfl⟩ : ∃ i, j = i + 1 := ⟨j - 1, by omega⟩
 rw [zhm, hc]; clear hc
 rw [zjm] at h
 replace h := br h; rcases h with ⟨h1, h⟩ | ⟨h1, h⟩
 ·replace h := bn h; obtain ⟨h2, h⟩ := h
  replace h := ob h; obtain ⟨e1, h3, h⟩ := h
  replace h := br h; rcases h with ⟨h4, h⟩ | ⟨h4, h⟩
  ·cases h; subst hR; simp only [zyi, simprocAttr, *]
  ·replace h := br h; rcases h with ⟨h5, h⟩ | ⟨h5, h⟩
   ·cases h; subst hR; simp only [zyi, simprocAttr, *]
   ·replace h := bn h; obtain ⟨h6, h⟩ := h
    replace h := ob h; obtain ⟨e2, h7, h⟩ := h
    replace h := br h; rcases h with ⟨h8, h⟩ | ⟨h8, h⟩
    ·cases h; subst hR; simp only [zyi, simprocAttr, *]
    ·replace h := br h; rcases h with ⟨h9, h⟩ | ⟨h9, h⟩
     ·cases h; subst hR; simp only [zyi, simprocAttr, *]
     ·replace h := z1m M (by omega) j (by omega) _ _ _ _ _ _ h R hR
      simp only [zyi, simprocAttr, *]
 ·replace h := br h; rcases h with ⟨h10, h⟩ | ⟨h10, h⟩
  ·cases h; subst hR; simp only [zyi, simprocAttr, *]
  ·cases h; subst hR; simp only [zyi, simprocAttr, *]
theorem zyk : ∀ q, zyh q
 | 0 => by intro M hM j hj; intros; rename_i h _ _ _ _ _; cases h
 | q + 1 => by have i0 := zyk q; exact zyj q i0
theorem zyl : ∀ (q N : Nat), 8 * q ≤ N → ∀ (a0 : (Sl Int)) (a1 : Int), ∀ (r : Bool), zjn q a0 a1 = some r → (orc T N).deep F.zjn [(Sl.enc (V.int .i64)) a0, (V.int .i64) a1] = some [V.bool r] := by
 intro q N hM a0 a1 r h
 rcases q with _ | q
 ·cases h
 obtain ⟨M, rfl⟩ : ∃ M, N = M + 8 := ⟨N - 8, by omega⟩
 have z1m := (zyk q)
 generalize hR : some [V.bool r] = R
 rw [zhv, zud, y6, zht]
 rw [zjn] at h
 replace h := z1m M (by omega) (M + 7) (by omega) _ _ _ _ _ _ h R hR
 simp only [zyi, simprocAttr, *]
def zym (q : Nat) : Prop := ∀ (M : Nat) (hM : 8 * q ≤ M) (j : Nat) (hj : q ≤ j) (v0z : Bool) (v0l : List Int) (v7 v8 h0_0 : Int) (h0_1z : Bool) (h0_1l : List Int) (h0_2 : Bool) (h0_3 r : Int) (_ : zjo q v0z v0l v7 v8 h0_0 h0_1z h0_1l h0_2 h0_3 = some r) (R : Option (List V × Hp)) (_ : (some ([(.int .i64 r)], [(.box [(.int .i64 h0_0), (.sl h0_1z (List.map (V.int .i64) h0_1l)), (.bool h0_2), (.int .i64 h0_3)])]) : Option (List V × Hp)) = R) (fr : Fr) (H : Hp) (_ : canon 1 [0, 1, 7, 8] fr H = ([(0, (.sl v0z (List.map (V.int .i64) v0l))), (1, (.fn F.zjl [])), (7, (.int .i64 v7)), (8, (.int .i64 v8))], [(.box [(.int .i64 h0_0), (.sl h0_1z (List.map (V.int .i64) h0_1l)), (.bool h0_2), (.int .i64 h0_3)])])), finI 1 false [.tmp 4] (unw T (orc T (M + 5)) (M + 5) 1 [.blk 0, .code zte] (iter 1 [0, 1, 7, 8] (exec T (orc T (M + 5)) (M + 5) 1 ztb) j fr H)) = R
def zyn := And.intro @kk <| And.intro @ke <| And.intro @kn <| And.intro @zxb <| @zwx
theorem zyo (q : Nat) (z1n : zym q) : zym (q + 1) := by
 intro M hM j hj v0z v0l v7 v8 h0_0 h0_1z h0_1l h0_2 h0_3 r h R hR fr H hc
 obtain ⟨j, rfl⟩ : ∃ i, j = i + 1 := ⟨j - 1, by omega⟩
 rw [zhm, hc]; clear hc
 rw [zjo] at h
 replace h := br h; rcases h with ⟨h1, h⟩ | ⟨h1, h⟩
 ·replace h := bn h; obtain ⟨h2, h⟩ := h
  replace h := ob h; obtain ⟨e1, h3, h⟩ := h
  replace h := ob h; obtain ⟨r2, h4, h⟩ := h
  replace h4 := zyg q (M + 5) (by omega) _ _ h4
  replace h := bb h; rcases h with ⟨h5', h5, h⟩ | ⟨h5', h5, h⟩
  ·cases h; subst hR; simp only [zyn, simprocAttr, *]
  ·replace h := z1n M (by omega) j (by omega) _ _ _ _ _ _ _ _ _ _ h R hR
   simp only [zyn, simprocAttr, *]
 ·cases h; subst hR; simp only [zyn, simprocAttr, *]
theorem zyp : ∀ q, zym q
 | 0 => by intro M hM j hj; intros; rename_i h _ _ _ _ _; cases h
 | q + 1 => by have i0 := zyp q; exact zyo q i0
theorem zyq : ∀ (q M : Nat), 8 * q ≤ M → ∀ (v0z : Bool), ∀ (v0l : List Int), ∀ (h0_0 : Int), ∀ (h0_1z : Bool), ∀ (h0_1l : List Int), ∀ (h0_2 : Bool), ∀ (h0_3 r : Int), zjp q v0z v0l h0_0 h0_1z h0_1l h0_2 h0_3 = some r → (orc T (M + 6)).inl F.zk8 [(.sl v0z (List.map (V.int .i64) v0l)), (.fn F.zjl [])] [(.box [(.int .i64 h0_0), (.sl h0_1z (List.map (V.int .i64) h0_1l)), (.bool h0_2), (.int .i64 h0_3)])] = (some ([(.int .i64 r)], [(.box [(.int .i64 h0_0), (.sl h0_1z (List.map (V.int .i64) h0_1l)), (.bool h0_2), (.int .i64 h0_3)])]) : Option (List V × Hp)) := by
 intro q M hM v0z v0l h0_0 h0_1z h0_1l h0_2 h0_3 r h
 rcases q with _ | q
 ·cases h
 have z1n := (zyp q)
 generalize hR : (some ([(.int .i64 r)], [(.box [(.int .i64 h0_0), (.sl h0_1z (List.map (V.int .i64) h0_1l)), (.bool h0_2), (.int .i64 h0_3)])]) : Option (List V × Hp)) = R
 rw [zxd (n := M + 5)]
 rw [zjp] at h
 replace h := z1n M (by omega) (M + 5) (by omega) _ _ _ _ _ _ _ _ _ _ h R hR
 simp only [zyn, simprocAttr, *]
def zyr := And.intro @kk <| And.intro @ke <| And.intro @kn <| And.intro @zvt <| And.intro @zwt <| And.intro @zw3 <| And.intro @zxc <| And.intro @zwu <| And.intro @zwv <| @zvv
theorem zys : ∀ (q N : Nat), 8 * q ≤ N → ∀ (a0 : zjd), ∀ (r : Bool), zjq q a0 = some r → (orc T N).deep F.zjq [zjd.enc a0] = some [V.bool r] := by
 intro q N hM a0 r h
 rcases q with _ | q
 ·cases h
 obtain ⟨M, rfl⟩ : ∃ M, N = M + 8 := ⟨N - 8, by omega⟩
 generalize hR : some [V.bool r] = R
 rw [zhv, zty, y6, zht]
 rw [zjq] at h
 replace h := br h; rcases h with ⟨h1, h⟩ | ⟨h1, h⟩
 ·cases h; subst hR; simp only [zyr, simprocAttr, *]
 ·replace h := br h; rcases h with ⟨h2, h⟩ | ⟨h2, h⟩
  ·cases h; subst hR; simp only [zyr, simprocAttr, *]
  ·replace h := bb h; rcases h with ⟨h3', h3, h⟩ | ⟨h3', h3, h⟩
   ·replace h := ob h; obtain ⟨r1, h4, h⟩ := h
    replace h4 := zyq q M (by omega) _ _ _ _ _ _ _ _ h4
    try simp only [kf, simprocAttr] at h4
    replace h := br h; rcases h with ⟨h5, h⟩ | ⟨h5, h⟩
    ·replace h := br h; rcases h with ⟨h6, h⟩ | ⟨h6, h⟩
     ·cases h; subst hR; simp only [zyr, simprocAttr, *]
     ·cases h; subst hR; simp only [zyr, simprocAttr, *]
    ·replace h := br h; rcases h with ⟨h7, h⟩ | ⟨h7, h⟩
     ·replace h := br h; rcases h with ⟨h8, h⟩ | ⟨h8, h⟩
      ·cases h; subst hR; simp only [zyr, simprocAttr, *]
      ·cases h; subst hR; simp only [zyr, simprocAttr, *]
     ·replace h := br h; rcases h with ⟨h9, h⟩ | ⟨h9, h⟩
      ·replace h := br h; rcases h with ⟨h10, h⟩ | ⟨h10, h⟩
       ·cases h; subst hR; simp only [zyr, simprocAttr, *]
       ·cases h; subst hR; simp only [zyr, simprocAttr, *]
      ·replace h := br h; rcases h with ⟨h11, h⟩ | ⟨h11, h⟩
       ·replace h := br h; rcases h with ⟨h12, h⟩ | ⟨h12, h⟩
        ·cases h; subst hR; simp only [zyr, simprocAttr, *]
        ·cases h; subst hR; simp only [zyr, simprocAttr, *]
       ·replace h := br h; rcases h with ⟨h13, h⟩ | ⟨h13, h⟩
        ·replace h := ob h; obtain ⟨r2, h14, h⟩ := h
         replace h14 := zyl q (M + 7) (by omega) _ _ _ h14
         try simp only [kf, simprocAttr] at h14
         cases h; subst hR; simp only [zyr, simprocAttr, *]
        ·replace h := br h; rcases h with ⟨h15, h⟩ | ⟨h15, h⟩
         ·replace h := ob h; obtain ⟨r3, h16, h⟩ := h
          replace h16 := zyl q (M + 7) (by omega) _ _ _ h16
          try simp only [kf, simprocAttr] at h16
          cases h; subst hR; simp only [zyr, simprocAttr, *]
         ·cases h; subst hR; simp only [zyr, simprocAttr, *]
   ·replace h := br h; rcases h with ⟨h17, h⟩ | ⟨h17, h⟩
    ·replace h := ob h; obtain ⟨r4, h18, h⟩ := h
     replace h18 := zyq q M (by omega) _ _ _ _ _ _ _ _ h18
     try simp only [kf, simprocAttr] at h18
     replace h := br h; rcases h with ⟨h19, h⟩ | ⟨h19, h⟩
     ·replace h := br h; rcases h with ⟨h20, h⟩ | ⟨h20, h⟩
      ·cases h; subst hR; simp only [zyr, simprocAttr, *]
      ·cases h; subst hR; simp only [zyr, simprocAttr, *]
     ·replace h := br h; rcases h with ⟨h21, h⟩ | ⟨h21, h⟩
      ·replace h := br h; rcases h with ⟨h22, h⟩ | ⟨h22, h⟩
       ·cases h; subst hR; simp only [zyr, simprocAttr, *]
       ·cases h; subst hR; simp only [zyr, simprocAttr, *]
      ·replace h := br h; rcases h with ⟨h23, h⟩ | ⟨h23, h⟩
       ·replace h := br h; rcases h with ⟨h24, h⟩ | ⟨h24, h⟩
        ·cases h; subst hR; simp only [zyr, simprocAttr, *]
        ·cases h; subst hR; simp only [zyr, simprocAttr, *]
       ·replace h := br h; rcases h with ⟨h25, h⟩ | ⟨h25, h⟩
        ·replace h := br h; rcases h with ⟨h26, h⟩ | ⟨h26, h⟩
         ·cases h; subst hR; simp only [zyr, simprocAttr, *]
         ·cases h; subst hR; simp only [zyr, simprocAttr, *]
        ·replace h := br h; rcases h with ⟨h27, h⟩ | ⟨h27, h⟩
         ·replace h := ob h; obtain ⟨r5, h28, h⟩ := h
          replace h28 := zyl q (M + 7) (by omega) _ _ _ h28
          try simp only [kf, simprocAttr] at h28
          cases h; subst hR; simp only [zyr, simprocAttr, *]
         ·replace h := br h; rcases h with ⟨h29, h⟩ | ⟨h29, h⟩
          ·replace h := ob h; obtain ⟨r6, h30, h⟩ := h
           replace h30 := zyl q (M + 7) (by omega) _ _ _ h30
           try simp only [kf, simprocAttr] at h30
           cases h; subst hR; simp only [zyr, simprocAttr, *]
          ·cases h; subst hR; simp only [zyr, simprocAttr, *]
    ·cases h; subst hR; simp only [zyr, simprocAttr, *]
def zyt := And.intro @kk <| And.intro @ke <| And.intro @kn <| And.intro @zw5 <| @zw7
theorem zyu : ∀ (q N : Nat), 8 * q ≤ N → ∀ (a0 : zje), ∀ (r : Bool), zjr q a0 = some r → (orc T N).deep F.zjr [zje.enc a0] = some [V.bool r] := by
 intro q N hM a0 r h
 rcases q with _ | q
 ·cases h
 obtain ⟨M, rfl⟩ : ∃ M, N = M + 8 := ⟨N - 8, by omega⟩
 generalize hR : some [V.bool r] = R
 rw [zhv, zue, y6, zht]
 rw [zjr] at h
 replace h := br h; rcases h with ⟨h1, h⟩ | ⟨h1, h⟩
 ·replace h := br h; rcases h with ⟨h2, h⟩ | ⟨h2, h⟩
  ·replace h := br h; rcases h with ⟨h3, h⟩ | ⟨h3, h⟩
   ·replace h := br h; rcases h with ⟨h4, h⟩ | ⟨h4, h⟩
    ·replace h := br h; rcases h with ⟨h5, h⟩ | ⟨h5, h⟩
     ·cases h; subst hR; simp only [zyt, simprocAttr, *]
     ·cases h; subst hR; simp only [zyt, simprocAttr, *]
    ·cases h; subst hR; simp only [zyt, simprocAttr, *]
   ·cases h; subst hR; simp only [zyt, simprocAttr, *]
  ·cases h; subst hR; simp only [zyt, simprocAttr, *]
 ·cases h; subst hR; simp only [zyt, simprocAttr, *]
def zyv (q : Nat) : Prop := ∀ (M : Nat) (hM : 8 * q ≤ M) (j : Nat) (hj : q ≤ j) (v0z : Bool) (v0l : List zje) (v5z : Bool) (v5l : List zje) (v6 v7 : Int) (r : Bool) (_ : zjs q v0z v0l v5z v5l v6 v7 = some r) (R : Option (List V)) (_ : some [V.bool r] = R) (fr : Fr) (H : Hp) (_ : canon 0 [0, 5, 6, 7] fr H = ([(0, (.sl v0z (List.map zje.enc v0l))), (5, (.sl v5z (List.map zje.enc v5l))), (6, (.int .i64 v6)), (7, (.int .i64 v7))], [])), fin zop (unw T (orc T (M + 7)) (M + 7) 0 [.blk 0, .code zom] (iter 0 [0, 5, 6, 7] (exec T (orc T (M + 7)) (M + 7) 0 zoj) j fr H)) = R
def zyw := And.intro @kk <| And.intro @ke <| And.intro @kn <| And.intro @zvw <| And.intro @zw6 <| @zvy
theorem zyx (q : Nat) (z1o : zyv q) : zyv (q + 1) := by
 intro M hM j hj v0z v0l v5z v5l v6 v7 r h R hR fr H hc
 obtain ⟨j, rfl⟩ : ∃ i, j = i + 1 := ⟨j - 1, by omega⟩
 rw [zhm, hc]; clear hc
 rw [zjs] at h
 replace h := br h; rcases h with ⟨h1, h⟩ | ⟨h1, h⟩
 ·replace h := bn h; obtain ⟨h2, h⟩ := h
  replace h := ob h; obtain ⟨e1, h3, h⟩ := h
  replace h := ob h; obtain ⟨r2, h4, h⟩ := h
  replace h4 := zyu q (M + 7) (by omega) _ _ h4
  try simp only [kf, simprocAttr] at h4
  replace h := bb h; rcases h with ⟨h5', h5, h⟩ | ⟨h5', h5, h⟩
  ·replace h := br h; rcases h with ⟨h6, h⟩ | ⟨h6, h⟩
   ·replace h := bn h; obtain ⟨h7, h⟩ := h
    replace h := ob h; obtain ⟨e3, h8, h⟩ := h
    replace h := br h; rcases h with ⟨h9, h⟩ | ⟨h9, h⟩
    ·cases h; subst hR; simp only [zyw, simprocAttr, *]
    ·replace h := z1o M (by omega) j (by omega) _ _ _ _ _ _ _ h R hR
     simp only [zyw, simprocAttr, *]
   ·replace h := z1o M (by omega) j (by omega) _ _ _ _ _ _ _ h R hR
    simp only [zyw, simprocAttr, *]
  ·cases h; subst hR; simp only [zyw, simprocAttr, *]
 ·cases h; subst hR; simp only [zyw, simprocAttr, *]
theorem zyy : ∀ q, zyv q
 | 0 => by intro M hM j hj; intros; rename_i h _ _ _ _ _; cases h
 | q + 1 => by have i0 := zyy q; exact zyx q i0
theorem zyz : ∀ (q N : Nat), 8 * q ≤ N → ∀ (a0 : (Sl zje)), ∀ (r : Bool), zjt q a0 = some r → (orc T N).deep F.zjt [(Sl.enc zje.enc) a0] = some [V.bool r] := by
 intro q N hM a0 r h
 rcases q with _ | q
 ·cases h
 obtain ⟨M, rfl⟩ : ∃ M, N = M + 8 := ⟨N - 8, by omega⟩
 have z1o := (zyy q)
 generalize hR : some [V.bool r] = R
 rw [zhv, ztz, y6, zht]
 rw [zjt] at h
 replace h := z1o M (by omega) (M + 7) (by omega) _ _ _ _ _ _ _ h R hR
 simp only [zyw, simprocAttr, *]
def zy0 := And.intro @kk <| And.intro @ke <| And.intro @kn <| And.intro @zut <| And.intro @zvu <| And.intro @zvx <| @zuv
theorem zy1 : ∀ (q N : Nat), 8 * q ≤ N → ∀ (a0 : zjf), ∀ (r : Bool), zju q a0 = some r → (orc T N).deep F.zju [zjf.enc a0] = some [V.bool r] := by
 intro q N hM a0 r h
 rcases q with _ | q
 ·cases h
 obtain ⟨M, rfl⟩ : ∃ M, N = M + 8 := ⟨N - 8, by omega⟩
 generalize hR : some [V.bool r] = R
 rw [zhv, ztm, y6, zht]
 rw [zju] at h
 replace h := br h; rcases h with ⟨h1, h⟩ | ⟨h1, h⟩
 ·replace h := br h; rcases h with ⟨h2, h⟩ | ⟨h2, h⟩
  ·replace h := ob h; obtain ⟨r1, h3, h⟩ := h
   replace h3 := zys q (M + 7) (by omega) _ _ h3
   try simp only [kf, simprocAttr] at h3
   replace h := bb h; rcases h with ⟨h4', h4, h⟩ | ⟨h4', h4, h⟩
   ·replace h := ob h; obtain ⟨r2, h5, h⟩ := h
    replace h5 := zyz q (M + 7) (by omega) _ _ h5
    try simp only [kf, simprocAttr] at h5
    cases h; subst hR; simp only [zy0, simprocAttr, *]
   ·cases h; subst hR; simp only [zy0, simprocAttr, *]
  ·cases h; subst hR; simp only [zy0, simprocAttr, *]
 ·cases h; subst hR; simp only [zy0, simprocAttr, *]
def zy2 (q : Nat) : Prop := ∀ (M : Nat) (hM : 8 * q ≤ M) (j : Nat) (hj : q ≤ j) (v0z : Bool) (v0l : List zje) (v7 v8 h0_0 r : Int) (_ : zjv q v0z v0l v7 v8 h0_0 = some r) (R : Option (List V × Hp)) (_ : (some ([(.int .i64 r)], [(.box [(.int .i64 h0_0)])]) : Option (List V × Hp)) = R) (fr : Fr) (H : Hp) (_ : canon 1 [0, 1, 7, 8] fr H = ([(0, (.sl v0z (List.map zje.enc v0l))), (1, (.fn F.zk5 [(.ptr 0 0)])), (7, (.int .i64 v7)), (8, (.int .i64 v8))], [(.box [(.int .i64 h0_0)])])), finI 1 false [.tmp 4] (unw T (orc T (M + 6)) (M + 6) 1 [.blk 0, .code zqp] (iter 1 [0, 1, 7, 8] (exec T (orc T (M + 6)) (M + 6) 1 zqm) j fr H)) = R
def zy3 := And.intro @kk <| And.intro @ke <| And.intro @kn <| And.intro @zwe <| And.intro @zwq <| And.intro @zwr <| @zws
theorem zy4 (q : Nat) (z1p : zy2 q) : zy2 (q + 1) := by
 intro M hM j hj v0z v0l v7 v8 h0_0 r h R hR fr H hc
 obtain ⟨j, rfl⟩ : ∃ i, j = i + 1 := ⟨j - 1, by omega⟩
 rw [zhm, hc]; clear hc
 rw [zjv] at h
 replace h := br h; rcases h with ⟨h1, h⟩ | ⟨h1, h⟩
 ·replace h := bn h; obtain ⟨h2, h⟩ := h
  replace h := ob h; obtain ⟨e1, h3, h⟩ := h
  replace h := br h; rcases h with ⟨h4, h⟩ | ⟨h4, h⟩
  ·cases h; subst hR; simp only [zy3, simprocAttr, *]
  ·replace h := z1p M (by omega) j (by omega) _ _ _ _ _ _ h R hR
   simp only [zy3, simprocAttr, *]
 ·cases h; subst hR; simp only [zy3, simprocAttr, *]
theorem zy5 : ∀ q, zy2 q
 | 0 => by intro M hM j hj; intros; rename_i h _ _ _ _ _; cases h
 | q + 1 => by have i0 := zy5 q; exact zy4 q i0
theorem zy6 : ∀ (q M : Nat), 8 * q ≤ M → ∀ (v0z : Bool), ∀ (v0l : List zje), ∀ (h0_0 r : Int), zjw q v0z v0l h0_0 = some r → (orc T (M + 7)).inl F.zk3 [(.sl v0z (List.map zje.enc v0l)), (.fn F.zk5 [(.ptr 0 0)])] [(.box [(.int .i64 h0_0)])] = (some ([(.int .i64 r)], [(.box [(.int .i64 h0_0)])]) : Option (List V × Hp)) := by
 intro q M hM v0z v0l h0_0 r h
 rcases q with _ | q
 ·cases h
 have z1p := (zy5 q)
 generalize hR : (some ([(.int .i64 r)], [(.box [(.int .i64 h0_0)])]) : Option (List V × Hp)) = R
 rw [zwg (n := M + 6)]
 rw [zjw] at h
 replace h := z1p M (by omega) (M + 6) (by omega) _ _ _ _ _ _ h R hR
 simp only [zy3, simprocAttr, *]
def zy7 := And.intro @kk <| And.intro @ke <| And.intro @kn <| And.intro @zve <| And.intro @zwf <| @zvg
theorem zy8 : ∀ (q N : Nat), 8 * q ≤ N → ∀ (a0 : (Sl zje)) (a1 : Int), ∀ (r : Int), zjx q a0 a1 = some r → (orc T N).deep F.zjx [(Sl.enc zje.enc) a0, (V.int .i64) a1] = some [(V.int .i64) r] := by
 intro q N hM a0 a1 r h
 rcases q with _ | q
 ·cases h
 obtain ⟨M, rfl⟩ : ∃ M, N = M + 8 := ⟨N - 8, by omega⟩
 generalize hR : some [(V.int .i64) r] = R
 rw [zhv, ztt, y6, zht]
 rw [zjx] at h
 replace h := ob h; obtain ⟨r1, h1, h⟩ := h
 replace h1 := zy6 q M (by omega) _ _ _ _ h1
 try simp only [kf, simprocAttr] at h1
 cases h; subst hR; simp only [zy7, simprocAttr, *]
def zy9 (q : Nat) : Prop := ∀ (M : Nat) (hM : 8 * q ≤ M) (j : Nat) (hj : q ≤ j) (v0z : Bool) (v0l : List Int) (v1z : Bool) (v1l : List Int) (v5 r : Int) (_ : zjy q v0z v0l v1z v1l v5 = some r) (R : Option (List V)) (_ : some [(V.int .i64) r] = R) (fr : Fr) (H : Hp) (_ : canon 0 [0, 1, 5] fr H = ([(0, (.sl v0z (List.map (V.int .i64) v0l))), (1, (.sl v1z (List.map (V.int .i64) v1l))), (5, (.int .i64 v5))], [])), fin zno (unw T (orc T (M + 7)) (M + 7) 0 [.blk 0, .code c_48_9] (iter 0 [0, 1, 5] (exec T (orc T (M + 7)) (M + 7) 0 c_48_7) j fr H)) = R
def zza := And.intro @kk <| And.intro @ke <| And.intro @kn <| And.intro @zvk <| @zvm
theorem zzb (q : Nat) (z1q : zy9 q) : zy9 (q + 1) := by
 intro M hM j hj v0z v0l v1z v1l v5 r h R hR fr H hc
 obtain ⟨j, rfl⟩ : ∃ i, j = i + 1 := ⟨j - 1, by omega⟩
 rw [zhm, hc]; clear hc
 rw [zjy] at h
 replace h := br h; rcases h with ⟨h1, h⟩ | ⟨h1, h⟩
 ·replace h := br h; rcases h with ⟨h2, h⟩ | ⟨h2, h⟩
  ·replace h := bn h; obtain ⟨h3, h⟩ := h
   replace h := ob h; obtain ⟨e1, h4, h⟩ := h
   replace h := ob h; obtain ⟨e2, h5, h⟩ := h
   replace h := br h; rcases h with ⟨h6, h⟩ | ⟨h6, h⟩
   ·replace h := z1q M (by omega) j (by omega) _ _ _ _ _ _ h R hR
    simp only [zza, simprocAttr, *]
   ·cases h; subst hR; simp only [zza, simprocAttr, *]
  ·cases h; subst hR; simp only [zza, simprocAttr, *]
 ·cases h; subst hR; simp only [zza, simprocAttr, *]
theorem zzc : ∀ q, zy9 q
 | 0 => by intro M hM j hj; intros; rename_i h _ _ _ _ _; cases h
 | q + 1 => by have i0 := zzc q; exact zzb q i0
theorem zzd : ∀ (q N : Nat), 8 * q ≤ N → ∀ (a0 a1 : (Sl Int)), ∀ (r : Int), zjz q a0 a1 = some r → (orc T N).deep F.zjz [(Sl.enc (V.int .i64)) a0, (Sl.enc (V.int .i64)) a1] = some [(V.int .i64) r] := by
 intro q N hM a0 a1 r h
 rcases q with _ | q
 ·cases h
 obtain ⟨M, rfl⟩ : ∃ M, N = M + 8 := ⟨N - 8, by omega⟩
 have z1q := (zzc q)
 generalize hR : some [(V.int .i64) r] = R
 rw [zhv, ztv, y6, zht]
 rw [zjz] at h
 replace h := z1q M (by omega) (M + 7) (by omega) _ _ _ _ _ _ h R hR
 simp only [zza, simprocAttr, *]
def zze (q : Nat) : Prop := ∀ (M : Nat) (hM : 8 * q ≤ M) (j : Nat) (hj : q ≤ j) (v0z : Bool) (v0l : List Int) (v1z : Bool) (v1l : List Int) (v5 r : Int) (_ : zj0 q v0z v0l v1z v1l v5 = some r) (R : Option (List V)) (_ : some [(V.int .i64) r] = R) (fr : Fr) (H : Hp) (_ : canon 0 [0, 1, 5] fr H = ([(0, (.sl v0z (List.map (V.int .i64) v0l))), (1, (.sl v1z (List.map (V.int .i64) v1l))), (5, (.int .i64 v5))], [])), fin zns (unw T (orc T (M + 7)) (M + 7) 0 [.blk 0, .code c_49_9] (iter 0 [0, 1, 5] (exec T (orc T (M + 7)) (M + 7) 0 c_49_7) j fr H)) = R
def zzf := And.intro @kk <| And.intro @ke <| And.intro @kn <| And.intro @zvn <| @zvp
theorem zzg (q : Nat) (z1r : zze q) : zze (q + 1) := by
 intro M hM j hj v0z v0l v1z v1l v5 r h R hR fr H hc
 obtain ⟨j, rfl⟩ : ∃ i, j = i + 1 := ⟨j - 1, by omega⟩
 rw [zhm, hc]; clear hc
 rw [zj0] at h
 replace h := br h; rcases h with ⟨h1, h⟩ | ⟨h1, h⟩
 ·replace h := br h; rcases h with ⟨h2, h⟩ | ⟨h2, h⟩
  ·replace h := bn h; obtain ⟨h3, h⟩ := h
   replace h := ob h; obtain ⟨e1, h4, h⟩ := h
   replace h := bn h; obtain ⟨h5, h⟩ := h
   replace h := ob h; obtain ⟨e2, h6, h⟩ := h
   replace h := br h; rcases h with ⟨h7, h⟩ | ⟨h7, h⟩
   ·replace h := z1r M (by omega) j (by omega) _ _ _ _ _ _ h R hR
    simp only [zzf, simprocAttr, *]
   ·cases h; subst hR; simp only [zzf, simprocAttr, *]
  ·cases h; subst hR; simp only [zzf, simprocAttr, *]
 ·cases h; subst hR; simp only [zzf, simprocAttr, *]
theorem zzh : ∀ q, zze q
 | 0 => by intro M hM j hj; intros; rename_i h _ _ _ _ _; cases h
 | q + 1 => by have i0 := zzh q; exact zzg q i0
theorem zzi : ∀ (q N : Nat), 8 * q ≤ N → ∀ (a0 a1 : (Sl Int)), ∀ (r : Int), zj1 q a0 a1 = some r → (orc T N).deep F.zj1 [(Sl.enc (V.int .i64)) a0, (Sl.enc (V.int .i64)) a1] = some [(V.int .i64) r] := by
 intro q N hM a0 a1 r h
 rcases q with _ | q
 ·cases h
 obtain ⟨M, rfl⟩ : ∃ M, N = M + 8 := ⟨N - 8, by omega⟩
 have z1r := (zzh q)
 generalize hR : some [(V.int .i64) r] = R
 rw [zhv, ztw, y6, zht]
 rw [zj1] at h
 replace h := z1r M (by omega) (M + 7) (by omega) _ _ _ _ _ _ h R hR
 simp only [zzf, simprocAttr, *]
def zzj := And.intro @kk <| And.intro @ke <| And.intro @kn <| And.intro @zvq <| @zvs
theorem zzk : ∀ (q N : Nat), 8 * q ≤ N → ∀ (a0 : (Sl Int)), ∀ (r : (Ow Int)), zj2 q a0 = some r → (orc T N).deep F.zj2 [(Sl.enc (V.int .i64)) a0] = some [(Ow.enc 1 (V.int .i64)) r] := by
 intro q N hM a0 r h
 rcases q with _ | q
 ·cases h
 obtain ⟨M, rfl⟩ : ∃ M, N = M + 8 := ⟨N - 8, by omega⟩
 generalize hR : some [(Ow.enc 1 (V.int .i64)) r] = R
 rw [zhv, ztx, y6, zht]
 rw [zj2] at h
 replace h := bb h; rcases h with ⟨h1', h1, h⟩ | ⟨h1', h1, h⟩
 ·cases h; subst hR; simp only [zzj, simprocAttr, *]
 ·replace h := bn h; obtain ⟨h2, h⟩ := h
  cases h; subst hR; simp only [zzj, simprocAttr, *]
def zzl (q : Nat) : Prop := ∀ (M : Nat) (hM : 8 * q ≤ M) (j : Nat) (hj : q ≤ j) (v0z : Bool) (v0l : List zje) (v7 v8 h0_0 h0_1 : Int) (h0_2z : Bool) (h0_2l : List Int) (h0_3 : Bool) (h0_4 : Int) (h0_5z : Bool) (h0_5l : List zje) (h1_0 h1_1 : Int) (h1_2z : Bool) (h1_2l : List Int) (h1_3 : Bool) (h1_4 : Int) (h1_5z : Bool) (h1_5l : List zje) (r : Int) (_ : zj3 q v0z v0l v7 v8 h0_0 h0_1 h0_2z h0_2l h0_3 h0_4 h0_5z h0_5l h1_0 h1_1 h1_2z h1_2l h1_3 h1_4 h1_5z h1_5l = some r) (R : Option (List V × Hp)) (_ : (some ([(.int .i64 r)], [(.box [(.int .i64 h0_0), (.int .i64 h0_1), (.sl h0_2z (List.map (V.int .i64) h0_2l)), (.bool h0_3), (.int .i64 h0_4), (.sl h0_5z (List.map zje.enc h0_5l))]), (.box [(.int .i64 h1_0), (.int .i64 h1_1), (.sl h1_2z (List.map (V.int .i64) h1_2l)), (.bool h1_3), (.int .i64 h1_4), (.sl h1_5z (List.map zje.enc h1_5l))]), (.box [(.int .i64 0), (.int .i64 0), (.int .i64 0), (.int .i64 0), (.sl true []), (.bool false), (.int .i64 0), (.sl true [])])]) : Option (List V × Hp)) = R) (fr : Fr) (H : Hp) (_ : canon 3 [0, 1, 7, 8] fr H = ([(0, (.sl v0z (List.map zje.enc v0l))), (1, (.fn F.zkz [(.ptr 1 0)])), (7, (.int .i64 v7)), (8, (.int .i64 v8))], [(.box [(.int .i64 h0_0), (.int .i64 h0_1), (.sl h0_2z (List.map (V.int .i64) h0_2l)), (.bool h0_3), (.int .i64 h0_4), (.sl h0_5z (List.map zje.enc h0_5l))]), (.box [(.int .i64 h1_0), (.int .i64 h1_1), (.sl h1_2z (List.map (V.int .i64) h1_2l)), (.bool h1_3), (.int .i64 h1_4), (.sl h1_5z (List.map zje.enc h1_5l))]), (.box [(.int .i64 0), (.int .i64 0), (.int .i64 0), (.int .i64 0), (.sl true []), (.bool false), (.int .i64 0), (.sl true [])])])), finI 3 false [.tmp 4] (unw T (orc T (M + 5)) (M + 5) 3 [.blk 0, .code zqp] (iter 3 [0, 1, 7, 8] (exec T (orc T (M + 5)) (M + 5) 3 zqm) j fr H)) = R
def zzm := And.intro @kk <| And.intro @ke <| And.intro @kn <| And.intro @zvb <| And.intro @zwe <| And.intro @zvf <| And.intro @zvc <| @zvd
theorem zzn (q : Nat) (z1s : zzl q) : zzl (q + 1) := by
 intro M hM j hj v0z v0l v7 v8 h0_0 h0_1 h0_2z h0_2l h0_3 h0_4 h0_5z h0_5l h1_0 h1_1 h1_2z h1_2l h1_3 h1_4 h1_5z h1_5l r h R hR fr H hc
 obtain ⟨j, rfl⟩ : ∃ i, j = i + 1 := ⟨j - 1, by omega⟩
 rw [zhm, hc]; clear hc
 rw [zj3] at h
 replace h := br h; rcases h with ⟨h1, h⟩ | ⟨h1, h⟩
 ·replace h := bn h; obtain ⟨h2, h⟩ := h
  replace h := ob h; obtain ⟨e1, h3, h⟩ := h
  replace h := ob h; obtain ⟨r2, h4, h⟩ := h
  replace h4 := zy8 q (M + 4) (by omega) _ _ _ h4
  try simp only [kf, simprocAttr] at h4
  replace h := br h; rcases h with ⟨h5, h⟩ | ⟨h5, h⟩
  ·cases h; subst hR; simp only [zzm, simprocAttr, *]
  ·replace h := z1s M (by omega) j (by omega) _ _ _ _ _ _ _ _ _ _ _ _ _ _ _ _ _ _ _ _ _ h R hR
   simp only [zzm, simprocAttr, *]
 ·cases h; subst hR; simp only [zzm, simprocAttr, *]
theorem zzo : ∀ q, zzl q
 | 0 => by intro M hM j hj; intros; rename_i h _ _ _ _ _; cases h
 | q + 1 => by have i0 := zzo q; exact zzn q i0
theorem zzp : ∀ (q M : Nat), 8 * q ≤ M → ∀ (v0z : Bool), ∀ (v0l : List zje), ∀ (h0_0 h0_1 : Int), ∀ (h0_2z : Bool), ∀ (h0_2l : List Int), ∀ (h0_3 : Bool), ∀ (h0_4 : Int), ∀ (h0_5z : Bool), ∀ (h0_5l : List zje), ∀ (h1_0 h1_1 : Int), ∀ (h1_2z : Bool), ∀ (h1_2l : List Int), ∀ (h1_3 : Bool), ∀ (h1_4 : Int), ∀ (h1_5z : Bool), ∀ (h1_5l : List zje), ∀ (r : Int), zj4 q v0z v0l h0_0 h0_1 h0_2z h0_2l h0_3 h0_4 h0_5z h0_5l h1_0 h1_1 h1_2z h1_2l h1_3 h1_4 h1_5z h1_5l = some r → (orc T (M + 6)).inl F.zk3 [(.sl v0z (List.map zje.enc v0l)), (.fn F.zkz [(.ptr 1 0)])] [(.box [(.int .i64 h0_0), (.int .i64 h0_1), (.sl h0_2z (List.map (V.int .i64) h0_2l)), (.bool h0_3), (.int .i64 h0_4), (.sl h0_5z (List.map zje.enc h0_5l))]), (.box [(.int .i64 h1_0), (.int .i64 h1_1), (.sl h1_2z (List.map (V.int .i64) h1_2l)), (.bool h1_3), (.int .i64 h1_4), (.sl h1_5z (List.map zje.enc h1_5l))]), (.box [(.int .i64 0), (.int .i64 0), (.int .i64 0), (.int .i64 0), (.sl true []), (.bool false), (.int .i64 0), (.sl true [])])] = (some ([(.int .i64 r)], [(.box [(.int .i64 h0_0), (.int .i64 h0_1), (.sl h0_2z (List.map (V.int .i64) h0_2l)), (.bool h0_3), (.int .i64 h0_4), (.sl h0_5z (List.map zje.enc h0_5l))]), (.box [(.int .i64 h1_0), (.int .i64 h1_1), (.sl h1_2z (List.map (V.int .i64) h1_2l)), (.bool h1_3), (.int .i64 h1_4), (.sl h1_5z (List.map zje.enc h1_5l))]), (.box [(.int .i64 0), (.int .i64 0), (.int .i64 0), (.int .i64 0), (.sl true []), (.bool false), (.int .i64 0), (.sl true [])])]) : Option (List V × Hp)) := by
 intro q M hM v0z v0l h0_0 h0_1 h0_2z h0_2l h0_3 h0_4 h0_5z h0_5l h1_0 h1_1 h1_2z h1_2l h1_3 h1_4 h1_5z h1_5l r h
 rcases q with _ | q
 ·cases h
 have z1s := (zzo q)
 generalize hR : (some ([(.int .i64 r)], [(.box [(.int .i64 h0_0), (.int .i64 h0_1), (.sl h0_2z (List.map (V.int .i64) h0_2l)), (.bool h0_3), (.int .i64 h0_4), (.sl h0_5z (List.map zje.enc h0_5l))]), (.box [(.int .i64 h1_0), (.int .i64 h1_1), (.sl h1_2z (List.map (V.int .i64) h1_2l)), (.bool h1_3), (.int .i64 h1_4), (.sl h1_5z (List.map zje.enc h1_5l))]), (.box [(.int .i64 0), (.int .i64 0), (.int .i64 0), (.int .i64 0), (.sl true []), (.bool false), (.int .i64 0), (.sl true [])])]) : Option (List V × Hp)) = R
 rw [zwg (n := M + 5)]
 rw [zj4] at h
 replace h := z1s M (by omega) (M + 5) (by omega) _ _ _ _ _ _ _ _ _ _ _ _ _ _ _ _ _ _ _ _ _ h R hR
 simp only [zzm, simprocAttr, *]
def zzq (q : Nat) : Prop := ∀ (M : Nat) (hM : 8 * q ≤ M) (j : Nat) (hj : q ≤ j) (v89z : Bool) (v89l : List zje) (v90 v91 h0_0 h0_1 : Int) (h0_2z : Bool) (h0_2l : List Int) (h0_3 : Bool) (h0_4 : Int) (h0_5z : Bool) (h0_5l : List zje) (h2_0 h2_1 h2_2 h2_3 : Int) (h2_5 : Bool) (h2_6 : Int) (h3z : Bool) (h3l : List Int) (h3x : Bool) (r : zjg × Int) (_ : zj6 q v89z v89l v90 v91 h0_0 h0_1 h0_2z h0_2l h0_3 h0_4 h0_5z h0_5l h2_0 h2_1 h2_2 h2_3 h2_5 h2_6 h3z h3l h3x = some r) (R : Option (List V)) (_ : some [zjg.enc r.1, (V.int .i64) r.2] = R) (fr : Fr) (H : Hp) (_ : canon 0 [2, 4, 7, 89, 90, 91] fr H = ([(2, (.ptr 0 0)), (4, (.ptr 1 0)), (7, (.ptr 2 0)), (89, (.sl v89z (List.map zje.enc v89l))), (90, (.int .i64 v90)), (91, (.int .i64 v91))], [(.box [(.int .i64 h0_0), (.int .i64 h0_1), (.sl h0_2z (List.map (V.int .i64) h0_2l)), (.bool h0_3), (.int .i64 h0_4), (.sl h0_5z (List.map zje.enc h0_5l))]), (.box [(.int .i64 0), (.int .i64 0), (.int .i64 0), (.int .i64 0), (.sl true []), (.bool false), (.int .i64 0), (.sl true [])]), (.box [(.int .i64 h2_0), (.int .i64 h2_1), (.int .i64 h2_2), (.int .i64 h2_3), (.vw 3 0 0 h3l.length 1), (.bool h2_5), (.int .i64 h2_6), (.sl true [])]), (.row 0 h3z 1 (List.map (V.int .i64) h3l) h3x)])), fin zmd (unw T (orc T (M + 7)) (M + 7) 0 [.blk 1, .code zl2] (iter 0 [2, 4, 7, 89, 90, 91] (exec T (orc T (M + 7)) (M + 7) 0 zlz) j fr H)) = R
def zzr (q : Nat) : Prop := ∀ (M : Nat) (hM : 8 * q ≤ M) (j : Nat) (hj : q ≤ j) (v89z : Bool) (v89l : List zje) (v90 v91 h0_0 h0_1 : Int) (h0_2z : Bool) (h0_2l : List Int) (h0_3 : Bool) (h0_4 : Int) (h0_5z : Bool) (h0_5l : List zje) (h2_0 h2_1 h2_2 h2_3 : Int) (h2_5 : Bool) (h2_6 : Int) (h3z : Bool) (h3l : List Int) (h3x : Bool) (h4l : List zje) (r : zjg × Int) (_ : zj5 q v89z v89l v90 v91 h0_0 h0_1 h0_2z h0_2l h0_3 h0_4 h0_5z h0_5l h2_0 h2_1 h2_2 h2_3 h2_5 h2_6 h3z h3l h3x h4l = some r) (R : Option (List V)) (_ : some [zjg.enc r.1, (V.int .i64) r.2] = R) (fr : Fr) (H : Hp) (_ : canon 0 [2, 4, 7, 89, 90, 91] fr H = ([(2, (.ptr 0 0)), (4, (.ptr 1 0)), (7, (.ptr 2 0)), (89, (.sl v89z (List.map zje.enc v89l))), (90, (.int .i64 v90)), (91, (.int .i64 v91))], [(.box [(.int .i64 h0_0), (.int .i64 h0_1), (.sl h0_2z (List.map (V.int .i64) h0_2l)), (.bool h0_3), (.int .i64 h0_4), (.sl h0_5z (List.map zje.enc h0_5l))]), (.box [(.int .i64 0), (.int .i64 0), (.int .i64 0), (.int .i64 0), (.sl true []), (.bool false), (.int .i64 0), (.sl true [])]), (.box [(.int .i64 h2_0), (.int .i64 h2_1), (.int .i64 h2_2), (.int .i64 h2_3), (.vw 3 0 0 h3l.length 1), (.bool h2_5), (.int .i64 h2_6), (.vw 4 0 0 h4l.length 1)]), (.row 0 h3z 1 (List.map (V.int .i64) h3l) h3x), (.row 0 false 3 (List.map zje.enc h4l) true)])), fin zmd (unw T (orc T (M + 7)) (M + 7) 0 [.blk 1, .code zl2] (iter 0 [2, 4, 7, 89, 90, 91] (exec T (orc T (M + 7)) (M + 7) 0 zlz) j fr H)) = R
def zzs := And.intro @kk <| And.intro @ke <| And.intro @kn <| And.intro @zuq <| And.intro @zvh <| And.intro @zuu <| And.intro @zvf <| And.intro @zvl <| And.intro @zvo <| And.intro @zvr <| And.intro @zwf <| And.intro @zvi <| And.intro @zvj <| @zus
theorem zzt (q : Nat) (z1t : zzq q) (z1u : zzr q) : zzq (q + 1) := by
 intro M hM j hj v89z v89l v90 v91 h0_0 h0_1 h0_2z h0_2l h0_3 h0_4 h0_5z h0_5l h2_0 h2_1 h2_2 h2_3 h2_5 h2_6 h3z h3l h3x r h R hR fr H hc
 obtain ⟨j, rfl⟩ : ∃ i, j = i + 1 := ⟨j - 1, by omega⟩
 rw [zhm, hc]; clear hc
 rw [zj6] at h
 replace h := br h; rcases h with ⟨h1, h⟩ | ⟨h1, h⟩
 ·replace h := bn h; obtain ⟨h2, h⟩ := h
  replace h := ob h; obtain ⟨e7, h3, h⟩ := h
  replace h := ob h; obtain ⟨r8, h4, h⟩ := h
  replace h4 := zy8 q (M + 7) (by omega) _ _ _ h4
  try simp only [kf, simprocAttr] at h4
  replace h := br h; rcases h with ⟨h5, h⟩ | ⟨h5, h⟩
  ·replace h := z1u M (by omega) j (by omega) _ _ _ _ _ _ _ _ _ _ _ _ _ _ _ _ _ _ _ _ _ _ _ h R hR
   simp only [zzs, simprocAttr, *]
  ·replace h := bn h; obtain ⟨h6, h⟩ := h
   replace h := ob h; obtain ⟨e9, h7, h⟩ := h
   replace h := br h; rcases h with ⟨h8, h⟩ | ⟨h8, h⟩
   ·replace h := br h; rcases h with ⟨h9, h⟩ | ⟨h9, h⟩
    ·replace h := br h; rcases h with ⟨h10, h⟩ | ⟨h10, h⟩
     ·replace h := z1t M (by omega) j (by omega) _ _ _ _ _ _ _ _ _ _ _ _ _ _ _ _ _ _ _ _ _ _ h R hR
      simp only [zzs, simprocAttr, *]
     ·replace h := z1u M (by omega) j (by omega) _ _ _ _ _ _ _ _ _ _ _ _ _ _ _ _ _ _ _ _ _ _ _ h R hR
      simp only [zzs, simprocAttr, *]
    ·replace h := z1u M (by omega) j (by omega) _ _ _ _ _ _ _ _ _ _ _ _ _ _ _ _ _ _ _ _ _ _ _ h R hR
     simp only [zzs, simprocAttr, *]
   ·replace h := z1u M (by omega) j (by omega) _ _ _ _ _ _ _ _ _ _ _ _ _ _ _ _ _ _ _ _ _ _ _ h R hR
    simp only [zzs, simprocAttr, *]
 ·cases h; subst hR; simp only [zzs, simprocAttr, *]
theorem zzu (q : Nat) (z1u : zzr q) : zzr (q + 1) := by
 intro M hM j hj v89z v89l v90 v91 h0_0 h0_1 h0_2z h0_2l h0_3 h0_4 h0_5z h0_5l h2_0 h2_1 h2_2 h2_3 h2_5 h2_6 h3z h3l h3x h4l r h R hR fr H hc
 obtain ⟨j, rfl⟩ : ∃ i, j = i + 1 := ⟨j - 1, by omega⟩
 rw [zhm, hc]; clear hc
 rw [zj5] at h
 replace h := br h; rcases h with ⟨h1, h⟩ | ⟨h1, h⟩
 ·replace h := bn h; obtain ⟨h2, h⟩ := h
  replace h := ob h; obtain ⟨e10, h3, h⟩ := h
  replace h := ob h; obtain ⟨r11, h4, h⟩ := h
  replace h4 := zy8 q (M + 7) (by omega) _ _ _ h4
  try simp only [kf, simprocAttr] at h4
  replace h := br h; rcases h with ⟨h5, h⟩ | ⟨h5, h⟩
  ·replace h := bn h; obtain ⟨h6, h⟩ := h
   replace h := z1u M (by omega) j (by omega) _ _ _ _ _ _ _ _ _ _ _ _ _ _ _ _ _ _ _ _ _ _ _ h R hR
   simp only [zzs, simprocAttr, *]
  ·replace h := bn h; obtain ⟨h7, h⟩ := h
   replace h := ob h; obtain ⟨e12, h8, h⟩ := h
   replace h := br h; rcases h with ⟨h9, h⟩ | ⟨h9, h⟩
   ·replace h := br h; rcases h with ⟨h10, h⟩ | ⟨h10, h⟩
    ·replace h := br h; rcases h with ⟨h11, h⟩ | ⟨h11, h⟩
     ·replace h := z1u M (by omega) j (by omega) _ _ _ _ _ _ _ _ _ _ _ _ _ _ _ _ _ _ _ _ _ _ _ h R hR
      simp only [zzs, simprocAttr, *]
     ·replace h := bn h; obtain ⟨h12, h⟩ := h
      replace h := z1u M (by omega) j (by omega) _ _ _ _ _ _ _ _ _ _ _ _ _ _ _ _ _ _ _ _ _ _ _ h R hR
      simp only [zzs, simprocAttr, *]
    ·replace h := bn h; obtain ⟨h13, h⟩ := h
     replace h := z1u M (by omega) j (by omega) _ _ _ _ _ _ _ _ _ _ _ _ _ _ _ _ _ _ _ _ _ _ _ h R hR
     simp only [zzs, simprocAttr, *]
   ·replace h := bn h; obtain ⟨h14, h⟩ := h
    replace h := z1u M (by omega) j (by omega) _ _ _ _ _ _ _ _ _ _ _ _ _ _ _ _ _ _ _ _ _ _ _ h R hR
    simp only [zzs, simprocAttr, *]
 ·cases h; subst hR; simp only [zzs, simprocAttr, *]
theorem zzv : ∀ q, zzq q ∧ zzr q
 | 0 => by refine ⟨?_, ?_⟩ <;> (intro M hM j hj; intros; rename_i h _ _ _ _ _; cases h)
 | q + 1 => by have ⟨i0, i1⟩ := zzv q; exact ⟨zzt q i0 i1, zzu q i1⟩
theorem zzw : ∀ (q N : Nat), 8 * q ≤ N → ∀ (a0 a1 : zjf), ∀ (r : zjg × Int), zj7 q a0 a1 = some r → (orc T N).deep F.zj7 [zjf.enc a0, zjf.enc a1] = some [zjg.enc r.1, (V.int .i64) r.2] := by
 intro q N hM a0 a1 r h
 rcases q with _ | q
 ·cases h
 obtain ⟨M, rfl⟩ : ∃ M, N = M + 8 := ⟨N - 8, by omega⟩
 have z1t := (zzv q).1
 generalize hR : some [zjg.enc r.1, (V.int .i64) r.2] = R
 rw [zhv, ztl, y6, zht]
 rw [zj7] at h
 replace h := ob h; obtain ⟨r1, h1, h⟩ := h
 replace h1 := zy1 q (M + 7) (by omega) _ _ h1
 try simp only [kf, simprocAttr] at h1
 replace h := bb h; rcases h with ⟨h2', h2, h⟩ | ⟨h2', h2, h⟩
 ·replace h := ob h; obtain ⟨r2, h3, h⟩ := h
  replace h3 := zy1 q (M + 7) (by omega) _ _ h3
  try simp only [kf, simprocAttr] at h3
  replace h := bb h; rcases h with ⟨h4', h4, h⟩ | ⟨h4', h4, h⟩
  ·replace h := br h; rcases h with ⟨h5, h⟩ | ⟨h5, h⟩
   ·replace h := br h; rcases h with ⟨h6, h⟩ | ⟨h6, h⟩
    ·cases h; subst hR; simp only [zzs, simprocAttr, *]
    ·replace h := ob h; obtain ⟨r3, h7, h⟩ := h
     replace h7 := zzp q M (by omega) _ _ _ _ _ _ _ _ _ _ _ _ _ _ _ _ _ _ _ h7
     try simp only [kf, simprocAttr] at h7
     replace h := br h; rcases h with ⟨h8, h⟩ | ⟨h8, h⟩
     ·cases h; subst hR; simp only [zzs, simprocAttr, *]
     ·replace h := ob h; obtain ⟨r4, h9, h⟩ := h
      replace h9 := zzd q (M + 7) (by omega) _ _ _ h9
      try simp only [kf, simprocAttr] at h9
      replace h := bn h; obtain ⟨h10, h⟩ := h
      replace h := bn h; obtain ⟨h11, h⟩ := h
      replace h := bn h; obtain ⟨h12, h⟩ := h
      replace h := ob h; obtain ⟨r5, h13, h⟩ := h
      replace h13 := zzi q (M + 7) (by omega) _ _ _ h13
      try simp only [kf, simprocAttr] at h13
      replace h := bn h; obtain ⟨h14, h⟩ := h
      replace h := bn h; obtain ⟨h15, h⟩ := h
      replace h := ob h; obtain ⟨r6, h16, h⟩ := h
      replace h16 := zzk q (M + 7) (by omega) _ _ h16
      try simp only [kf, simprocAttr] at h16
      replace h := z1t M (by omega) (M + 7) (by omega) _ _ _ _ _ _ _ _ _ _ _ _ _ _ _ _ _ _ _ _ _ _ h R hR
      simp only [zzs, simprocAttr, *]
   ·cases h; subst hR; simp only [zzs, simprocAttr, *]
  ·cases h; subst hR; simp only [zzs, simprocAttr, *]
 ·cases h; subst hR; simp only [zzs, simprocAttr, *]
def zzx (q : Nat) : Prop := ∀ (M : Nat) (hM : 8 * q ≤ M) (j : Nat) (hj : q ≤ j) (v0z : Bool) (v0l : List (Sl Int)) (v3 : Int) (v9z : Bool) (v9l : List (Sl Int)) (v10 v11 : Int) (r : (Ow Int)) (_ : zkb q v0z v0l v3 v9z v9l v10 v11 = some r) (R : Option (List V)) (_ : some [(Ow.enc 1 (V.int .i64)) r] = R) (fr : Fr) (H : Hp) (_ : canon 0 [0, 3, 9, 10, 11] fr H = ([(0, (.sl v0z (List.map (Sl.enc (V.int .i64)) v0l))), (3, (.int .i64 v3)), (9, (.sl v9z (List.map (Sl.enc (V.int .i64)) v9l))), (10, (.int .i64 v10)), (11, (.int .i64 v11))], [])), fin zpg (unw T (orc T (M + 7)) (M + 7) 0 [.blk 0, .code zpc] (iter 0 [0, 3, 9, 10, 11] (exec T (orc T (M + 7)) (M + 7) 0 zov) j fr H)) = R
def zzy (q : Nat) : Prop := ∀ (M : Nat) (hM : 8 * q ≤ M) (j : Nat) (hj : q ≤ j) (v6len : Nat) (v25z : Bool) (v25l : List (Sl Int)) (v26 v27 : Int) (h0z : Bool) (h0l : List Int) (r : (Ow Int)) (_ : zj8 q v6len v25z v25l v26 v27 h0z h0l = some r) (R : Option (List V)) (_ : some [(Ow.enc 1 (V.int .i64)) r] = R) (fr : Fr) (H : Hp) (_ : canon 0 [6, 25, 26, 27] fr H = ([(6, (.vw 0 0 0 v6len 0)), (25, (.sl v25z (List.map (Sl.enc (V.int .i64)) v25l))), (26, (.int .i64 v26)), (27, (.int .i64 v27))], [(.row 0 h0z 1 (List.map (V.int .i64) h0l) true)])), fin zpg (unw T (orc T (M + 7)) (M + 7) 0 [.blk 2, .code zpa] (iter 0 [6, 25, 26, 27] (exec T (orc T (M + 7)) (M + 7) 0 zo7) j fr H)) = R
def zzz (q : Nat) : Prop := ∀ (M : Nat) (hM : 8 * q ≤ M) (j : Nat) (hj : q ≤ j) (v25z : Bool) (v25l : List (Sl Int)) (v26 : Int) (r : (Ow Int)) (_ : zka q v25z v25l v26 = some r) (R : Option (List V)) (_ : some [(Ow.enc 1 (V.int .i64)) r] = R) (fr : Fr) (H : Hp) (_ : canon 0 [6, 25, 26, 27] fr H = ([(6, (.sl true [])), (25, (.sl v25z (List.map (Sl.enc (V.int .i64)) v25l))), (26, (.int .i64 v26)), (27, (.int .i64 0))], [])), fin zpg (unw T (orc T (M + 7)) (M + 7) 0 [.blk 2, .code zpa] (iter 0 [6, 25, 26, 27] (exec T (orc T (M + 7)) (M + 7) 0 zo7) j fr H)) = R
def zz0 (q : Nat) : Prop := ∀ (M : Nat) (hM : 8 * q ≤ M) (j : Nat) (hj : q ≤ j) (v25z : Bool) (v25l : List (Sl Int)) (v26 v27 : Int) (h0z : Bool) (h0l : List Int) (r : (Ow Int)) (_ : zj9 q v25z v25l v26 v27 h0z h0l = some r) (R : Option (List V)) (_ : some [(Ow.enc 1 (V.int .i64)) r] = R) (fr : Fr) (H : Hp) (_ : canon 0 [6, 25, 26, 27] fr H = ([(6, (.vw 0 0 0 h0l.length 1)), (25, (.sl v25z (List.map (Sl.enc (V.int .i64)) v25l))), (26, (.int .i64 v26)), (27, (.int .i64 v27))], [(.row 0 h0z 1 (List.map (V.int .i64) h0l) true)])), fin zpg (unw T (orc T (M + 7)) (M + 7) 0 [.blk 2, .code zpa] (iter 0 [6, 25, 26, 27] (exec T (orc T (M + 7)) (M + 7) 0 zo7) j fr H)) = R
def zz1 := And.intro @kk <| And.intro @ke <| And.intro @kn <| And.intro @zvz <| And.intro @zw8 <| And.intro @zw9 <| And.intro @zxa <| @zv1
theorem zz2 (q : Nat) (z1v : zzx q) (z1w : zzy q) (z1x : zzz q) : zzx (q + 1) := by
 intro M hM j hj v0z v0l v3 v9z v9l v10 v11 r h R hR fr H hc
 obtain ⟨j, rfl⟩ : ∃ i, j = i + 1 := ⟨j - 1, by omega⟩
 rw [zhm, hc]; clear hc
 rw [zkb] at h
 replace h := br h; rcases h with ⟨h1, h⟩ | ⟨h1, h⟩
 ·replace h := bn h; obtain ⟨h2, h⟩ := h
  replace h := ob h; obtain ⟨e1, h3, h⟩ := h
  replace h := bm h; obtain ⟨h4, h⟩ := h
  replace h := z1v M (by omega) j (by omega) _ _ _ _ _ _ _ _ h R hR
  simp only [zz1, simprocAttr, *]
 ·replace h := bm h; obtain ⟨h5, h⟩ := h
  replace h := br h; rcases h with ⟨h6, h⟩ | ⟨h6, h⟩
  ·replace h := bn h; obtain ⟨h7, h⟩ := h
   replace h := bn h; obtain ⟨h8, h⟩ := h
   replace h := bm h; obtain ⟨h9, h⟩ := h
   replace h := z1w M (by omega) (M + 7) (by omega) _ _ _ _ _ _ _ _ h R hR
   simp only [zz1, simprocAttr, *]
  ·replace h := z1x M (by omega) (M + 7) (by omega) _ _ _ _ h R hR
   simp only [zz1, simprocAttr, *]
theorem zz3 (q : Nat) (z1w : zzy q) : zzy (q + 1) := by
 intro M hM j hj v6len v25z v25l v26 v27 h0z h0l r h R hR fr H hc
 obtain ⟨j, rfl⟩ : ∃ i, j = i + 1 := ⟨j - 1, by omega⟩
 rw [zhm, hc]; clear hc
 rw [zj8] at h
 replace h := br h; rcases h with ⟨h1, h⟩ | ⟨h1, h⟩
 ·replace h := bn h; obtain ⟨h2, h⟩ := h
  replace h := ob h; obtain ⟨e2, h3, h⟩ := h
  replace h := bn h; obtain ⟨h4, h⟩ := h
  replace h := z1w M (by omega) j (by omega) _ _ _ _ _ _ _ _ h R hR
  simp only [zz1, simprocAttr, *]
 ·cases h; subst hR; simp only [zz1, simprocAttr, *]
theorem zz4 (q : Nat) (z1y : zz0 q) : zzz (q + 1) := by
 intro M hM j hj v25z v25l v26 r h R hR fr H hc
 obtain ⟨j, rfl⟩ : ∃ i, j = i + 1 := ⟨j - 1, by omega⟩
 rw [zhm, hc]; clear hc
 rw [zka] at h
 replace h := br h; rcases h with ⟨h1, h⟩ | ⟨h1, h⟩
 ·replace h := ob h; obtain ⟨e3, h2, h⟩ := h
  replace h := bn h; obtain ⟨h3, h⟩ := h
  replace h := z1y M (by omega) j (by omega) _ _ _ _ _ _ _ h R hR
  simp only [zz1, simprocAttr, *]
 ·cases h; subst hR; simp only [zz1, simprocAttr, *]
theorem zz5 (q : Nat) (z1y : zz0 q) : zz0 (q + 1) := by
 intro M hM j hj v25z v25l v26 v27 h0z h0l r h R hR fr H hc
 obtain ⟨j, rfl⟩ : ∃ i, j = i + 1 := ⟨j - 1, by omega⟩
 rw [zhm, hc]; clear hc
 rw [zj9] at h
 replace h := br h; rcases h with ⟨h1, h⟩ | ⟨h1, h⟩
 ·replace h := bn h; obtain ⟨h2, h⟩ := h
  replace h := ob h; obtain ⟨e4, h3, h⟩ := h
  replace h := bn h; obtain ⟨h4, h⟩ := h
  replace h := z1y M (by omega) j (by omega) _ _ _ _ _ _ _ h R hR
  simp only [zz1, simprocAttr, *]
 ·cases h; subst hR; simp only [zz1, simprocAttr, *]
theorem zz6 : ∀ q, zzx q ∧ zzy q ∧ zzz q ∧ zz0 q
 | 0 => by refine ⟨?_, ?_, ?_, ?_⟩ <;> (intro M hM j hj; intros; rename_i h _ _ _ _ _; cases h)
 | q + 1 => by have ⟨i0, i1, i2, i3⟩ := zz6 q; exact ⟨zz2 q i0 i1 i2, zz3 q i1, zz4 q i3, zz5 q i3⟩
theorem zz7 : ∀ (q N : Nat), 8 * q ≤ N → ∀ (a0 : (Sl (Sl Int))), ∀ (r : (Ow Int)), zkc q a0 = some r → (orc T N).deep F.zkc [(Sl.enc (Sl.enc (V.int .i64))) a0] = some [(Ow.enc 1 (V.int .i64)) r] := by
 intro q N hM a0 r h
 rcases q with _ | q
 ·cases h
 obtain ⟨M, rfl⟩ : ∃ M, N = M + 8 := ⟨N - 8, by omega⟩
 have z1v := (zz6 q).1
 generalize hR : some [(Ow.enc 1 (V.int .i64)) r] = R
 rw [zhv, zt0, y6, zht]
 rw [zkc] at h
 replace h := z1v M (by omega) (M + 7) (by omega) _ _ _ _ _ _ _ _ h R hR
 simp only [zz1, simprocAttr, *]
def zz8 := And.intro @kk <| And.intro @ke <| And.intro @kn <| And.intro @zv8 <| @zwa
theorem zz9 : ∀ (q N : Nat), 8 * q ≤ N → ∀ (a0 : (Sl zje)), ∀ (r : (Ow zje)), zkd q a0 = some r → (orc T N).deep F.zkd [(Sl.enc zje.enc) a0] = some [(Ow.enc 3 zje.enc) r] := by
 intro q N hM a0 r h
 rcases q with _ | q
 ·cases h
 obtain ⟨M, rfl⟩ : ∃ M, N = M + 8 := ⟨N - 8, by omega⟩
 generalize hR : some [(Ow.enc 3 zje.enc) r] = R
 rw [zhv, zt3, y6, zht]
 rw [zkd] at h
 replace h := bb h; rcases h with ⟨h1', h1, h⟩ | ⟨h1', h1, h⟩
 ·cases h; subst hR; simp only [zz8, simprocAttr, *]
 ·replace h := bn h; obtain ⟨h2, h⟩ := h
  cases h; subst hR; simp only [zz8, simprocAttr, *]
def z0a := And.intro @kk <| And.intro @ke <| And.intro @kn <| And.intro @zwk <| @zwm
theorem z0b : ∀ (q N : Nat), 8 * q ≤ N → ∀ (a0 : (Ow zje)) (a1 : Int) (a2 : (Sl zje)), ∀ (r : (Ow zje)), zke q a0 a1 a2 = some r → (orc T N).deep F.zke [(Ow.enc 3 zje.enc) a0, (V.int .i64) a1, (Sl.enc zje.enc) a2] = some [(Ow.enc 3 zje.enc) r] := by
 intro q N hM a0 a1 a2 r h
 rcases q with _ | q
 ·cases h
 obtain ⟨M, rfl⟩ : ∃ M, N = M + 8 := ⟨N - 8, by omega⟩
 generalize hR : some [(Ow.enc 3 zje.enc) r] = R
 rw [zhv, zt7, y6, zht]
 rw [zke] at h
 replace h := bn h; obtain ⟨h1, h⟩ := h
 replace h := bn h; obtain ⟨h2, h⟩ := h
 replace h := br h; rcases h with ⟨h3, h⟩ | ⟨h3, h⟩
 ·cases h; subst hR; simp only [z0a, simprocAttr, *]
 ·replace h := bn h; obtain ⟨h4, h⟩ := h
  replace h := bn h; obtain ⟨h5, h⟩ := h
  cases h; subst hR; simp only [z0a, simprocAttr, *]
def z0c (q : Nat) : Prop := ∀ (M : Nat) (hM : 8 * q ≤ M) (j : Nat) (hj : q ≤ j) (w1 : Nat) (v7 v8 h0_0 h0_1 h0_2 h0_3 h0_4 h0_5 h0_6 : Int) (h1z : Bool) (h1l : List zje) (h1x : Bool) (r : Int) (_ : zkf q v7 v8 h0_0 h0_1 h0_2 h0_3 h0_4 h0_5 h0_6 h1z h1l h1x = some r) (R : Option (List V × Hp)) (_ : (some ([(.int .i64 r)], [(.box [(.int .i64 h0_0), (.int .i64 h0_1), (.int .i64 h0_2), (.int .i64 h0_3), (.int .i64 h0_4), (.int .i64 h0_5), (.int .i64 h0_6)]), (.row w1 h1z 3 (List.map zje.enc h1l) h1x)]) : Option (List V × Hp)) = R) (fr : Fr) (H : Hp) (_ : canon 2 [0, 1, 7, 8] fr H = ([(0, (.vw 1 w1 0 h1l.length 1)), (1, (.fn F.zk2 [(.ptr 0 0)])), (7, (.int .i64 v7)), (8, (.int .i64 v8))], [(.box [(.int .i64 h0_0), (.int .i64 h0_1), (.int .i64 h0_2), (.int .i64 h0_3), (.int .i64 h0_4), (.int .i64 h0_5), (.int .i64 h0_6)]), (.row w1 h1z 3 (List.map zje.enc h1l) h1x)])), finI 2 false [.tmp 4] (unw T (orc T (M + 5)) (M + 5) 2 [.blk 0, .code zqp] (iter 2 [0, 1, 7, 8] (exec T (orc T (M + 5)) (M + 5) 2 zqm) j fr H)) = R
def z0d := And.intro @kk <| And.intro @ke <| And.intro @kn <| And.intro @zwb <| And.intro @zwe <| And.intro @zwc <| @zwd
theorem z0e (q : Nat) (z1z : z0c q) : z0c (q + 1) := by
 intro M hM j hj w1 v7 v8 h0_0 h0_1 h0_2 h0_3 h0_4 h0_5 h0_6 h1z h1l h1x r h R hR fr H hc
 obtain ⟨j, rfl⟩ : ∃ i, j = i + 1 := ⟨j - 1, by omega⟩
 rw [zhm, hc]; clear hc
 rw [zkf] at h
 replace h := br h; rcases h with ⟨h1, h⟩ | ⟨h1, h⟩
 ·replace h := bn h; obtain ⟨h2, h⟩ := h
  replace h := bn h; obtain ⟨h3, h⟩ := h
  replace h := ob h; obtain ⟨e1, h4, h⟩ := h
  replace h := br h; rcases h with ⟨h5, h⟩ | ⟨h5, h⟩
  ·cases h; subst hR; simp only [z0d, simprocAttr, *]
  ·replace h := z1z M (by omega) j (by omega) w1 _ _ _ _ _ _ _ _ _ _ _ _ _ h R hR
   simp only [z0d, simprocAttr, *]
 ·cases h; subst hR; simp only [z0d, simprocAttr, *]
theorem z0f : ∀ q, z0c q
 | 0 => by intro M hM j hj; intros; rename_i h _ _ _ _ _; cases h
 | q + 1 => by have i0 := z0f q; exact z0e q i0
theorem z0g : ∀ (q M : Nat), 8 * q ≤ M → ∀ (w1 : Nat), ∀ (h0_0 h0_1 h0_2 h0_3 h0_4 h0_5 h0_6 : Int), ∀ (h1z : Bool), ∀ (h1l : List zje), ∀ (h1x : Bool), ∀ (r : Int), zkg q h0_0 h0_1 h0_2 h0_3 h0_4 h0_5 h0_6 h1z h1l h1x = some r → (orc T (M + 6)).inl F.zk3 [(.vw 1 w1 0 h1l.length 1), (.fn F.zk2 [(.ptr 0 0)])] [(.box [(.int .i64 h0_0), (.int .i64 h0_1), (.int .i64 h0_2), (.int .i64 h0_3), (.int .i64 h0_4), (.int .i64 h0_5), (.int .i64 h0_6)]), (.row w1 h1z 3 (List.map zje.enc h1l) h1x)] = (some ([(.int .i64 r)], [(.box [(.int .i64 h0_0), (.int .i64 h0_1), (.int .i64 h0_2), (.int .i64 h0_3), (.int .i64 h0_4), (.int .i64 h0_5), (.int .i64 h0_6)]), (.row w1 h1z 3 (List.map zje.enc h1l) h1x)]) : Option (List V × Hp)) := by
 intro q M hM w1 h0_0 h0_1 h0_2 h0_3 h0_4 h0_5 h0_6 h1z h1l h1x r h
 rcases q with _ | q
 ·cases h
 have z1z := (z0f q)
 generalize hR : (some ([(.int .i64 r)], [(.box [(.int .i64 h0_0), (.int .i64 h0_1), (.int .i64 h0_2), (.int .i64 h0_3), (.int .i64 h0_4), (.int .i64 h0_5), (.int .i64 h0_6)]), (.row w1 h1z 3 (List.map zje.enc h1l) h1x)]) : Option (List V × Hp)) = R
 rw [zwg (n := M + 5)]
 rw [zkg] at h
 replace h := z1z M (by omega) (M + 5) (by omega) w1 _ _ _ _ _ _ _ _ _ _ _ _ _ h R hR
 simp only [z0d, simprocAttr, *]
def z0h (q : Nat) : Prop := ∀ (M : Nat) (hM : 8 * q ≤ M) (j : Nat) (hj : q ≤ j) (w1 : Nat) (v5 v6 h0_0 h0_1 h0_2 h0_3 h0_4 h0_5 h0_6 : Int) (h1z : Bool) (h1l : List zje) (h1x : Bool) (r : Nat × (List zje) × Bool) (_ : zkh q v5 v6 h0_0 h0_1 h0_2 h0_3 h0_4 h0_5 h0_6 h1z h1l h1x = some r) (R : Option (List V × Hp)) (_ : (some ([(.vw 1 w1 0 r.1 0)], [(.box [(.int .i64 h0_0), (.int .i64 h0_1), (.int .i64 h0_2), (.int .i64 h0_3), (.int .i64 h0_4), (.int .i64 h0_5), (.int .i64 h0_6)]), (.row w1 h1z 3 (List.map zje.enc r.2.1) r.2.2)]) : Option (List V × Hp)) = R) (fr : Fr) (H : Hp) (_ : canon 2 [0, 1, 5, 6] fr H = ([(0, (.vw 1 w1 0 h1l.length 1)), (1, (.fn F.zk2 [(.ptr 0 0)])), (5, (.int .i64 v5)), (6, (.int .i64 v6))], [(.box [(.int .i64 h0_0), (.int .i64 h0_1), (.int .i64 h0_2), (.int .i64 h0_3), (.int .i64 h0_4), (.int .i64 h0_5), (.int .i64 h0_6)]), (.row w1 h1z 3 (List.map zje.enc h1l) h1x)])), finI 2 true [.tmp 4] (unw T (orc T (M + 6)) (M + 6) 2 [.blk 0, .code zp9] (iter 2 [0, 1, 5, 6] (exec T (orc T (M + 6)) (M + 6) 2 zp4) j fr H)) = R
def z0i := And.intro @kk <| And.intro @ke <| And.intro @kn <| And.intro @zv5 <| And.intro @zwb <| And.intro @zwf <| And.intro @zwc <| @zwd
theorem z0j (q : Nat) (z10 : z0h q) : z0h (q + 1) := by
 intro M hM j hj w1 v5 v6 h0_0 h0_1 h0_2 h0_3 h0_4 h0_5 h0_6 h1z h1l h1x r h R hR fr H hc
 obtain ⟨j, rfl⟩ : ∃ i, j = i + 1 := ⟨j - 1, by omega⟩
 rw [zhm, hc]; clear hc
 rw [zkh] at h
 replace h := br h; rcases h with ⟨h1, h⟩ | ⟨h1, h⟩
 ·replace h := bn h; obtain ⟨h2, h⟩ := h
  replace h := bn h; obtain ⟨h3, h⟩ := h
  replace h := ob h; obtain ⟨e2, h4, h⟩ := h
  replace h := br h; rcases h with ⟨h5, h⟩ | ⟨h5, h⟩
  ·replace h := z10 M (by omega) j (by omega) w1 _ _ _ _ _ _ _ _ _ _ _ _ _ h R hR
   simp only [z0i, simprocAttr, *]
  ·replace h := bn h; obtain ⟨h6, h⟩ := h
   replace h := bn h; obtain ⟨h7, h⟩ := h
   replace h := ob h; obtain ⟨e3, h8, h⟩ := h
   replace h := bb h; rcases h with ⟨h9', h9, h⟩ | ⟨h9', h9, h⟩
   ·replace h := z10 M (by omega) j (by omega) w1 _ _ _ _ _ _ _ _ _ _ _ _ _ h R hR
    simp only [z0i, simprocAttr, *]
   ·cases h
 ·replace h := bn h; obtain ⟨h10, h⟩ := h
  replace h := bn h; obtain ⟨h11, h⟩ := h
  replace h := bb h; rcases h with ⟨h12', h12, h⟩ | ⟨h12', h12, h⟩
  ·replace h := bn h; obtain ⟨h13, h⟩ := h
   replace h := bb h; rcases h with ⟨h14', h14, h⟩ | ⟨h14', h14, h⟩
   ·cases h; subst hR; simp only [z0i, simprocAttr, *]
   ·cases h; subst hR; simp only [z0i, simprocAttr, *]
  ·cases h
theorem z0k : ∀ q, z0h q
 | 0 => by intro M hM j hj; intros; rename_i h _ _ _ _ _; cases h
 | q + 1 => by have i0 := z0k q; exact z0j q i0
theorem z0l : ∀ (q M : Nat), 8 * q ≤ M → ∀ (w1 : Nat), ∀ (h0_0 h0_1 h0_2 h0_3 h0_4 h0_5 h0_6 : Int), ∀ (h1z : Bool), ∀ (h1l : List zje), ∀ (h1x : Bool), ∀ (r : Nat × (List zje) × Bool), zki q h0_0 h0_1 h0_2 h0_3 h0_4 h0_5 h0_6 h1z h1l h1x = some r → (orc T (M + 7)).inl F.zk1 [(.vw 1 w1 0 h1l.length 1), (.fn F.zk2 [(.ptr 0 0)])] [(.box [(.int .i64 h0_0), (.int .i64 h0_1), (.int .i64 h0_2), (.int .i64 h0_3), (.int .i64 h0_4), (.int .i64 h0_5), (.int .i64 h0_6)]), (.row w1 h1z 3 (List.map zje.enc h1l) h1x)] = (some ([(.vw 1 w1 0 r.1 0)], [(.box [(.int .i64 h0_0), (.int .i64 h0_1), (.int .i64 h0_2), (.int .i64 h0_3), (.int .i64 h0_4), (.int .i64 h0_5), (.int .i64 h0_6)]), (.row w1 h1z 3 (List.map zje.enc r.2.1) r.2.2)]) : Option (List V × Hp)) := by
 intro q M hM w1 h0_0 h0_1 h0_2 h0_3 h0_4 h0_5 h0_6 h1z h1l h1x r h
 rcases q with _ | q
 ·cases h
 have z10 := (z0k q)
 generalize hR : (some ([(.vw 1 w1 0 r.1 0)], [(.box [(.int .i64 h0_0), (.int .i64 h0_1), (.int .i64 h0_2), (.int .i64 h0_3), (.int .i64 h0_4), (.int .i64 h0_5), (.int .i64 h0_6)]), (.row w1 h1z 3 (List.map zje.enc r.2.1) r.2.2)]) : Option (List V × Hp)) = R
 rw [zv7 (n := M + 6)]
 rw [zki] at h
 replace h := ob h; obtain ⟨r1, h1, h⟩ := h
 replace h1 := z0g q M (by omega) w1 _ _ _ _ _ _ _ _ _ _ _ h1
 try simp only [kf, simprocAttr] at h1
 replace h := br h; rcases h with ⟨h2, h⟩ | ⟨h2, h⟩
 ·cases h; subst hR; simp only [z0i, simprocAttr, *]
 ·replace h := z10 M (by omega) (M + 6) (by omega) w1 _ _ _ _ _ _ _ _ _ _ _ _ _ h R hR
  simp only [z0i, simprocAttr, *]
def z0m (q : Nat) : Prop := ∀ (M : Nat) (hM : 8 * q ≤ M) (j : Nat) (hj : q ≤ j) (w1 v0len : Nat) (v7 v8 h0_0 h0_1 h0_2 h0_3 h0_4 h0_5 h0_6 : Int) (h1z : Bool) (h1l : List zje) (h1x : Bool) (r : Int) (_ : zkj q v0len v7 v8 h0_0 h0_1 h0_2 h0_3 h0_4 h0_5 h0_6 h1z h1l h1x = some r) (R : Option (List V × Hp)) (_ : (some ([(.int .i64 r)], [(.box [(.int .i64 h0_0), (.int .i64 h0_1), (.int .i64 h0_2), (.int .i64 h0_3), (.int .i64 h0_4), (.int .i64 h0_5), (.int .i64 h0_6)]), (.row w1 h1z 3 (List.map zje.enc h1l) h1x)]) : Option (List V × Hp)) = R) (fr : Fr) (H : Hp) (_ : canon 2 [0, 1, 7, 8] fr H = ([(0, (.vw 1 w1 0 v0len 0)), (1, (.fn F.zk4 [(.ptr 0 0)])), (7, (.int .i64 v7)), (8, (.int .i64 v8))], [(.box [(.int .i64 h0_0), (.int .i64 h0_1), (.int .i64 h0_2), (.int .i64 h0_3), (.int .i64 h0_4), (.int .i64 h0_5), (.int .i64 h0_6)]), (.row w1 h1z 3 (List.map zje.enc h1l) h1x)])), finI 2 false [.tmp 4] (unw T (orc T (M + 6)) (M + 6) 2 [.blk 0, .code zqp] (iter 2 [0, 1, 7, 8] (exec T (orc T (M + 6)) (M + 6) 2 zqm) j fr H)) = R
def z0n := And.intro @kk <| And.intro @ke <| And.intro @kn <| And.intro @zwe <| And.intro @zwh <| And.intro @zwi <| @zwj
theorem z0o (q : Nat) (z11 : z0m q) : z0m (q + 1) := by
 intro M hM j hj w1 v0len v7 v8 h0_0 h0_1 h0_2 h0_3 h0_4 h0_5 h0_6 h1z h1l h1x r h R hR fr H hc
 obtain ⟨j, rfl⟩ : ∃ i, j = i + 1 := ⟨j - 1, by omega⟩
 rw [zhm, hc]; clear hc
 rw [zkj] at h
 replace h := br h; rcases h with ⟨h1, h⟩ | ⟨h1, h⟩
 ·replace h := bn h; obtain ⟨h2, h⟩ := h
  replace h := bn h; obtain ⟨h3, h⟩ := h
  replace h := ob h; obtain ⟨e1, h4, h⟩ := h
  replace h := br h; rcases h with ⟨h5, h⟩ | ⟨h5, h⟩
  ·cases h; subst hR; simp only [z0n, simprocAttr, *]
  ·replace h := z11 M (by omega) j (by omega) w1 _ _ _ _ _ _ _ _ _ _ _ _ _ _ h R hR
   simp only [z0n, simprocAttr, *]
 ·cases h; subst hR; simp only [z0n, simprocAttr, *]
theorem z0p : ∀ q, z0m q
 | 0 => by intro M hM j hj; intros; rename_i h _ _ _ _ _; cases h
 | q + 1 => by have i0 := z0p q; exact z0o q i0
theorem z0q : ∀ (q M : Nat), 8 * q ≤ M → ∀ (w1 v0len : Nat), ∀ (h0_0 h0_1 h0_2 h0_3 h0_4 h0_5 h0_6 : Int), ∀ (h1z : Bool), ∀ (h1l : List zje), ∀ (h1x : Bool), ∀ (r : Int), zkk q v0len h0_0 h0_1 h0_2 h0_3 h0_4 h0_5 h0_6 h1z h1l h1x = some r → (orc T (M + 7)).inl F.zk3 [(.vw 1 w1 0 v0len 0), (.fn F.zk4 [(.ptr 0 0)])] [(.box [(.int .i64 h0_0), (.int .i64 h0_1), (.int .i64 h0_2), (.int .i64 h0_3), (.int .i64 h0_4), (.int .i64 h0_5), (.int .i64 h0_6)]), (.row w1 h1z 3 (List.map zje.enc h1l) h1x)] = (some ([(.int .i64 r)], [(.box [(.int .i64 h0_0), (.int .i64 h0_1), (.int .i64 h0_2), (.int .i64 h0_3), (.int .i64 h0_4), (.int .i64 h0_5), (.int .i64 h0_6)]), (.row w1 h1z 3 (List.map zje.enc h1l) h1x)]) : Option (List V × Hp)) := by
 intro q M hM w1 v0len h0_0 h0_1 h0_2 h0_3 h0_4 h0_5 h0_6 h1z h1l h1x r h
 rcases q with _ | q
 ·cases h
 have z11 := (z0p q)
 generalize hR : (some ([(.int .i64 r)], [(.box [(.int .i64 h0_0), (.int .i64 h0_1), (.int .i64 h0_2), (.int .i64 h0_3), (.int .i64 h0_4), (.int .i64 h0_5), (.int .i64 h0_6)]), (.row w1 h1z 3 (List.map zje.enc h1l) h1x)]) : Option (List V × Hp)) = R
 rw [zwg (n := M + 6)]
 rw [zkk] at h
 replace h := z11 M (by omega) (M + 6) (by omega) w1 _ _ _ _ _ _ _ _ _ _ _ _ _ _ h R hR
 simp only [z0n, simprocAttr, *]
def z0r := And.intro @kk <| And.intro @ke <| And.intro @kn <| And.intro @zu2 <| And.intro @zv6 <| And.intro @zv9 <| And.intro @zwf <| And.intro @zwl <| @zu4
theorem z0s : ∀ (q N : Nat), 8 * q ≤ N → ∀ (a0 : (Sl zje)) (a1 : zji), ∀ (r : (Ow zje)), zkl q a0 a1 = some r → (orc T N).deep F.zkl [(Sl.enc zje.enc) a0, zji.enc a1] = some [(Ow.enc 3 zje.enc) r] := by
 intro q N hM a0 a1 r h
 rcases q with _ | q
 ·cases h
 obtain ⟨M, rfl⟩ : ∃ M, N = M + 8 := ⟨N - 8, by omega⟩
 generalize hR : some [(Ow.enc 3 zje.enc) r] = R
 rw [zhv, ztp, y6, zht]
 rw [zkl] at h
 replace h := ob h; obtain ⟨r1, h1, h⟩ := h
 replace h1 := zz9 q (M + 7) (by omega) _ _ h1
 try simp only [kf, simprocAttr] at h1
 replace h := ob h; obtain ⟨r2, h2, h⟩ := h
 replace h2 := z0l q M (by omega) 0 _ _ _ _ _ _ _ _ _ _ _ h2
 try simp only [kf, simprocAttr] at h2
 replace h := ob h; obtain ⟨r3, h3, h⟩ := h
 replace h3 := z0q q M (by omega) 0 _ _ _ _ _ _ _ _ _ _ _ _ h3
 try simp only [kf, simprocAttr] at h3
 replace h := br h; rcases h with ⟨h4, h⟩ | ⟨h4, h⟩
 ·replace h := bb h; rcases h with ⟨h5', h5, h⟩ | ⟨h5', h5, h⟩
  ·replace h := ob h; obtain ⟨r4, h6, h⟩ := h
   replace h6 := z0b q (M + 7) (by omega) _ _ _ _ h6
   try simp only [kf, simprocAttr] at h6
   cases h; subst hR; simp only [z0r, simprocAttr, *]
  ·cases h
 ·replace h := bb h; rcases h with ⟨h7', h7, h⟩ | ⟨h7', h7, h⟩
  ·replace h := ob h; obtain ⟨r5, h8, h⟩ := h
   replace h8 := z0b q (M + 7) (by omega) _ _ _ _ h8
   try simp only [kf, simprocAttr] at h8
   cases h; subst hR; simp only [z0r, simprocAttr, *]
  ·cases h
def z0t (q : Nat) : Prop := ∀ (M : Nat) (hM : 8 * q ≤ M) (j : Nat) (hj : q ≤ j) (v89z : Bool) (v89l : List zje) (v90 h1_0 h1_1 : Int) (h1_3 : Bool) (h1_4 : Int) (h1_5z : Bool) (h1_5l : List zje) (h2z : Bool) (h2l : List Int) (h2x : Bool) (r : zjf × Int) (_ : zkn q v89z v89l v90 h1_0 h1_1 h1_3 h1_4 h1_5z h1_5l h2z h2l h2x = some r) (R : Option (List V)) (_ : some [zjf.enc r.1, (V.int .i64) r.2] = R) (fr : Fr) (H : Hp) (_ : canon 0 [4, 7, 89, 90, 91] fr H = ([(4, (.ptr 0 0)), (7, (.ptr 1 0)), (89, (.sl v89z (List.map zje.enc v89l))), (90, (.int .i64 v90)), (91, (.int .i64 0))], [(.box [(.int .i64 0), (.int .i64 0), (.sl true []), (.bool false), (.int .i64 0), (.sl true [])]), (.box [(.int .i64 h1_0), (.int .i64 h1_1), (.vw 2 0 0 h2l.length 1), (.bool h1_3), (.int .i64 h1_4), (.sl h1_5z (List.map zje.enc h1_5l))]), (.row 0 h2z 1 (List.map (V.int .i64) h2l) h2x)])), fin zm4 (unw T (orc T (M + 7)) (M + 7) 0 [.blk 1, .code zmx] (iter 0 [4, 7, 89, 90, 91] (exec T (orc T (M + 7)) (M + 7) 0 zmq) j fr H)) = R
def z0u (q : Nat) : Prop := ∀ (M : Nat) (hM : 8 * q ≤ M) (j : Nat) (hj : q ≤ j) (v89z : Bool) (v89l : List zje) (v90 v91 h1_0 h1_1 : Int) (h1_3 : Bool) (h1_4 : Int) (h2z : Bool) (h2l : List Int) (h2x h3z : Bool) (h3l : List zje) (h3x : Bool) (r : zjf × Int) (_ : zkm q v89z v89l v90 v91 h1_0 h1_1 h1_3 h1_4 h2z h2l h2x h3z h3l h3x = some r) (R : Option (List V)) (_ : some [zjf.enc r.1, (V.int .i64) r.2] = R) (fr : Fr) (H : Hp) (_ : canon 0 [4, 7, 89, 90, 91] fr H = ([(4, (.ptr 0 0)), (7, (.ptr 1 0)), (89, (.sl v89z (List.map zje.enc v89l))), (90, (.int .i64 v90)), (91, (.int .i64 v91))], [(.box [(.int .i64 0), (.int .i64 0), (.sl true []), (.bool false), (.int .i64 0), (.sl true [])]), (.box [(.int .i64 h1_0), (.int .i64 h1_1), (.vw 2 0 0 h2l.length 1), (.bool h1_3), (.int .i64 h1_4), (.vw 3 0 0 h3l.length 1)]), (.row 0 h2z 1 (List.map (V.int .i64) h2l) h2x), (.row 0 h3z 3 (List.map zje.enc h3l) h3x)])), fin zm4 (unw T (orc T (M + 7)) (M + 7) 0 [.blk 1, .code zmx] (iter 0 [4, 7, 89, 90, 91] (exec T (orc T (M + 7)) (M + 7) 0 zmq) j fr H)) = R
def z0v := And.intro @kk <| And.intro @ke <| And.intro @kn <| And.intro @zuw <| And.intro @zuu <| And.intro @zu3 <| And.intro @zv0 <| @zuy
theorem z0w (q : Nat) (z12 : z0u q) : z0t (q + 1) := by
 intro M hM j hj v89z v89l v90 h1_0 h1_1 h1_3 h1_4 h1_5z h1_5l h2z h2l h2x r h R hR fr H hc
 obtain ⟨j, rfl⟩ : ∃ i, j = i + 1 := ⟨j - 1, by omega⟩
 rw [zhm, hc]; clear hc
 rw [zkn] at h
 replace h := br h; rcases h with ⟨h1, h⟩ | ⟨h1, h⟩
 ·replace h := ob h; obtain ⟨e3, h2, h⟩ := h
  replace h := ob h; obtain ⟨r4, h3, h⟩ := h
  replace h3 := z0s q (M + 7) (by omega) _ _ _ h3
  try simp only [kf, simprocAttr] at h3
  replace h := z12 M (by omega) j (by omega) _ _ _ _ _ _ _ _ _ _ _ _ _ _ _ h R hR
  simp only [z0v, simprocAttr, *]
 ·replace h := ob h; obtain ⟨r5, h4, h⟩ := h
  replace h4 := zy1 q (M + 7) (by omega) _ _ h4
  try simp only [kf, simprocAttr] at h4
  replace h := bb h; rcases h with ⟨h5', h5, h⟩ | ⟨h5', h5, h⟩
  ·cases h; subst hR; simp only [z0v, simprocAttr, *]
  ·cases h; subst hR; simp only [z0v, simprocAttr, *]
theorem z0x (q : Nat) (z12 : z0u q) : z0u (q + 1) := by
 intro M hM j hj v89z v89l v90 v91 h1_0 h1_1 h1_3 h1_4 h2z h2l h2x h3z h3l h3x r h R hR fr H hc
 obtain ⟨j, rfl⟩ : ∃ i, j = i + 1 := ⟨j - 1, by omega⟩
 rw [zhm, hc]; clear hc
 rw [zkm] at h
 replace h := br h; rcases h with ⟨h1, h⟩ | ⟨h1, h⟩
 ·replace h := bn h; obtain ⟨h2, h⟩ := h
  replace h := ob h; obtain ⟨e6, h3, h⟩ := h
  replace h := ob h; obtain ⟨r7, h4, h⟩ := h
  replace h4 := z0s q (M + 7) (by omega) _ _ _ h4
  try simp only [kf, simprocAttr] at h4
  replace h := z12 M (by omega) j (by omega) _ _ _ _ _ _ _ _ _ _ _ _ _ _ _ h R hR
  simp only [z0v, simprocAttr, *]
 ·replace h := ob h; obtain ⟨r8, h5, h⟩ := h
  replace h5 := zy1 q (M + 7) (by omega) _ _ h5
  try simp only [kf, simprocAttr] at h5
  replace h := bb h; rcases h with ⟨h6', h6, h⟩ | ⟨h6', h6, h⟩
  ·cases h; subst hR; simp only [z0v, simprocAttr, *]
  ·cases h; subst hR; simp only [z0v, simprocAttr, *]
theorem z0y : ∀ q, z0t q ∧ z0u q
 | 0 => by refine ⟨?_, ?_⟩ <;> (intro M hM j hj; intros; rename_i h _ _ _ _ _; cases h)
 | q + 1 => by have ⟨i0, i1⟩ := z0y q; exact ⟨z0w q i1, z0x q i1⟩
theorem z0z : ∀ (q N : Nat), 8 * q ≤ N → ∀ (a0 : zjf) (a1 : zjg), ∀ (r : zjf × Int), zko q a0 a1 = some r → (orc T N).deep F.zko [zjf.enc a0, zjg.enc a1] = some [zjf.enc r.1, (V.int .i64) r.2] := by
 intro q N hM a0 a1 r h
 rcases q with _ | q
 ·cases h
 obtain ⟨M, rfl⟩ : ∃ M, N = M + 8 := ⟨N - 8, by omega⟩
 have ih_delta_Apply_l0 := (z0y q).1
 generalize hR : some [zjf.enc r.1, (V.int .i64) r.2] = R
 rw [zhv, ztn, y6, zht]
 rw [zko] at h
 replace h := ob h; obtain ⟨r1, h1, h⟩ := h
 replace h1 := zy1 q (M + 7) (by omega) _ _ h1
 try simp only [kf, simprocAttr] at h1
 replace h := bb h; rcases h with ⟨h2', h2, h⟩ | ⟨h2', h2, h⟩
 ·replace h := br h; rcases h with ⟨h3, h⟩ | ⟨h3, h⟩
  ·cases h; subst hR; simp only [z0v, simprocAttr, *]
  ·replace h := br h; rcases h with ⟨h4, h⟩ | ⟨h4, h⟩
   ·cases h; subst hR; simp only [z0v, simprocAttr, *]
   ·replace h := br h; rcases h with ⟨h5, h⟩ | ⟨h5, h⟩
    ·cases h; subst hR; simp only [z0v, simprocAttr, *]
    ·replace h := br h; rcases h with ⟨h6, h⟩ | ⟨h6, h⟩
     ·cases h; subst hR; simp only [z0v, simprocAttr, *]
     ·replace h := br h; rcases h with ⟨h7, h⟩ | ⟨h7, h⟩
      ·replace h := br h; rcases h with ⟨h8, h⟩ | ⟨h8, h⟩
       ·cases h; subst hR; simp only [z0v, simprocAttr, *]
       ·replace h := bn h; obtain ⟨h9, h⟩ := h
        replace h := bn h; obtain ⟨h10, h⟩ := h
        replace h := bn h; obtain ⟨h11, h⟩ := h
        replace h := bn h; obtain ⟨h12, h⟩ := h
        replace h := ob h; obtain ⟨r2, h13, h⟩ := h
        replace h13 := zz7 q (M + 7) (by omega) _ _ h13
        try simp only [kf, simprocAttr] at h13
        replace h := ih_delta_Apply_l0 M (by omega) (M + 7) (by omega) _ _ _ _ _ _ _ _ _ _ _ _ _ h R hR
        simp only [z0v, simprocAttr, *]
      ·cases h; subst hR; simp only [z0v, simprocAttr, *]
 ·cases h; subst hR; simp only [z0v, simprocAttr, *]
def z00 (q : Nat) : Prop := ∀ (M : Nat) (hM : 8 * q ≤ M) (j : Nat) (hj : q ≤ j) (v0z : Bool) (v0l : List Int) (v1z : Bool) (v1l : List Int) (v12 v13 : Int) (r : Bool) (_ : zkp q v0z v0l v1z v1l v12 v13 = some r) (R : Option (List V)) (_ : some [V.bool r] = R) (fr : Fr) (H : Hp) (_ : canon 0 [0, 1, 12, 13] fr H = ([(0, (.sl v0z (List.map (V.int .i64) v0l))), (1, (.sl v1z (List.map (V.int .i64) v1l))), (12, (.int .i64 v12)), (13, (.int .i64 v13))], [])), fin zry (unw T (orc T (M + 7)) (M + 7) 0 [.blk 0, .code zru] (iter 0 [0, 1, 12, 13] (exec T (orc T (M + 7)) (M + 7) 0 zrr) j fr H)) = R
def z01 := And.intro @kk <| And.intro @ke <| And.intro @kn <| And.intro @zwn <| @zwp
theorem z02 (q : Nat) (z13 : z00 q) : z00 (q + 1) := by
 intro M hM j hj v0z v0l v1z v1l v12 v13 r h R hR fr H hc
 obtain ⟨j, rfl⟩ : ∃ i, j = i + 1 := ⟨j - 1, by omega⟩
 rw [zhm, hc]; clear hc
 rw [zkp] at h
 replace h := br h; rcases h with ⟨h1, h⟩ | ⟨h1, h⟩
 ·replace h := bn h; obtain ⟨h2, h⟩ := h
  replace h := ob h; obtain ⟨e1, h3, h⟩ := h
  replace h := ob h; obtain ⟨e2, h4, h⟩ := h
  replace h := br h; rcases h with ⟨h5, h⟩ | ⟨h5, h⟩
  ·replace h := z13 M (by omega) j (by omega) _ _ _ _ _ _ _ h R hR
   simp only [z01, simprocAttr, *]
  ·cases h; subst hR; simp only [z01, simprocAttr, *]
 ·cases h; subst hR; simp only [z01, simprocAttr, *]
theorem z03 : ∀ q, z00 q
 | 0 => by intro M hM j hj; intros; rename_i h _ _ _ _ _; cases h
 | q + 1 => by have i0 := z03 q; exact z02 q i0
theorem z04 : ∀ (q N : Nat), 8 * q ≤ N → ∀ (a0 a1 : (Sl Int)), ∀ (r : Bool), zkq q a0 a1 = some r → (orc T N).deep F.zkq [(Sl.enc (V.int .i64)) a0, (Sl.enc (V.int .i64)) a1] = some [V.bool r] := by
 intro q N hM a0 a1 r h
 rcases q with _ | q
 ·cases h
 obtain ⟨M, rfl⟩ : ∃ M, N = M + 8 := ⟨N - 8, by omega⟩
 have z13 := (z03 q)
 generalize hR : some [V.bool r] = R
 rw [zhv, zt8, y6, zht]
 rw [zkq] at h
 replace h := br h; rcases h with ⟨h1, h⟩ | ⟨h1, h⟩
 ·replace h := z13 M (by omega) (M + 7) (by omega) _ _ _ _ _ _ _ h R hR
  simp only [z01, simprocAttr, *]
 ·cases h; subst hR; simp only [z01, simprocAttr, *]
def z05 := And.intro @kk <| And.intro @ke <| And.intro @kn <| And.intro @zu5 <| And.intro @zwo <| @zu7
theorem z06 : ∀ (q N : Nat), 8 * q ≤ N → ∀ (a0 a1 : zjd), ∀ (r : Bool), zkr q a0 a1 = some r → (orc T N).deep F.zkr [zjd.enc a0, zjd.enc a1] = some [V.bool r] := by
 intro q N hM a0 a1 r h
 rcases q with _ | q
 ·cases h
 obtain ⟨M, rfl⟩ : ∃ M, N = M + 8 := ⟨N - 8, by omega⟩
 generalize hR : some [V.bool r] = R
 rw [zhv, ztq, y6, zht]
 rw [zkr] at h
 replace h := br h; rcases h with ⟨h1, h⟩ | ⟨h1, h⟩
 ·replace h := bb h; rcases h with ⟨h2', h2, h⟩ | ⟨h2', h2, h⟩
  ·replace h := br h; rcases h with ⟨h3, h⟩ | ⟨h3, h⟩
   ·replace h := ob h; obtain ⟨r1, h4, h⟩ := h
    replace h4 := z04 q (M + 7) (by omega) _ _ _ h4
    try simp only [kf, simprocAttr] at h4
    cases h; subst hR; simp only [z05, simprocAttr, *]
   ·cases h; subst hR; simp only [z05, simprocAttr, *]
  ·cases h; subst hR; simp only [z05, simprocAttr, *]
 ·cases h; subst hR; simp only [z05, simprocAttr, *]
def z07 (q : Nat) : Prop := ∀ (M : Nat) (hM : 8 * q ≤ M) (j : Nat) (hj : q ≤ j) (v0z : Bool) (v0l : List zje) (v1z : Bool) (v1l : List zje) (v12 v13 : Int) (r : Bool) (_ : zks q v0z v0l v1z v1l v12 v13 = some r) (R : Option (List V)) (_ : some [V.bool r] = R) (fr : Fr) (H : Hp) (_ : canon 0 [0, 1, 12, 13] fr H = ([(0, (.sl v0z (List.map zje.enc v0l))), (1, (.sl v1z (List.map zje.enc v1l))), (12, (.int .i64 v12)), (13, (.int .i64 v13))], [])), fin zpu (unw T (orc T (M + 7)) (M + 7) 0 [.blk 0, .code zpq] (iter 0 [0, 1, 12, 13] (exec T (orc T (M + 7)) (M + 7) 0 zpn) j fr H)) = R
def z08 := And.intro @kk <| And.intro @ke <| And.intro @kn <| And.intro @zv2 <| @zv4
theorem z09 (q : Nat) (z14 : z07 q) : z07 (q + 1) := by
 intro M hM j hj v0z v0l v1z v1l v12 v13 r h R hR fr H hc
 obtain ⟨j, rfl⟩ : ∃ i, j = i + 1 := ⟨j - 1, by omega⟩
 rw [zhm, hc]; clear hc
 rw [zks] at h
 replace h := br h; rcases h with ⟨h1, h⟩ | ⟨h1, h⟩
 ·replace h := bn h; obtain ⟨h2, h⟩ := h
  replace h := ob h; obtain ⟨e1, h3, h⟩ := h
  replace h := ob h; obtain ⟨e2, h4, h⟩ := h
  replace h := br h; rcases h with ⟨h5, h⟩ | ⟨h5, h⟩
  ·replace h := br h; rcases h with ⟨h6, h⟩ | ⟨h6, h⟩
   ·replace h := br h; rcases h with ⟨h7, h⟩ | ⟨h7, h⟩
    ·replace h := z14 M (by omega) j (by omega) _ _ _ _ _ _ _ h R hR
     simp only [z08, simprocAttr, *]
    ·cases h; subst hR; simp only [z08, simprocAttr, *]
   ·cases h; subst hR; simp only [z08, simprocAttr, *]
  ·cases h; subst hR; simp only [z08, simprocAttr, *]
 ·cases h; subst hR; simp only [z08, simprocAttr, *]
theorem z1a : ∀ q, z07 q
 | 0 => by intro M hM j hj; intros; rename_i h _ _ _ _ _; cases h
 | q + 1 => by have i0 := z1a q; exact z09 q i0
theorem z1b : ∀ (q N : Nat), 8 * q ≤ N → ∀ (a0 a1 : (Sl zje)), ∀ (r : Bool), zkt q a0 a1 = some r → (orc T N).deep F.zkt [(Sl.enc zje.enc) a0, (Sl.enc zje.enc) a1] = some [V.bool r] := by
 intro q N hM a0 a1 r h
 rcases q with _ | q
 ·cases h
 obtain ⟨M, rfl⟩ : ∃ M, N = M + 8 := ⟨N - 8, by omega⟩
 have z14 := (z1a q)
 generalize hR : some [V.bool r] = R
 rw [zhv, zt1, y6, zht]
 rw [zkt] at h
 replace h := br h; rcases h with ⟨h1, h⟩ | ⟨h1, h⟩
 ·replace h := z14 M (by omega) (M + 7) (by omega) _ _ _ _ _ _ _ h R hR
  simp only [z08, simprocAttr, *]
 ·cases h; subst hR; simp only [z08, simprocAttr, *]
def z1c := And.intro @kk <| And.intro @ke <| And.intro @kn <| And.intro @zuz <| And.intro @zu6 <| And.intro @zv3 <| @zu1
theorem z1d : ∀ (q N : Nat), 8 * q ≤ N → ∀ (a0 a1 : zjf), ∀ (r : Bool), zku q a0 a1 = some r → (orc T N).deep F.zku [zjf.enc a0, zjf.enc a1] = some [V.bool r] := by
 intro q N hM a0 a1 r h
 rcases q with _ | q
 ·cases h
 obtain ⟨M, rfl⟩ : ∃ M, N = M + 8 := ⟨N - 8, by omega⟩
 generalize hR : some [V.bool r] = R
 rw [zhv, zto, y6, zht]
 rw [zku] at h
 replace h := br h; rcases h with ⟨h1, h⟩ | ⟨h1, h⟩
 ·replace h := ob h; obtain ⟨r1, h2, h⟩ := h
  replace h2 := z06 q (M + 7) (by omega) _ _ _ h2
  try simp only [kf, simprocAttr] at h2
  replace h := bb h; rcases h with ⟨h3', h3, h⟩ | ⟨h3', h3, h⟩
  ·replace h := ob h; obtain ⟨r2, h4, h⟩ := h
   replace h4 := z1b q (M + 7) (by omega) _ _ _ h4
   try simp only [kf, simprocAttr] at h4
   cases h; subst hR; simp only [z1c, simprocAttr, *]
  ·cases h; subst hR; simp only [z1c, simprocAttr, *]
 ·cases h; subst hR; simp only [z1c, simprocAttr, *]
def z1e := And.intro @kk <| And.intro @ke <| And.intro @kn <| And.intro @zuk <| And.intro @zur <| And.intro @zux <| And.intro @zu0 <| @zum
theorem z1f : ∀ (q N : Nat), 8 * q ≤ N → ∀ (r : Bool), zkv q = some r → (orc T N).deep F.zkv [] = some [V.bool r] := by
 intro q N hM r h
 rcases q with _ | q
 ·cases h
 obtain ⟨M, rfl⟩ : ∃ M, N = M + 8 := ⟨N - 8, by omega⟩
 generalize hR : some [V.bool r] = R
 rw [zhv, ztj, y6, zht]
 rw [zkv] at h
 replace h := ob h; obtain ⟨r1, h1, h⟩ := h
 replace h1 := zzw q (M + 7) (by omega) _ _ _ h1
 try simp only [kf, simprocAttr] at h1
 replace h := ob h; obtain ⟨r2, h2, h⟩ := h
 replace h2 := z0z q (M + 7) (by omega) _ _ _ h2
 try simp only [kf, simprocAttr] at h2
 replace h := br h; rcases h with ⟨h3, h⟩ | ⟨h3, h⟩
 ·replace h := br h; rcases h with ⟨h4, h⟩ | ⟨h4, h⟩
  ·replace h := br h; rcases h with ⟨h5, h⟩ | ⟨h5, h⟩
   ·replace h := br h; rcases h with ⟨h6, h⟩ | ⟨h6, h⟩
    ·replace h := br h; rcases h with ⟨h7, h⟩ | ⟨h7, h⟩
     ·replace h := ob h; obtain ⟨e3, h8, h⟩ := h
      replace h := br h; rcases h with ⟨h9, h⟩ | ⟨h9, h⟩
      ·replace h := ob h; obtain ⟨r4, h10, h⟩ := h
       replace h10 := z1d q (M + 7) (by omega) _ _ _ h10
       try simp only [kf, simprocAttr] at h10
       cases h; subst hR; simp only [z1e, simprocAttr, *]
      ·cases h; subst hR; simp only [z1e, simprocAttr, *]
     ·cases h; subst hR; simp only [z1e, simprocAttr, *]
    ·cases h; subst hR; simp only [z1e, simprocAttr, *]
   ·cases h; subst hR; simp only [z1e, simprocAttr, *]
  ·cases h; subst hR; simp only [z1e, simprocAttr, *]
 ·cases h; subst hR; simp only [z1e, simprocAttr, *]
def z1g := And.intro @kk <| And.intro @ke <| And.intro @kn <| And.intro @zu8 <| @zva
theorem z1h : ∀ (q N : Nat), 8 * q ≤ N → ∀ (a0 : zjd), ∀ (r : Bool), zkw q a0 = some r → (orc T N).deep F.zkw [zjd.enc a0] = some [V.bool r] := by
 intro q N hM a0 r h
 rcases q with _ | q
 ·cases h
 obtain ⟨M, rfl⟩ : ∃ M, N = M + 8 := ⟨N - 8, by omega⟩
 generalize hR : some [V.bool r] = R
 rw [zhv, ztr, y6, zht]
 rw [zkw] at h
 cases h; subst hR; simp only [z1g, simprocAttr, *]
def z1i := And.intro @kk <| And.intro @ke <| And.intro @kn <| And.intro @zun <| And.intro @zu9 <| @zup
theorem z1j : ∀ (q N : Nat), 8 * q ≤ N → ∀ (a0 : zjf), ∀ (r : Bool), zkx q a0 = some r → (orc T N).deep F.zkx [zjf.enc a0] = some [V.bool r] := by
 intro q N hM a0 r h
 rcases q with _ | q
 ·cases h
 obtain ⟨M, rfl⟩ : ∃ M, N = M + 8 := ⟨N - 8, by omega⟩
 generalize hR : some [V.bool r] = R
 rw [zhv, ztk, y6, zht]
 rw [zkx] at h
 replace h := ob h; obtain ⟨r1, h1, h⟩ := h
 replace h1 := z1h q (M + 7) (by omega) _ _ h1
 try simp only [kf, simprocAttr] at h1
 replace h := bb h; rcases h with ⟨h2', h2, h⟩ | ⟨h2', h2, h⟩
 ·cases h; subst hR; simp only [z1i, simprocAttr, *]
 ·cases h; subst hR; simp only [z1i, simprocAttr, *]
def z1k := And.intro @kk <| And.intro @ke <| And.intro @kn <| And.intro @zuh <| And.intro @zul <| And.intro @zuo <| And.intro @zur <| @zuj
theorem z1l : ∀ (q N : Nat), 8 * q ≤ N → ∀ (a0 a1 : zjf), ∀ (r : Bool), zky q a0 a1 = some r → (orc T N).deep F.zky [zjf.enc a0, zjf.enc a1] = some [V.bool r] := by
 intro q N hM a0 a1 r h
 rcases q with _ | q
 ·cases h
 obtain ⟨M, rfl⟩ : ∃ M, N = M + 8 := ⟨N - 8, by omega⟩
 generalize hR : some [V.bool r] = R
 rw [zhv, zti, y6, zht]
 rw [zky] at h
 replace h := ob h; obtain ⟨r1, h1, h⟩ := h
 replace h1 := z1f q (M + 7) (by omega)  _ h1
 replace h := ob h; obtain ⟨r2, h2, h⟩ := h
 replace h2 := z1j q (M + 7) (by omega) _ _ h2
 try simp only [kf, simprocAttr] at h2
 replace h := ob h; obtain ⟨r3, h3, h⟩ := h
 replace h3 := z1j q (M + 7) (by omega) _ _ h3
 try simp only [kf, simprocAttr] at h3
 replace h := bb h; rcases h with ⟨h4', h4, h⟩ | ⟨h4', h4, h⟩
 ·replace h := bb h; rcases h with ⟨h5', h5, h⟩ | ⟨h5', h5, h⟩
  ·replace h := bb h; rcases h with ⟨h6', h6, h⟩ | ⟨h6', h6, h⟩
   ·replace h := ob h; obtain ⟨r4, h7, h⟩ := h
    replace h7 := zzw q (M + 7) (by omega) _ _ _ h7
    try simp only [kf, simprocAttr] at h7
    replace h := br h; rcases h with ⟨h8, h⟩ | ⟨h8, h⟩
    ·replace h := br h; rcases h with ⟨h9, h⟩ | ⟨h9, h⟩
     ·replace h := br h; rcases h with ⟨h10, h⟩ | ⟨h10, h⟩
      ·replace h := br h; rcases h with ⟨h11, h⟩ | ⟨h11, h⟩
       ·cases h; subst hR; simp only [z1k, simprocAttr, *]
       ·cases h; subst hR; simp only [z1k, simprocAttr, *]
      ·cases h; subst hR; simp only [z1k, simprocAttr, *]
     ·cases h; subst hR; simp only [z1k, simprocAttr, *]
    ·replace h := br h; rcases h with ⟨h12, h⟩ | ⟨h12, h⟩
     ·replace h := br h; rcases h with ⟨h13, h⟩ | ⟨h13, h⟩
      ·cases h; subst hR; simp only [z1k, simprocAttr, *]
      ·cases h; subst hR; simp only [z1k, simprocAttr, *]
     ·cases h; subst hR; simp only [z1k, simprocAttr, *]
   ·cases h; subst hR; simp only [z1k, simprocAttr, *]
  ·cases h; subst hR; simp only [z1k, simprocAttr, *]
 ·cases h; subst hR; simp only [z1k, simprocAttr, *]
end Go.Dvm.C
