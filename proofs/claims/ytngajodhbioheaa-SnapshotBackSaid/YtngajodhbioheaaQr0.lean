/- The machine comes to these answers: part 1. -/
import Derived.Test.YtngajodhbioheaaQl0
set_option linter.all false
set_option maxRecDepth 100000
set_option maxHeartbeats 4000000
namespace Go.Dvm.C
open Go Go.Dvm Go.Dvm.I
def zbqk := And.intro @kk <| And.intro @ke <| And.intro @kn <| And.intro @zbk1 <| @zbk3
theorem zbql : ∀ (q N : Nat), 8 * q ≤ N → ∀ (a0 r : Int), zjp q a0 = some r → (orc T N).deep F.zjp [(V.int .i64) a0] = some [(V.int .i64) r] := by
 intro q N hM a0 r h
 rcases q with _ | q
 ·cases h
 obtain ⟨M, rfl⟩ : ∃ M, N = M + 8 := ⟨N - 8, by omega⟩
 generalize hR : some [(V.int .i64) r] = R
 rw [zhs, zbgo, y4, zhq]
 rw [zjp] at h
 cases h; subst hR; simp only [zbqk, simprocAttr, *]
def zbqm := And.intro @kk <| And.intro @ke <| And.intro @kn <| And.intro @zbky <| And.intro @zbk2 <| @zbk0
theorem zbqn : ∀ (q N : Nat), 8 * q ≤ N → ∀ (a0 : Int), ∀ (r : Bool), zjq q a0 = some r → (orc T N).deep F.zjq [(V.int .i64) a0] = some [V.bool r] := by
 intro q N hM a0 r h
 rcases q with _ | q
 ·cases h
 obtain ⟨M, rfl⟩ : ∃ M, N = M + 8 := ⟨N - 8, by omega⟩
 generalize hR : some [V.bool r] = R
 rw [zhs, zbgn, y4, zhq]
 rw [zjq] at h
 replace h := ob h; obtain ⟨r1, h1, h⟩ := h
 replace h1 := zbql q (M + 7) (by omega) _ _ h1
 cases h; subst hR; simp only [zbqm, simprocAttr, *]
def zbqo (q : Nat) : Prop := ∀ (M : Nat) (hM : 8 * q ≤ M) (j : Nat) (hj : q ≤ j) (v0z : Bool) (v0l : List Int) (v1 v5 v6 : Int) (r : Bool) (_ : zjr q v0z v0l v1 v5 v6 = some r) (R : Option (List V)) (_ : some [V.bool r] = R) (fr : Fr) (H : Hp) (_ : canon 0 [0, 1, 5, 6] fr H = ([(0, (.sl v0z (List.map (V.int .i64) v0l))), (1, (.int .i64 v1)), (5, (.int .i64 v5)), (6, (.int .i64 v6))], [])), fin zyl (unw T (orc T (M + 7)) (M + 7) 0 [.blk 0, .code zyh] (iter 0 [0, 1, 5, 6] (exec T (orc T (M + 7)) (M + 7) 0 zye) j fr H)) = R
def zbqp := And.intro @kk <| And.intro @ke <| And.intro @kn <| And.intro @zbk4 <| @zbk6
theorem zbqq (q : Nat) (zbu1 : zbqo q) : zbqo (q + 1) := by
 intro M hM j hj v0z v0l v1 v5 v6 r h R hR fr H hc
 obtain ⟨j, rfl⟩ : ∃ i, j = i + 1 := ⟨j - 1, by omega⟩
 rw [zhj, hc]; clear hc
 rw [zjr] at h
 replace h := br h; rcases h with ⟨h1, h⟩ | ⟨h1, h⟩
 ·replace h := bn h; obtain ⟨h2, h⟩ := h
  replace h := ob h; obtain ⟨e1, h3, h⟩ := h
  replace h := br h; rcases h with ⟨h4, h⟩ | ⟨h4, h⟩
  ·cases h; subst hR; simp only [zbqp, simprocAttr, *]
  ·replace h := br h; rcases h with ⟨h5, h⟩ | ⟨h5, h⟩
   ·cases h; subst hR; simp only [zbqp, simprocAttr, *]
   ·replace h := bn h; obtain ⟨h6, h⟩ := h
    replace h := ob h; obtain ⟨e2, h7, h⟩ := h
    replace h := br h; rcases h with ⟨h8, h⟩ | ⟨h8, h⟩
    ·cases h; subst hR; simp only [zbqp, simprocAttr, *]
    ·replace h := br h; rcases h with ⟨h9, h⟩ | ⟨h9, h⟩
     ·cases h; subst hR; simp only [zbqp, simprocAttr, *]
     ·replace h := zbu1 M (by omega) j (by omega) _ _ _ _ _ _ h R hR
      simp only [zbqp, simprocAttr, *]
 ·replace h := br h; rcases h with ⟨h10, h⟩ | ⟨h10, h⟩
  ·cases h; subst hR; simp only [zbqp, simprocAttr, *]
  ·cases h; subst hR; simp only [zbqp, simprocAttr, *]
theorem zbqr : ∀ q, zbqo q
 | 0 => by intro M hM j hj; intros; rename_i h _ _ _ _ _; cases h
 | q + 1 => by have i0 := zbqr q; exact zbqq q i0
theorem zbqs : ∀ (q N : Nat), 8 * q ≤ N → ∀ (a0 : (Sl Int)) (a1 : Int), ∀ (r : Bool), zjs q a0 a1 = some r → (orc T N).deep F.zjs [(Sl.enc (V.int .i64)) a0, (V.int .i64) a1] = some [V.bool r] := by
 intro q N hM a0 a1 r h
 rcases q with _ | q
 ·cases h
 obtain ⟨M, rfl⟩ : ∃ M, N = M + 8 := ⟨N - 8, by omega⟩
 have zbu1 := (zbqr q)
 generalize hR : some [V.bool r] = R
 rw [zhs, zbgp, y4, zhq]
 rw [zjs] at h
 replace h := zbu1 M (by omega) (M + 7) (by omega) _ _ _ _ _ _ h R hR
 simp only [zbqp, simprocAttr, *]
def zbqt (q : Nat) : Prop := ∀ (M : Nat) (hM : 8 * q ≤ M) (j : Nat) (hj : q ≤ j) (v0z : Bool) (v0l : List Int) (v7 v8 h0_0 : Int) (h0_1z : Bool) (h0_1l : List Int) (h0_2 : Bool) (h0_3 r : Int) (_ : zjt q v0z v0l v7 v8 h0_0 h0_1z h0_1l h0_2 h0_3 = some r) (R : Option (List V × Hp)) (_ : (some ([(.int .i64 r)], [(.box [(.int .i64 h0_0), (.sl h0_1z (List.map (V.int .i64) h0_1l)), (.bool h0_2), (.int .i64 h0_3)])]) : Option (List V × Hp)) = R) (fr : Fr) (H : Hp) (_ : canon 1 [0, 1, 7, 8] fr H = ([(0, (.sl v0z (List.map (V.int .i64) v0l))), (1, (.fn F.zjq [])), (7, (.int .i64 v7)), (8, (.int .i64 v8))], [(.box [(.int .i64 h0_0), (.sl h0_1z (List.map (V.int .i64) h0_1l)), (.bool h0_2), (.int .i64 h0_3)])])), finI 1 false [.tmp 4] (unw T (orc T (M + 5)) (M + 5) 1 [.blk 0, .code z9d] (iter 1 [0, 1, 7, 8] (exec T (orc T (M + 5)) (M + 5) 1 z9a) j fr H)) = R
def zbqu := And.intro @kk <| And.intro @ke <| And.intro @kn <| And.intro @zbmy <| @zbkz
theorem zbqv (q : Nat) (zbu2 : zbqt q) : zbqt (q + 1) := by
 intro M hM j hj v0z v0l v7 v8 h0_0 h0_1z h0_1l h0_2 h0_3 r h R hR fr H hc
 obtain ⟨j, rfl⟩ : ∃ i, j = i + 1 := ⟨j - 1, by omega⟩
 rw [zhj, hc]; clear hc
 rw [zjt] at h
 replace h := br h; rcases h with ⟨h1, h⟩ | ⟨h1, h⟩
 ·replace h := bn h; obtain ⟨h2, h⟩ := h
  replace h := ob h; obtain ⟨e1, h3, h⟩ := h
  replace h := ob h; obtain ⟨r2, h4, h⟩ := h
  replace h4 := zbqn q (M + 5) (by omega) _ _ h4
  replace h := bb h; rcases h with ⟨h5', h5, h⟩ | ⟨h5', h5, h⟩
  ·cases h; subst hR; simp only [zbqu, simprocAttr, *]
  ·replace h := zbu2 M (by omega) j (by omega) _ _ _ _ _ _ _ _ _ _ h R hR
   simp only [zbqu, simprocAttr, *]
 ·cases h; subst hR; simp only [zbqu, simprocAttr, *]
theorem zbqw : ∀ q, zbqt q
 | 0 => by intro M hM j hj; intros; rename_i h _ _ _ _ _; cases h
 | q + 1 => by have i0 := zbqw q; exact zbqv q i0
theorem zbqx : ∀ (q M : Nat), 8 * q ≤ M → ∀ (v0z : Bool), ∀ (v0l : List Int), ∀ (h0_0 : Int), ∀ (h0_1z : Bool), ∀ (h0_1l : List Int), ∀ (h0_2 : Bool), ∀ (h0_3 r : Int), zju q v0z v0l h0_0 h0_1z h0_1l h0_2 h0_3 = some r → (orc T (M + 6)).inl F.zms [(.sl v0z (List.map (V.int .i64) v0l)), (.fn F.zjq [])] [(.box [(.int .i64 h0_0), (.sl h0_1z (List.map (V.int .i64) h0_1l)), (.bool h0_2), (.int .i64 h0_3)])] = (some ([(.int .i64 r)], [(.box [(.int .i64 h0_0), (.sl h0_1z (List.map (V.int .i64) h0_1l)), (.bool h0_2), (.int .i64 h0_3)])]) : Option (List V × Hp)) := by
 intro q M hM v0z v0l h0_0 h0_1z h0_1l h0_2 h0_3 r h
 rcases q with _ | q
 ·cases h
 have zbu2 := (zbqw q)
 generalize hR : (some ([(.int .i64 r)], [(.box [(.int .i64 h0_0), (.sl h0_1z (List.map (V.int .i64) h0_1l)), (.bool h0_2), (.int .i64 h0_3)])]) : Option (List V × Hp)) = R
 rw [zbm0 (n := M + 5)]
 rw [zju] at h
 replace h := zbu2 M (by omega) (M + 5) (by omega) _ _ _ _ _ _ _ _ _ _ h R hR
 simp only [zbqu, simprocAttr, *]
def zbqy := And.intro @kk <| And.intro @ke <| And.intro @kn <| And.intro @zbis <| And.intro @zbkv <| And.intro @zbk5 <| And.intro @zbmz <| And.intro @zbkw <| And.intro @zbkx <| @zbiu
theorem zbqz : ∀ (q N : Nat), 8 * q ≤ N → ∀ (a0 : zji), ∀ (r : Bool), zjv q a0 = some r → (orc T N).deep F.zjv [zji.enc a0] = some [V.bool r] := by
 intro q N hM a0 r h
 rcases q with _ | q
 ·cases h
 obtain ⟨M, rfl⟩ : ∃ M, N = M + 8 := ⟨N - 8, by omega⟩
 generalize hR : some [V.bool r] = R
 rw [zhs, zbfx, y4, zhq]
 rw [zjv] at h
 replace h := br h; rcases h with ⟨h1, h⟩ | ⟨h1, h⟩
 ·cases h; subst hR; simp only [zbqy, simprocAttr, *]
 ·replace h := br h; rcases h with ⟨h2, h⟩ | ⟨h2, h⟩
  ·cases h; subst hR; simp only [zbqy, simprocAttr, *]
  ·replace h := bb h; rcases h with ⟨h3', h3, h⟩ | ⟨h3', h3, h⟩
   ·replace h := ob h; obtain ⟨r1, h4, h⟩ := h
    replace h4 := zbqx q M (by omega) _ _ _ _ _ _ _ _ h4
    try simp only [kf, simprocAttr] at h4
    replace h := br h; rcases h with ⟨h5, h⟩ | ⟨h5, h⟩
    ·replace h := br h; rcases h with ⟨h6, h⟩ | ⟨h6, h⟩
     ·cases h; subst hR; simp only [zbqy, simprocAttr, *]
     ·cases h; subst hR; simp only [zbqy, simprocAttr, *]
    ·replace h := br h; rcases h with ⟨h7, h⟩ | ⟨h7, h⟩
     ·replace h := br h; rcases h with ⟨h8, h⟩ | ⟨h8, h⟩
      ·cases h; subst hR; simp only [zbqy, simprocAttr, *]
      ·cases h; subst hR; simp only [zbqy, simprocAttr, *]
     ·replace h := br h; rcases h with ⟨h9, h⟩ | ⟨h9, h⟩
      ·replace h := br h; rcases h with ⟨h10, h⟩ | ⟨h10, h⟩
       ·cases h; subst hR; simp only [zbqy, simprocAttr, *]
       ·cases h; subst hR; simp only [zbqy, simprocAttr, *]
      ·replace h := br h; rcases h with ⟨h11, h⟩ | ⟨h11, h⟩
       ·replace h := br h; rcases h with ⟨h12, h⟩ | ⟨h12, h⟩
        ·cases h; subst hR; simp only [zbqy, simprocAttr, *]
        ·cases h; subst hR; simp only [zbqy, simprocAttr, *]
       ·replace h := br h; rcases h with ⟨h13, h⟩ | ⟨h13, h⟩
        ·replace h := ob h; obtain ⟨r2, h14, h⟩ := h
         replace h14 := zbqs q (M + 7) (by omega) _ _ _ h14
         try simp only [kf, simprocAttr] at h14
         cases h; subst hR; simp only [zbqy, simprocAttr, *]
        ·replace h := br h; rcases h with ⟨h15, h⟩ | ⟨h15, h⟩
         ·replace h := ob h; obtain ⟨r3, h16, h⟩ := h
          replace h16 := zbqs q (M + 7) (by omega) _ _ _ h16
          try simp only [kf, simprocAttr] at h16
          cases h; subst hR; simp only [zbqy, simprocAttr, *]
         ·cases h; subst hR; simp only [zbqy, simprocAttr, *]
   ·replace h := br h; rcases h with ⟨h17, h⟩ | ⟨h17, h⟩
    ·replace h := ob h; obtain ⟨r4, h18, h⟩ := h
     replace h18 := zbqx q M (by omega) _ _ _ _ _ _ _ _ h18
     try simp only [kf, simprocAttr] at h18
     replace h := br h; rcases h with ⟨h19, h⟩ | ⟨h19, h⟩
     ·replace h := br h; rcases h with ⟨h20, h⟩ | ⟨h20, h⟩
      ·cases h; subst hR; simp only [zbqy, simprocAttr, *]
      ·cases h; subst hR; simp only [zbqy, simprocAttr, *]
     ·replace h := br h; rcases h with ⟨h21, h⟩ | ⟨h21, h⟩
      ·replace h := br h; rcases h with ⟨h22, h⟩ | ⟨h22, h⟩
       ·cases h; subst hR; simp only [zbqy, simprocAttr, *]
       ·cases h; subst hR; simp only [zbqy, simprocAttr, *]
      ·replace h := br h; rcases h with ⟨h23, h⟩ | ⟨h23, h⟩
       ·replace h := br h; rcases h with ⟨h24, h⟩ | ⟨h24, h⟩
        ·cases h; subst hR; simp only [zbqy, simprocAttr, *]
        ·cases h; subst hR; simp only [zbqy, simprocAttr, *]
       ·replace h := br h; rcases h with ⟨h25, h⟩ | ⟨h25, h⟩
        ·replace h := br h; rcases h with ⟨h26, h⟩ | ⟨h26, h⟩
         ·cases h; subst hR; simp only [zbqy, simprocAttr, *]
         ·cases h; subst hR; simp only [zbqy, simprocAttr, *]
        ·replace h := br h; rcases h with ⟨h27, h⟩ | ⟨h27, h⟩
         ·replace h := ob h; obtain ⟨r5, h28, h⟩ := h
          replace h28 := zbqs q (M + 7) (by omega) _ _ _ h28
          try simp only [kf, simprocAttr] at h28
          cases h; subst hR; simp only [zbqy, simprocAttr, *]
         ·replace h := br h; rcases h with ⟨h29, h⟩ | ⟨h29, h⟩
          ·replace h := ob h; obtain ⟨r6, h30, h⟩ := h
           replace h30 := zbqs q (M + 7) (by omega) _ _ _ h30
           try simp only [kf, simprocAttr] at h30
           cases h; subst hR; simp only [zbqy, simprocAttr, *]
          ·cases h; subst hR; simp only [zbqy, simprocAttr, *]
    ·cases h; subst hR; simp only [zbqy, simprocAttr, *]
def zbq0 := And.intro @kk <| And.intro @ke <| And.intro @kn <| And.intro @zbk7 <| @zbk9
theorem zbq1 : ∀ (q N : Nat), 8 * q ≤ N → ∀ (a0 : zjj), ∀ (r : Bool), zjw q a0 = some r → (orc T N).deep F.zjw [zjj.enc a0] = some [V.bool r] := by
 intro q N hM a0 r h
 rcases q with _ | q
 ·cases h
 obtain ⟨M, rfl⟩ : ∃ M, N = M + 8 := ⟨N - 8, by omega⟩
 generalize hR : some [V.bool r] = R
 rw [zhs, zbgq, y4, zhq]
 rw [zjw] at h
 replace h := br h; rcases h with ⟨h1, h⟩ | ⟨h1, h⟩
 ·replace h := br h; rcases h with ⟨h2, h⟩ | ⟨h2, h⟩
  ·replace h := br h; rcases h with ⟨h3, h⟩ | ⟨h3, h⟩
   ·replace h := br h; rcases h with ⟨h4, h⟩ | ⟨h4, h⟩
    ·replace h := br h; rcases h with ⟨h5, h⟩ | ⟨h5, h⟩
     ·cases h; subst hR; simp only [zbq0, simprocAttr, *]
     ·cases h; subst hR; simp only [zbq0, simprocAttr, *]
    ·cases h; subst hR; simp only [zbq0, simprocAttr, *]
   ·cases h; subst hR; simp only [zbq0, simprocAttr, *]
  ·cases h; subst hR; simp only [zbq0, simprocAttr, *]
 ·cases h; subst hR; simp only [zbq0, simprocAttr, *]
def zbq2 (q : Nat) : Prop := ∀ (M : Nat) (hM : 8 * q ≤ M) (j : Nat) (hj : q ≤ j) (v0z : Bool) (v0l : List zjj) (v5z : Bool) (v5l : List zjj) (v6 v7 : Int) (r : Bool) (_ : zjx q v0z v0l v5z v5l v6 v7 = some r) (R : Option (List V)) (_ : some [V.bool r] = R) (fr : Fr) (H : Hp) (_ : canon 0 [0, 5, 6, 7] fr H = ([(0, (.sl v0z (List.map zjj.enc v0l))), (5, (.sl v5z (List.map zjj.enc v5l))), (6, (.int .i64 v6)), (7, (.int .i64 v7))], [])), fin zqm (unw T (orc T (M + 7)) (M + 7) 0 [.blk 0, .code zqj] (iter 0 [0, 5, 6, 7] (exec T (orc T (M + 7)) (M + 7) 0 zqg) j fr H)) = R
def zbq3 := And.intro @kk <| And.intro @ke <| And.intro @kn <| And.intro @zbiv <| And.intro @zbk8 <| @zbix
theorem zbq4 (q : Nat) (zbu3 : zbq2 q) : zbq2 (q + 1) := by
 intro M hM j hj v0z v0l v5z v5l v6 v7 r h R hR fr H hc
 obtain ⟨j, rfl⟩ : ∃ i, j = i + 1 := ⟨j - 1, by omega⟩
 rw [zhj, hc]; clear hc
 rw [zjx] at h
 replace h := br h; rcases h with ⟨h1, h⟩ | ⟨h1, h⟩
 ·replace h := bn h; obtain ⟨h2, h⟩ := h
  replace h := ob h; obtain ⟨e1, h3, h⟩ := h
  replace h := ob h; obtain ⟨r2, h4, h⟩ := h
  replace h4 := zbq1 q (M + 7) (by omega) _ _ h4
  try simp only [kf, simprocAttr] at h4
  replace h := bb h; rcases h with ⟨h5', h5, h⟩ | ⟨h5', h5, h⟩
  ·replace h := br h; rcases h with ⟨h6, h⟩ | ⟨h6, h⟩
   ·replace h := bn h; obtain ⟨h7, h⟩ := h
    replace h := ob h; obtain ⟨e3, h8, h⟩ := h
    replace h := br h; rcases h with ⟨h9, h⟩ | ⟨h9, h⟩
    ·cases h; subst hR; simp only [zbq3, simprocAttr, *]
    ·replace h := zbu3 M (by omega) j (by omega) _ _ _ _ _ _ _ h R hR
     simp only [zbq3, simprocAttr, *]
   ·replace h := zbu3 M (by omega) j (by omega) _ _ _ _ _ _ _ h R hR
    simp only [zbq3, simprocAttr, *]
  ·cases h; subst hR; simp only [zbq3, simprocAttr, *]
 ·cases h; subst hR; simp only [zbq3, simprocAttr, *]
theorem zbq5 : ∀ q, zbq2 q
 | 0 => by intro M hM j hj; intros; rename_i h _ _ _ _ _; cases h
 | q + 1 => by have i0 := zbq5 q; exact zbq4 q i0
theorem zbq6 : ∀ (q N : Nat), 8 * q ≤ N → ∀ (a0 : (Sl zjj)), ∀ (r : Bool), zjy q a0 = some r → (orc T N).deep F.zjy [(Sl.enc zjj.enc) a0] = some [V.bool r] := by
 intro q N hM a0 r h
 rcases q with _ | q
 ·cases h
 obtain ⟨M, rfl⟩ : ∃ M, N = M + 8 := ⟨N - 8, by omega⟩
 have zbu3 := (zbq5 q)
 generalize hR : some [V.bool r] = R
 rw [zhs, zbfy, y4, zhq]
 rw [zjy] at h
 replace h := zbu3 M (by omega) (M + 7) (by omega) _ _ _ _ _ _ _ h R hR
 simp only [zbq3, simprocAttr, *]
def zbq7 := And.intro @kk <| And.intro @ke <| And.intro @kn <| And.intro @zbhy <| And.intro @zbit <| And.intro @zbiw <| @zbh0
theorem zbq8 : ∀ (q N : Nat), 8 * q ≤ N → ∀ (a0 : zjk), ∀ (r : Bool), zjz q a0 = some r → (orc T N).deep F.zjz [zjk.enc a0] = some [V.bool r] := by
 intro q N hM a0 r h
 rcases q with _ | q
 ·cases h
 obtain ⟨M, rfl⟩ : ∃ M, N = M + 8 := ⟨N - 8, by omega⟩
 generalize hR : some [V.bool r] = R
 rw [zhs, zbfn, y4, zhq]
 rw [zjz] at h
 replace h := br h; rcases h with ⟨h1, h⟩ | ⟨h1, h⟩
 ·replace h := br h; rcases h with ⟨h2, h⟩ | ⟨h2, h⟩
  ·replace h := ob h; obtain ⟨r1, h3, h⟩ := h
   replace h3 := zbqz q (M + 7) (by omega) _ _ h3
   try simp only [kf, simprocAttr] at h3
   replace h := bb h; rcases h with ⟨h4', h4, h⟩ | ⟨h4', h4, h⟩
   ·replace h := ob h; obtain ⟨r2, h5, h⟩ := h
    replace h5 := zbq6 q (M + 7) (by omega) _ _ h5
    try simp only [kf, simprocAttr] at h5
    cases h; subst hR; simp only [zbq7, simprocAttr, *]
   ·cases h; subst hR; simp only [zbq7, simprocAttr, *]
  ·cases h; subst hR; simp only [zbq7, simprocAttr, *]
 ·cases h; subst hR; simp only [zbq7, simprocAttr, *]
def zbq9 := And.intro @kk <| And.intro @ke <| And.intro @kn <| And.intro @zbip <| @zbir
theorem zbra : ∀ (q N : Nat), 8 * q ≤ N → ∀ (a0 : (Sl Int)), ∀ (r : (Ow Int)), zj0 q a0 = some r → (orc T N).deep F.zj0 [(Sl.enc (V.int .i64)) a0] = some [(Ow.enc 1 (V.int .i64)) r] := by
 intro q N hM a0 r h
 rcases q with _ | q
 ·cases h
 obtain ⟨M, rfl⟩ : ∃ M, N = M + 8 := ⟨N - 8, by omega⟩
 generalize hR : some [(Ow.enc 1 (V.int .i64)) r] = R
 rw [zhs, zbfw, y4, zhq]
 rw [zj0] at h
 replace h := bb h; rcases h with ⟨h1', h1, h⟩ | ⟨h1', h1, h⟩
 ·cases h; subst hR; simp only [zbq9, simprocAttr, *]
 ·replace h := bn h; obtain ⟨h2, h⟩ := h
  cases h; subst hR; simp only [zbq9, simprocAttr, *]
def zbrb := And.intro @kk <| And.intro @ke <| And.intro @kn <| And.intro @zbjj <| @zbjl
theorem zbrc : ∀ (q N : Nat), 8 * q ≤ N → ∀ (a0 : (Sl zjj)), ∀ (r : (Ow zjj)), zj1 q a0 = some r → (orc T N).deep F.zj1 [(Sl.enc zjj.enc) a0] = some [(Ow.enc 3 zjj.enc) r] := by
 intro q N hM a0 r h
 rcases q with _ | q
 ·cases h
 obtain ⟨M, rfl⟩ : ∃ M, N = M + 8 := ⟨N - 8, by omega⟩
 generalize hR : some [(Ow.enc 3 zjj.enc) r] = R
 rw [zhs, zbf6, y4, zhq]
 rw [zj1] at h
 replace h := bb h; rcases h with ⟨h1', h1, h⟩ | ⟨h1', h1, h⟩
 ·cases h; subst hR; simp only [zbrb, simprocAttr, *]
 ·replace h := bn h; obtain ⟨h2, h⟩ := h
  cases h; subst hR; simp only [zbrb, simprocAttr, *]
def zbrd := And.intro @kk <| And.intro @ke <| And.intro @kn <| And.intro @zbjv <| @zbjx
theorem zbre : ∀ (q N : Nat), 8 * q ≤ N → ∀ (a0 : (Ow zjj)) (a1 : Int) (a2 : (Sl zjj)), ∀ (r : (Ow zjj)), zj2 q a0 a1 a2 = some r → (orc T N).deep F.zj2 [(Ow.enc 3 zjj.enc) a0, (V.int .i64) a1, (Sl.enc zjj.enc) a2] = some [(Ow.enc 3 zjj.enc) r] := by
 intro q N hM a0 a1 a2 r h
 rcases q with _ | q
 ·cases h
 obtain ⟨M, rfl⟩ : ∃ M, N = M + 8 := ⟨N - 8, by omega⟩
 generalize hR : some [(Ow.enc 3 zjj.enc) r] = R
 rw [zhs, zbga, y4, zhq]
 rw [zj2] at h
 replace h := bn h; obtain ⟨h1, h⟩ := h
 replace h := bn h; obtain ⟨h2, h⟩ := h
 replace h := br h; rcases h with ⟨h3, h⟩ | ⟨h3, h⟩
 ·cases h; subst hR; simp only [zbrd, simprocAttr, *]
 ·replace h := bn h; obtain ⟨h4, h⟩ := h
  replace h := bn h; obtain ⟨h5, h⟩ := h
  cases h; subst hR; simp only [zbrd, simprocAttr, *]
def zbrf (q : Nat) : Prop := ∀ (M : Nat) (hM : 8 * q ≤ M) (j : Nat) (hj : q ≤ j) (w1 : Nat) (v7 v8 h0_0 h0_1 h0_2 h0_3 h0_4 h0_5 h0_6 : Int) (h1z : Bool) (h1l : List zjj) (h1x : Bool) (r : Int) (_ : zj3 q v7 v8 h0_0 h0_1 h0_2 h0_3 h0_4 h0_5 h0_6 h1z h1l h1x = some r) (R : Option (List V × Hp)) (_ : (some ([(.int .i64 r)], [(.box [(.int .i64 h0_0), (.int .i64 h0_1), (.int .i64 h0_2), (.int .i64 h0_3), (.int .i64 h0_4), (.int .i64 h0_5), (.int .i64 h0_6)]), (.row w1 h1z 3 (List.map zjj.enc h1l) h1x)]) : Option (List V × Hp)) = R) (fr : Fr) (H : Hp) (_ : canon 2 [0, 1, 7, 8] fr H = ([(0, (.vw 1 w1 0 h1l.length 1)), (1, (.fn F.zmn [(.ptr 0 0)])), (7, (.int .i64 v7)), (8, (.int .i64 v8))], [(.box [(.int .i64 h0_0), (.int .i64 h0_1), (.int .i64 h0_2), (.int .i64 h0_3), (.int .i64 h0_4), (.int .i64 h0_5), (.int .i64 h0_6)]), (.row w1 h1z 3 (List.map zjj.enc h1l) h1x)])), finI 2 false [.tmp 4] (unw T (orc T (M + 5)) (M + 5) 2 [.blk 0, .code ztb] (iter 2 [0, 1, 7, 8] (exec T (orc T (M + 5)) (M + 5) 2 zs8) j fr H)) = R
def zbrg := And.intro @kk <| And.intro @ke <| And.intro @kn <| And.intro @zbjm <| And.intro @zbjp <| And.intro @zbjn <| @zbjo
theorem zbrh (q : Nat) (zbu4 : zbrf q) : zbrf (q + 1) := by
 intro M hM j hj w1 v7 v8 h0_0 h0_1 h0_2 h0_3 h0_4 h0_5 h0_6 h1z h1l h1x r h R hR fr H hc
 obtain ⟨j, rfl⟩ : ∃ i, j = i + 1 := ⟨j - 1, by omega⟩
 rw [zhj, hc]; clear hc
 rw [zj3] at h
 replace h := br h; rcases h with ⟨h1, h⟩ | ⟨h1, h⟩
 ·replace h := bn h; obtain ⟨h2, h⟩ := h
  replace h := bn h; obtain ⟨h3, h⟩ := h
  replace h := ob h; obtain ⟨e1, h4, h⟩ := h
  replace h := br h; rcases h with ⟨h5, h⟩ | ⟨h5, h⟩
  ·cases h; subst hR; simp only [zbrg, simprocAttr, *]
  ·replace h := zbu4 M (by omega) j (by omega) w1 _ _ _ _ _ _ _ _ _ _ _ _ _ h R hR
   simp only [zbrg, simprocAttr, *]
 ·cases h; subst hR; simp only [zbrg, simprocAttr, *]
theorem zbri : ∀ q, zbrf q
 | 0 => by intro M hM j hj; intros; rename_i h _ _ _ _ _; cases h
 | q + 1 => by have i0 := zbri q; exact zbrh q i0
theorem zbrj : ∀ (q M : Nat), 8 * q ≤ M → ∀ (w1 : Nat), ∀ (h0_0 h0_1 h0_2 h0_3 h0_4 h0_5 h0_6 : Int), ∀ (h1z : Bool), ∀ (h1l : List zjj), ∀ (h1x : Bool), ∀ (r : Int), zj4 q h0_0 h0_1 h0_2 h0_3 h0_4 h0_5 h0_6 h1z h1l h1x = some r → (orc T (M + 6)).inl F.zmo [(.vw 1 w1 0 h1l.length 1), (.fn F.zmn [(.ptr 0 0)])] [(.box [(.int .i64 h0_0), (.int .i64 h0_1), (.int .i64 h0_2), (.int .i64 h0_3), (.int .i64 h0_4), (.int .i64 h0_5), (.int .i64 h0_6)]), (.row w1 h1z 3 (List.map zjj.enc h1l) h1x)] = (some ([(.int .i64 r)], [(.box [(.int .i64 h0_0), (.int .i64 h0_1), (.int .i64 h0_2), (.int .i64 h0_3), (.int .i64 h0_4), (.int .i64 h0_5), (.int .i64 h0_6)]), (.row w1 h1z 3 (List.map zjj.enc h1l) h1x)]) : Option (List V × Hp)) := by
 intro q M hM w1 h0_0 h0_1 h0_2 h0_3 h0_4 h0_5 h0_6 h1z h1l h1x r h
 rcases q with _ | q
 ·cases h
 have zbu4 := (zbri q)
 generalize hR : (some ([(.int .i64 r)], [(.box [(.int .i64 h0_0), (.int .i64 h0_1), (.int .i64 h0_2), (.int .i64 h0_3), (.int .i64 h0_4), (.int .i64 h0_5), (.int .i64 h0_6)]), (.row w1 h1z 3 (List.map zjj.enc h1l) h1x)]) : Option (List V × Hp)) = R
 rw [zbjr (n := M + 5)]
 rw [zj4] at h
 replace h := zbu4 M (by omega) (M + 5) (by omega) w1 _ _ _ _ _ _ _ _ _ _ _ _ _ h R hR
 simp only [zbrg, simprocAttr, *]
def zbrk (q : Nat) : Prop := ∀ (M : Nat) (hM : 8 * q ≤ M) (j : Nat) (hj : q ≤ j) (w1 : Nat) (v5 v6 h0_0 h0_1 h0_2 h0_3 h0_4 h0_5 h0_6 : Int) (h1z : Bool) (h1l : List zjj) (h1x : Bool) (r : Nat × (List zjj) × Bool) (_ : zj5 q v5 v6 h0_0 h0_1 h0_2 h0_3 h0_4 h0_5 h0_6 h1z h1l h1x = some r) (R : Option (List V × Hp)) (_ : (some ([(.vw 1 w1 0 r.1 0)], [(.box [(.int .i64 h0_0), (.int .i64 h0_1), (.int .i64 h0_2), (.int .i64 h0_3), (.int .i64 h0_4), (.int .i64 h0_5), (.int .i64 h0_6)]), (.row w1 h1z 3 (List.map zjj.enc r.2.1) r.2.2)]) : Option (List V × Hp)) = R) (fr : Fr) (H : Hp) (_ : canon 2 [0, 1, 5, 6] fr H = ([(0, (.vw 1 w1 0 h1l.length 1)), (1, (.fn F.zmn [(.ptr 0 0)])), (5, (.int .i64 v5)), (6, (.int .i64 v6))], [(.box [(.int .i64 h0_0), (.int .i64 h0_1), (.int .i64 h0_2), (.int .i64 h0_3), (.int .i64 h0_4), (.int .i64 h0_5), (.int .i64 h0_6)]), (.row w1 h1z 3 (List.map zjj.enc h1l) h1x)])), finI 2 true [.tmp 4] (unw T (orc T (M + 6)) (M + 6) 2 [.blk 0, .code zsv] (iter 2 [0, 1, 5, 6] (exec T (orc T (M + 6)) (M + 6) 2 zsq) j fr H)) = R
def zbrl := And.intro @kk <| And.intro @ke <| And.intro @kn <| And.intro @zbjg <| And.intro @zbjm <| And.intro @zbjq <| And.intro @zbjn <| @zbjo
theorem zbrm (q : Nat) (zbu5 : zbrk q) : zbrk (q + 1) := by
 intro M hM j hj w1 v5 v6 h0_0 h0_1 h0_2 h0_3 h0_4 h0_5 h0_6 h1z h1l h1x r h R hR fr H hc
 obtain ⟨j, rfl⟩ : ∃ i, j = i + 1 := ⟨j - 1, by omega⟩
 rw [zhj, hc]; clear hc
 rw [zj5] at h
 replace h := br h; rcases h with ⟨h1, h⟩ | ⟨h1, h⟩
 ·replace h := bn h; obtain ⟨h2, h⟩ := h
  replace h := bn h; obtain ⟨h3, h⟩ := h
  replace h := ob h; obtain ⟨e2, h4, h⟩ := h
  replace h := br h; rcases h with ⟨h5, h⟩ | ⟨h5, h⟩
  ·replace h := zbu5 M (by omega) j (by omega) w1 _ _ _ _ _ _ _ _ _ _ _ _ _ h R hR
   simp only [zbrl, simprocAttr, *]
  ·replace h := bn h; obtain ⟨h6, h⟩ := h
   replace h := bn h; obtain ⟨h7, h⟩ := h
   replace h := ob h; obtain ⟨e3, h8, h⟩ := h
   replace h := bb h; rcases h with ⟨h9', h9, h⟩ | ⟨h9', h9, h⟩
   ·replace h := zbu5 M (by omega) j (by omega) w1 _ _ _ _ _ _ _ _ _ _ _ _ _ h R hR
    simp only [zbrl, simprocAttr, *]
   ·cases h
 ·replace h := bn h; obtain ⟨h10, h⟩ := h
  replace h := bn h; obtain ⟨h11, h⟩ := h
  replace h := bb h; rcases h with ⟨h12', h12, h⟩ | ⟨h12', h12, h⟩
  ·replace h := bn h; obtain ⟨h13, h⟩ := h
   replace h := bb h; rcases h with ⟨h14', h14, h⟩ | ⟨h14', h14, h⟩
   ·cases h; subst hR; simp only [zbrl, simprocAttr, *]
   ·cases h; subst hR; simp only [zbrl, simprocAttr, *]
  ·cases h
theorem zbrn : ∀ q, zbrk q
 | 0 => by intro M hM j hj; intros; rename_i h _ _ _ _ _; cases h
 | q + 1 => by have i0 := zbrn q; exact zbrm q i0
theorem zbro : ∀ (q M : Nat), 8 * q ≤ M → ∀ (w1 : Nat), ∀ (h0_0 h0_1 h0_2 h0_3 h0_4 h0_5 h0_6 : Int), ∀ (h1z : Bool), ∀ (h1l : List zjj), ∀ (h1x : Bool), ∀ (r : Nat × (List zjj) × Bool), zj6 q h0_0 h0_1 h0_2 h0_3 h0_4 h0_5 h0_6 h1z h1l h1x = some r → (orc T (M + 7)).inl F.zmm [(.vw 1 w1 0 h1l.length 1), (.fn F.zmn [(.ptr 0 0)])] [(.box [(.int .i64 h0_0), (.int .i64 h0_1), (.int .i64 h0_2), (.int .i64 h0_3), (.int .i64 h0_4), (.int .i64 h0_5), (.int .i64 h0_6)]), (.row w1 h1z 3 (List.map zjj.enc h1l) h1x)] = (some ([(.vw 1 w1 0 r.1 0)], [(.box [(.int .i64 h0_0), (.int .i64 h0_1), (.int .i64 h0_2), (.int .i64 h0_3), (.int .i64 h0_4), (.int .i64 h0_5), (.int .i64 h0_6)]), (.row w1 h1z 3 (List.map zjj.enc r.2.1) r.2.2)]) : Option (List V × Hp)) := by
 intro q M hM w1 h0_0 h0_1 h0_2 h0_3 h0_4 h0_5 h0_6 h1z h1l h1x r h
 rcases q with _ | q
 ·cases h
 have zbu5 := (zbrn q)
 generalize hR : (some ([(.vw 1 w1 0 r.1 0)], [(.box [(.int .i64 h0_0), (.int .i64 h0_1), (.int .i64 h0_2), (.int .i64 h0_3), (.int .i64 h0_4), (.int .i64 h0_5), (.int .i64 h0_6)]), (.row w1 h1z 3 (List.map zjj.enc r.2.1) r.2.2)]) : Option (List V × Hp)) = R
 rw [zbji (n := M + 6)]
 rw [zj6] at h
 replace h := ob h; obtain ⟨r1, h1, h⟩ := h
 replace h1 := zbrj q M (by omega) w1 _ _ _ _ _ _ _ _ _ _ _ h1
 try simp only [kf, simprocAttr] at h1
 replace h := br h; rcases h with ⟨h2, h⟩ | ⟨h2, h⟩
 ·cases h; subst hR; simp only [zbrl, simprocAttr, *]
 ·replace h := zbu5 M (by omega) (M + 6) (by omega) w1 _ _ _ _ _ _ _ _ _ _ _ _ _ h R hR
  simp only [zbrl, simprocAttr, *]
def zbrp (q : Nat) : Prop := ∀ (M : Nat) (hM : 8 * q ≤ M) (j : Nat) (hj : q ≤ j) (w1 v0len : Nat) (v7 v8 h0_0 h0_1 h0_2 h0_3 h0_4 h0_5 h0_6 : Int) (h1z : Bool) (h1l : List zjj) (h1x : Bool) (r : Int) (_ : zj7 q v0len v7 v8 h0_0 h0_1 h0_2 h0_3 h0_4 h0_5 h0_6 h1z h1l h1x = some r) (R : Option (List V × Hp)) (_ : (some ([(.int .i64 r)], [(.box [(.int .i64 h0_0), (.int .i64 h0_1), (.int .i64 h0_2), (.int .i64 h0_3), (.int .i64 h0_4), (.int .i64 h0_5), (.int .i64 h0_6)]), (.row w1 h1z 3 (List.map zjj.enc h1l) h1x)]) : Option (List V × Hp)) = R) (fr : Fr) (H : Hp) (_ : canon 2 [0, 1, 7, 8] fr H = ([(0, (.vw 1 w1 0 v0len 0)), (1, (.fn F.zmp [(.ptr 0 0)])), (7, (.int .i64 v7)), (8, (.int .i64 v8))], [(.box [(.int .i64 h0_0), (.int .i64 h0_1), (.int .i64 h0_2), (.int .i64 h0_3), (.int .i64 h0_4), (.int .i64 h0_5), (.int .i64 h0_6)]), (.row w1 h1z 3 (List.map zjj.enc h1l) h1x)])), finI 2 false [.tmp 4] (unw T (orc T (M + 6)) (M + 6) 2 [.blk 0, .code ztb] (iter 2 [0, 1, 7, 8] (exec T (orc T (M + 6)) (M + 6) 2 zs8) j fr H)) = R
def zbrq := And.intro @kk <| And.intro @ke <| And.intro @kn <| And.intro @zbjp <| And.intro @zbjs <| And.intro @zbjt <| @zbju
theorem zbrr (q : Nat) (zbu6 : zbrp q) : zbrp (q + 1) := by
 intro M hM j hj w1 v0len v7 v8 h0_0 h0_1 h0_2 h0_3 h0_4 h0_5 h0_6 h1z h1l h1x r h R hR fr H hc
 obtain ⟨j, rfl⟩ : ∃ i, j = i + 1 := ⟨j - 1, by omega⟩
 rw [zhj, hc]; clear hc
 rw [zj7] at h
 replace h := br h; rcases h with ⟨h1, h⟩ | ⟨h1, h⟩
 ·replace h := bn h; obtain ⟨h2, h⟩ := h
  replace h := bn h; obtain ⟨h3, h⟩ := h
  replace h := ob h; obtain ⟨e1, h4, h⟩ := h
  replace h := br h; rcases h with ⟨h5, h⟩ | ⟨h5, h⟩
  ·cases h; subst hR; simp only [zbrq, simprocAttr, *]
  ·replace h := zbu6 M (by omega) j (by omega) w1 _ _ _ _ _ _ _ _ _ _ _ _ _ _ h R hR
   simp only [zbrq, simprocAttr, *]
 ·cases h; subst hR; simp only [zbrq, simprocAttr, *]
theorem zbrs : ∀ q, zbrp q
 | 0 => by intro M hM j hj; intros; rename_i h _ _ _ _ _; cases h
 | q + 1 => by have i0 := zbrs q; exact zbrr q i0
theorem zbrt : ∀ (q M : Nat), 8 * q ≤ M → ∀ (w1 v0len : Nat), ∀ (h0_0 h0_1 h0_2 h0_3 h0_4 h0_5 h0_6 : Int), ∀ (h1z : Bool), ∀ (h1l : List zjj), ∀ (h1x : Bool), ∀ (r : Int), zj8 q v0len h0_0 h0_1 h0_2 h0_3 h0_4 h0_5 h0_6 h1z h1l h1x = some r → (orc T (M + 7)).inl F.zmo [(.vw 1 w1 0 v0len 0), (.fn F.zmp [(.ptr 0 0)])] [(.box [(.int .i64 h0_0), (.int .i64 h0_1), (.int .i64 h0_2), (.int .i64 h0_3), (.int .i64 h0_4), (.int .i64 h0_5), (.int .i64 h0_6)]), (.row w1 h1z 3 (List.map zjj.enc h1l) h1x)] = (some ([(.int .i64 r)], [(.box [(.int .i64 h0_0), (.int .i64 h0_1), (.int .i64 h0_2), (.int .i64 h0_3), (.int .i64 h0_4), (.int .i64 h0_5), (.int .i64 h0_6)]), (.row w1 h1z 3 (List.map zjj.enc h1l) h1x)]) : Option (List V × Hp)) := by
 intro q M hM w1 v0len h0_0 h0_1 h0_2 h0_3 h0_4 h0_5 h0_6 h1z h1l h1x r h
 rcases q with _ | q
 ·cases h
 have zbu6 := (zbrs q)
 generalize hR : (some ([(.int .i64 r)], [(.box [(.int .i64 h0_0), (.int .i64 h0_1), (.int .i64 h0_2), (.int .i64 h0_3), (.int .i64 h0_4), (.int .i64 h0_5), (.int .i64 h0_6)]), (.row w1 h1z 3 (List.map zjj.enc h1l) h1x)]) : Option (List V × Hp)) = R
 rw [zbjr (n := M + 6)]
 rw [zj8] at h
 replace h := zbu6 M (by omega) (M + 6) (by omega) w1 _ _ _ _ _ _ _ _ _ _ _ _ _ _ h R hR
 simp only [zbrq, simprocAttr, *]
def zbru := And.intro @kk <| And.intro @ke <| And.intro @kn <| And.intro @zbia <| And.intro @zbjh <| And.intro @zbjk <| And.intro @zbjq <| And.intro @zbjw <| @zbic
theorem zbrv : ∀ (q N : Nat), 8 * q ≤ N → ∀ (a0 : (Sl zjj)) (a1 : zjn), ∀ (r : (Ow zjj)), zj9 q a0 a1 = some r → (orc T N).deep F.zj9 [(Sl.enc zjj.enc) a0, zjn.enc a1] = some [(Ow.enc 3 zjj.enc) r] := by
 intro q N hM a0 a1 r h
 rcases q with _ | q
 ·cases h
 obtain ⟨M, rfl⟩ : ∃ M, N = M + 8 := ⟨N - 8, by omega⟩
 generalize hR : some [(Ow.enc 3 zjj.enc) r] = R
 rw [zhs, zbfr, y4, zhq]
 rw [zj9] at h
 replace h := ob h; obtain ⟨r1, h1, h⟩ := h
 replace h1 := zbrc q (M + 7) (by omega) _ _ h1
 try simp only [kf, simprocAttr] at h1
 replace h := ob h; obtain ⟨r2, h2, h⟩ := h
 replace h2 := zbro q M (by omega) 0 _ _ _ _ _ _ _ _ _ _ _ h2
 try simp only [kf, simprocAttr] at h2
 replace h := ob h; obtain ⟨r3, h3, h⟩ := h
 replace h3 := zbrt q M (by omega) 0 _ _ _ _ _ _ _ _ _ _ _ _ h3
 try simp only [kf, simprocAttr] at h3
 replace h := br h; rcases h with ⟨h4, h⟩ | ⟨h4, h⟩
 ·replace h := bb h; rcases h with ⟨h5', h5, h⟩ | ⟨h5', h5, h⟩
  ·replace h := ob h; obtain ⟨r4, h6, h⟩ := h
   replace h6 := zbre q (M + 7) (by omega) _ _ _ _ h6
   try simp only [kf, simprocAttr] at h6
   cases h; subst hR; simp only [zbru, simprocAttr, *]
  ·cases h
 ·replace h := bb h; rcases h with ⟨h7', h7, h⟩ | ⟨h7', h7, h⟩
  ·replace h := ob h; obtain ⟨r5, h8, h⟩ := h
   replace h8 := zbre q (M + 7) (by omega) _ _ _ _ h8
   try simp only [kf, simprocAttr] at h8
   cases h; subst hR; simp only [zbru, simprocAttr, *]
  ·cases h
def zbrw (q : Nat) : Prop := ∀ (M : Nat) (hM : 8 * q ≤ M) (j : Nat) (hj : q ≤ j) (v0z : Bool) (v0l : List Int) (v1z : Bool) (v1l : List Int) (v12 v13 : Int) (r : Bool) (_ : zka q v0z v0l v1z v1l v12 v13 = some r) (R : Option (List V)) (_ : some [V.bool r] = R) (fr : Fr) (H : Hp) (_ : canon 0 [0, 1, 12, 13] fr H = ([(0, (.sl v0z (List.map (V.int .i64) v0l))), (1, (.sl v1z (List.map (V.int .i64) v1l))), (12, (.int .i64 v12)), (13, (.int .i64 v13))], [])), fin zuk (unw T (orc T (M + 7)) (M + 7) 0 [.blk 0, .code zug] (iter 0 [0, 1, 12, 13] (exec T (orc T (M + 7)) (M + 7) 0 zud) j fr H)) = R
def zbrx := And.intro @kk <| And.intro @ke <| And.intro @kn <| And.intro @zbjy <| @zbj0
theorem zbry (q : Nat) (zbu7 : zbrw q) : zbrw (q + 1) := by
 intro M hM j hj v0z v0l v1z v1l v12 v13 r h R hR fr H hc
 obtain ⟨j, rfl⟩ : ∃ i, j = i + 1 := ⟨j - 1, by omega⟩
 rw [zhj, hc]; clear hc
 rw [zka] at h
 replace h := br h; rcases h with ⟨h1, h⟩ | ⟨h1, h⟩
 ·replace h := bn h; obtain ⟨h2, h⟩ := h
  replace h := ob h; obtain ⟨e1, h3, h⟩ := h
  replace h := ob h; obtain ⟨e2, h4, h⟩ := h
  replace h := br h; rcases h with ⟨h5, h⟩ | ⟨h5, h⟩
  ·replace h := zbu7 M (by omega) j (by omega) _ _ _ _ _ _ _ h R hR
   simp only [zbrx, simprocAttr, *]
  ·cases h; subst hR; simp only [zbrx, simprocAttr, *]
 ·cases h; subst hR; simp only [zbrx, simprocAttr, *]
theorem zbrz : ∀ q, zbrw q
 | 0 => by intro M hM j hj; intros; rename_i h _ _ _ _ _; cases h
 | q + 1 => by have i0 := zbrz q; exact zbry q i0
theorem zbr0 : ∀ (q N : Nat), 8 * q ≤ N → ∀ (a0 a1 : (Sl Int)), ∀ (r : Bool), zkb q a0 a1 = some r → (orc T N).deep F.zkb [(Sl.enc (V.int .i64)) a0, (Sl.enc (V.int .i64)) a1] = some [V.bool r] := by
 intro q N hM a0 a1 r h
 rcases q with _ | q
 ·cases h
 obtain ⟨M, rfl⟩ : ∃ M, N = M + 8 := ⟨N - 8, by omega⟩
 have zbu7 := (zbrz q)
 generalize hR : some [V.bool r] = R
 rw [zhs, zbgb, y4, zhq]
 rw [zkb] at h
 replace h := br h; rcases h with ⟨h1, h⟩ | ⟨h1, h⟩
 ·replace h := zbu7 M (by omega) (M + 7) (by omega) _ _ _ _ _ _ _ h R hR
  simp only [zbrx, simprocAttr, *]
 ·cases h; subst hR; simp only [zbrx, simprocAttr, *]
def zbr1 := And.intro @kk <| And.intro @ke <| And.intro @kn <| And.intro @zbig <| And.intro @zbjz <| @zbii
theorem zbr2 : ∀ (q N : Nat), 8 * q ≤ N → ∀ (a0 a1 : zji), ∀ (r : Bool), zkc q a0 a1 = some r → (orc T N).deep F.zkc [zji.enc a0, zji.enc a1] = some [V.bool r] := by
 intro q N hM a0 a1 r h
 rcases q with _ | q
 ·cases h
 obtain ⟨M, rfl⟩ : ∃ M, N = M + 8 := ⟨N - 8, by omega⟩
 generalize hR : some [V.bool r] = R
 rw [zhs, zbft, y4, zhq]
 rw [zkc] at h
 replace h := br h; rcases h with ⟨h1, h⟩ | ⟨h1, h⟩
 ·replace h := bb h; rcases h with ⟨h2', h2, h⟩ | ⟨h2', h2, h⟩
  ·replace h := br h; rcases h with ⟨h3, h⟩ | ⟨h3, h⟩
   ·replace h := ob h; obtain ⟨r1, h4, h⟩ := h
    replace h4 := zbr0 q (M + 7) (by omega) _ _ _ h4
    try simp only [kf, simprocAttr] at h4
    cases h; subst hR; simp only [zbr1, simprocAttr, *]
   ·cases h; subst hR; simp only [zbr1, simprocAttr, *]
  ·cases h; subst hR; simp only [zbr1, simprocAttr, *]
 ·cases h; subst hR; simp only [zbr1, simprocAttr, *]
def zbr3 (q : Nat) : Prop := ∀ (M : Nat) (hM : 8 * q ≤ M) (j : Nat) (hj : q ≤ j) (v0z : Bool) (v0l : List zjj) (v1z : Bool) (v1l : List zjj) (v12 v13 : Int) (r : Bool) (_ : zkd q v0z v0l v1z v1l v12 v13 = some r) (R : Option (List V)) (_ : some [V.bool r] = R) (fr : Fr) (H : Hp) (_ : canon 0 [0, 1, 12, 13] fr H = ([(0, (.sl v0z (List.map zjj.enc v0l))), (1, (.sl v1z (List.map zjj.enc v1l))), (12, (.int .i64 v12)), (13, (.int .i64 v13))], [])), fin zru (unw T (orc T (M + 7)) (M + 7) 0 [.blk 0, .code zrq] (iter 0 [0, 1, 12, 13] (exec T (orc T (M + 7)) (M + 7) 0 zrn) j fr H)) = R
def zbr4 := And.intro @kk <| And.intro @ke <| And.intro @kn <| And.intro @zbi4 <| @zbi6
theorem zbr5 (q : Nat) (zbu8 : zbr3 q) : zbr3 (q + 1) := by
 intro M hM j hj v0z v0l v1z v1l v12 v13 r h R hR fr H hc
 obtain ⟨j, rfl⟩ : ∃ i, j = i + 1 := ⟨j - 1, by omega⟩
 rw [zhj, hc]; clear hc
 rw [zkd] at h
 replace h := br h; rcases h with ⟨h1, h⟩ | ⟨h1, h⟩
 ·replace h := bn h; obtain ⟨h2, h⟩ := h
  replace h := ob h; obtain ⟨e1, h3, h⟩ := h
  replace h := ob h; obtain ⟨e2, h4, h⟩ := h
  replace h := br h; rcases h with ⟨h5, h⟩ | ⟨h5, h⟩
  ·replace h := br h; rcases h with ⟨h6, h⟩ | ⟨h6, h⟩
   ·replace h := br h; rcases h with ⟨h7, h⟩ | ⟨h7, h⟩
    ·replace h := zbu8 M (by omega) j (by omega) _ _ _ _ _ _ _ h R hR
     simp only [zbr4, simprocAttr, *]
    ·cases h; subst hR; simp only [zbr4, simprocAttr, *]
   ·cases h; subst hR; simp only [zbr4, simprocAttr, *]
  ·cases h; subst hR; simp only [zbr4, simprocAttr, *]
 ·cases h; subst hR; simp only [zbr4, simprocAttr, *]
theorem zbr6 : ∀ q, zbr3 q
 | 0 => by intro M hM j hj; intros; rename_i h _ _ _ _ _; cases h
 | q + 1 => by have i0 := zbr6 q; exact zbr5 q i0
theorem zbr7 : ∀ (q N : Nat), 8 * q ≤ N → ∀ (a0 a1 : (Sl zjj)), ∀ (r : Bool), zke q a0 a1 = some r → (orc T N).deep F.zke [(Sl.enc zjj.enc) a0, (Sl.enc zjj.enc) a1] = some [V.bool r] := by
 intro q N hM a0 a1 r h
 rcases q with _ | q
 ·cases h
 obtain ⟨M, rfl⟩ : ∃ M, N = M + 8 := ⟨N - 8, by omega⟩
 have zbu8 := (zbr6 q)
 generalize hR : some [V.bool r] = R
 rw [zhs, zbf1, y4, zhq]
 rw [zke] at h
 replace h := br h; rcases h with ⟨h1, h⟩ | ⟨h1, h⟩
 ·replace h := zbu8 M (by omega) (M + 7) (by omega) _ _ _ _ _ _ _ h R hR
  simp only [zbr4, simprocAttr, *]
 ·cases h; subst hR; simp only [zbr4, simprocAttr, *]
def zbr8 := And.intro @kk <| And.intro @ke <| And.intro @kn <| And.intro @zbh4 <| And.intro @zbih <| And.intro @zbi5 <| @zbh6
theorem zbr9 : ∀ (q N : Nat), 8 * q ≤ N → ∀ (a0 a1 : zjk), ∀ (r : Bool), zkf q a0 a1 = some r → (orc T N).deep F.zkf [zjk.enc a0, zjk.enc a1] = some [V.bool r] := by
 intro q N hM a0 a1 r h
 rcases q with _ | q
 ·cases h
 obtain ⟨M, rfl⟩ : ∃ M, N = M + 8 := ⟨N - 8, by omega⟩
 generalize hR : some [V.bool r] = R
 rw [zhs, zbfp, y4, zhq]
 rw [zkf] at h
 replace h := br h; rcases h with ⟨h1, h⟩ | ⟨h1, h⟩
 ·replace h := ob h; obtain ⟨r1, h2, h⟩ := h
  replace h2 := zbr2 q (M + 7) (by omega) _ _ _ h2
  try simp only [kf, simprocAttr] at h2
  replace h := bb h; rcases h with ⟨h3', h3, h⟩ | ⟨h3', h3, h⟩
  ·replace h := ob h; obtain ⟨r2, h4, h⟩ := h
   replace h4 := zbr7 q (M + 7) (by omega) _ _ _ h4
   try simp only [kf, simprocAttr] at h4
   cases h; subst hR; simp only [zbr8, simprocAttr, *]
  ·cases h; subst hR; simp only [zbr8, simprocAttr, *]
 ·cases h; subst hR; simp only [zbr8, simprocAttr, *]
def zbsa := And.intro @kk <| And.intro @ke <| And.intro @kn <| And.intro @zbim <| @zbio
theorem zbsb : ∀ (q N : Nat), 8 * q ≤ N → ∀ (a0 : zji), ∀ (r : Bool), zkg q a0 = some r → (orc T N).deep F.zkg [zji.enc a0] = some [V.bool r] := by
 intro q N hM a0 r h
 rcases q with _ | q
 ·cases h
 obtain ⟨M, rfl⟩ : ∃ M, N = M + 8 := ⟨N - 8, by omega⟩
 generalize hR : some [V.bool r] = R
 rw [zhs, zbfv, y4, zhq]
 rw [zkg] at h
 cases h; subst hR; simp only [zbsa, simprocAttr, *]
def zbsc := And.intro @kk <| And.intro @ke <| And.intro @kn <| And.intro @zbhv <| And.intro @zbin <| @zbhx
theorem zbsd : ∀ (q N : Nat), 8 * q ≤ N → ∀ (a0 : zjk), ∀ (r : Bool), zkh q a0 = some r → (orc T N).deep F.zkh [zjk.enc a0] = some [V.bool r] := by
 intro q N hM a0 r h
 rcases q with _ | q
 ·cases h
 obtain ⟨M, rfl⟩ : ∃ M, N = M + 8 := ⟨N - 8, by omega⟩
 generalize hR : some [V.bool r] = R
 rw [zhs, zbfm, y4, zhq]
 rw [zkh] at h
 replace h := ob h; obtain ⟨r1, h1, h⟩ := h
 replace h1 := zbsb q (M + 7) (by omega) _ _ h1
 try simp only [kf, simprocAttr] at h1
 replace h := bb h; rcases h with ⟨h2', h2, h⟩ | ⟨h2', h2, h⟩
 ·cases h; subst hR; simp only [zbsc, simprocAttr, *]
 ·cases h; subst hR; simp only [zbsc, simprocAttr, *]
def zbse := And.intro @kk <| And.intro @ke <| And.intro @kn <| And.intro @zbla <| And.intro @zbk2 <| @zblc
theorem zbsf : ∀ (q N : Nat), 8 * q ≤ N → ∀ (a0 : zjm), ∀ (r : Bool), zki q a0 = some r → (orc T N).deep F.zki [zjm.enc a0] = some [V.bool r] := by
 intro q N hM a0 r h
 rcases q with _ | q
 ·cases h
 obtain ⟨M, rfl⟩ : ∃ M, N = M + 8 := ⟨N - 8, by omega⟩
 generalize hR : some [V.bool r] = R
 rw [zhs, zbgr, y4, zhq]
 rw [zki] at h
 replace h := br h; rcases h with ⟨h1, h⟩ | ⟨h1, h⟩
 ·replace h := br h; rcases h with ⟨h2, h⟩ | ⟨h2, h⟩
  ·replace h := ob h; obtain ⟨r1, h3, h⟩ := h
   replace h3 := zbql q (M + 7) (by omega) _ _ h3
   replace h := br h; rcases h with ⟨h4, h⟩ | ⟨h4, h⟩
   ·replace h := ob h; obtain ⟨r2, h5, h⟩ := h
    replace h5 := zbql q (M + 7) (by omega) _ _ h5
    cases h; subst hR; simp only [zbse, simprocAttr, *]
   ·cases h; subst hR; simp only [zbse, simprocAttr, *]
  ·cases h; subst hR; simp only [zbse, simprocAttr, *]
 ·cases h; subst hR; simp only [zbse, simprocAttr, *]
def zbsg := And.intro @kk <| And.intro @ke <| And.intro @kn <| And.intro @zbiy <| And.intro @zblb <| @zbi0
theorem zbsh : ∀ (q N : Nat), 8 * q ≤ N → ∀ (a0 : zjn), ∀ (r : Bool), zkj q a0 = some r → (orc T N).deep F.zkj [zjn.enc a0] = some [V.bool r] := by
 intro q N hM a0 r h
 rcases q with _ | q
 ·cases h
 obtain ⟨M, rfl⟩ : ∃ M, N = M + 8 := ⟨N - 8, by omega⟩
 generalize hR : some [V.bool r] = R
 rw [zhs, zbfz, y4, zhq]
 rw [zkj] at h
 replace h := br h; rcases h with ⟨h1, h⟩ | ⟨h1, h⟩
 ·replace h := br h; rcases h with ⟨h2, h⟩ | ⟨h2, h⟩
  ·replace h := br h; rcases h with ⟨h3, h⟩ | ⟨h3, h⟩
   ·replace h := br h; rcases h with ⟨h4, h⟩ | ⟨h4, h⟩
    ·replace h := br h; rcases h with ⟨h5, h⟩ | ⟨h5, h⟩
     ·replace h := br h; rcases h with ⟨h6, h⟩ | ⟨h6, h⟩
      ·replace h := ob h; obtain ⟨r1, h7, h⟩ := h
       replace h7 := zbsf q (M + 7) (by omega) _ _ h7
       try simp only [kf, simprocAttr] at h7
       replace h := bb h; rcases h with ⟨h8', h8, h⟩ | ⟨h8', h8, h⟩
       ·replace h := br h; rcases h with ⟨h9, h⟩ | ⟨h9, h⟩
        ·cases h; subst hR; simp only [zbsg, simprocAttr, *]
        ·cases h; subst hR; simp only [zbsg, simprocAttr, *]
       ·cases h; subst hR; simp only [zbsg, simprocAttr, *]
      ·cases h; subst hR; simp only [zbsg, simprocAttr, *]
     ·cases h; subst hR; simp only [zbsg, simprocAttr, *]
    ·cases h; subst hR; simp only [zbsg, simprocAttr, *]
   ·cases h; subst hR; simp only [zbsg, simprocAttr, *]
  ·cases h; subst hR; simp only [zbsg, simprocAttr, *]
 ·cases h; subst hR; simp only [zbsg, simprocAttr, *]
def zbsi := And.intro @kk <| And.intro @ke <| And.intro @kn <| And.intro @zbld <| And.intro @zbk2 <| @zblf
theorem zbsj : ∀ (q N : Nat), 8 * q ≤ N → ∀ (a0 : zji) (a1 : zjm), ∀ (r : zji × Int), zkk q a0 a1 = some r → (orc T N).deep F.zkk [zji.enc a0, zjm.enc a1] = some [zji.enc r.1, (V.int .i64) r.2] := by
 intro q N hM a0 a1 r h
 rcases q with _ | q
 ·cases h
 obtain ⟨M, rfl⟩ : ∃ M, N = M + 8 := ⟨N - 8, by omega⟩
 generalize hR : some [zji.enc r.1, (V.int .i64) r.2] = R
 rw [zhs, zbgs, y4, zhq]
 rw [zkk] at h
 replace h := ob h; obtain ⟨e1, h1, h⟩ := h
 replace h := br h; rcases h with ⟨h2, h⟩ | ⟨h2, h⟩
 ·cases h; subst hR; simp only [zbsi, simprocAttr, *]
 ·replace h := br h; rcases h with ⟨h3, h⟩ | ⟨h3, h⟩
  ·replace h := br h; rcases h with ⟨h4, h⟩ | ⟨h4, h⟩
   ·replace h := ob h; obtain ⟨r2, h5, h⟩ := h
    replace h5 := zbql q (M + 7) (by omega) _ _ h5
    replace h := ob h; obtain ⟨r3, h6, h⟩ := h
    replace h6 := zbql q (M + 7) (by omega) _ _ h6
    cases h; subst hR; simp only [zbsi, simprocAttr, *]
   ·replace h := br h; rcases h with ⟨h7, h⟩ | ⟨h7, h⟩
    ·replace h := br h; rcases h with ⟨h8, h⟩ | ⟨h8, h⟩
     ·replace h := ob h; obtain ⟨r4, h9, h⟩ := h
      replace h9 := zbql q (M + 7) (by omega) _ _ h9
      cases h; subst hR; simp only [zbsi, simprocAttr, *]
     ·cases h; subst hR; simp only [zbsi, simprocAttr, *]
    ·cases h; subst hR; simp only [zbsi, simprocAttr, *]
  ·replace h := br h; rcases h with ⟨h10, h⟩ | ⟨h10, h⟩
   ·replace h := br h; rcases h with ⟨h11, h⟩ | ⟨h11, h⟩
    ·replace h := ob h; obtain ⟨r5, h12, h⟩ := h
     replace h12 := zbql q (M + 7) (by omega) _ _ h12
     cases h; subst hR; simp only [zbsi, simprocAttr, *]
    ·cases h; subst hR; simp only [zbsi, simprocAttr, *]
   ·cases h; subst hR; simp only [zbsi, simprocAttr, *]
def zbsk := And.intro @kk <| And.intro @ke <| And.intro @kn <| And.intro @zbm1 <| @zbm3
theorem zbsl : ∀ (q N : Nat), 8 * q ≤ N → ∀ (a0 : (Ow Int)) (a1 a2 : Int), ∀ (r : (Ow Int)), zkl q a0 a1 a2 = some r → (orc T N).deep F.zkl [(Ow.enc 1 (V.int .i64)) a0, (V.int .i64) a1, (V.int .i64) a2] = some [(Ow.enc 1 (V.int .i64)) r] := by
 intro q N hM a0 a1 a2 r h
 rcases q with _ | q
 ·cases h
 obtain ⟨M, rfl⟩ : ∃ M, N = M + 8 := ⟨N - 8, by omega⟩
 generalize hR : some [(Ow.enc 1 (V.int .i64)) r] = R
 rw [zhs, zbhc, y4, zhq]
 rw [zkl] at h
 replace h := bn h; obtain ⟨h1, h⟩ := h
 replace h := bn h; obtain ⟨h2, h⟩ := h
 replace h := bn h; obtain ⟨h3, h⟩ := h
 replace h := br h; rcases h with ⟨h4, h⟩ | ⟨h4, h⟩
 ·cases h; subst hR; simp only [zbsk, simprocAttr, *]
 ·replace h := bn h; obtain ⟨h5, h⟩ := h
  replace h := bb h; rcases h with ⟨h6', h6, h⟩ | ⟨h6', h6, h⟩
  ·replace h := bn h; obtain ⟨h7, h⟩ := h
   replace h := bn h; obtain ⟨h8, h⟩ := h
   replace h := bn h; obtain ⟨h9, h⟩ := h
   replace h := bn h; obtain ⟨h10, h⟩ := h
   replace h := bn h; obtain ⟨h11, h⟩ := h
   replace h := bm h; obtain ⟨h12, h⟩ := h
   replace h := bb h; rcases h with ⟨h13', h13, h⟩ | ⟨h13', h13, h⟩
   ·cases h; subst hR; simp only [zbsk, simprocAttr, *]
   ·cases h
  ·replace h := bn h; obtain ⟨h14, h⟩ := h
   replace h := bn h; obtain ⟨h15, h⟩ := h
   replace h := bn h; obtain ⟨h16, h⟩ := h
   replace h := bb h; rcases h with ⟨h17', h17, h⟩ | ⟨h17', h17, h⟩
   ·replace h := bn h; obtain ⟨h18, h⟩ := h
    replace h := bn h; obtain ⟨h19, h⟩ := h
    cases h; subst hR; simp only [zbsk, simprocAttr, *]
   ·cases h
def zbsm := And.intro @kk <| And.intro @ke <| And.intro @kn <| And.intro @zblg <| And.intro @zbiq <| And.intro @zbk2 <| And.intro @zbm2 <| @zbli
theorem zbsn : ∀ (q N : Nat), 8 * q ≤ N → ∀ (a0 : zji) (a1 : zjm), ∀ (r : zji × Int), zkm q a0 a1 = some r → (orc T N).deep F.zkm [zji.enc a0, zjm.enc a1] = some [zji.enc r.1, (V.int .i64) r.2] := by
 intro q N hM a0 a1 r h
 rcases q with _ | q
 ·cases h
 obtain ⟨M, rfl⟩ : ∃ M, N = M + 8 := ⟨N - 8, by omega⟩
 generalize hR : some [zji.enc r.1, (V.int .i64) r.2] = R
 rw [zhs, zbgt, y4, zhq]
 rw [zkm] at h
 replace h := br h; rcases h with ⟨h1, h⟩ | ⟨h1, h⟩
 ·cases h; subst hR; simp only [zbsm, simprocAttr, *]
 ·replace h := br h; rcases h with ⟨h2, h⟩ | ⟨h2, h⟩
  ·replace h := br h; rcases h with ⟨h3, h⟩ | ⟨h3, h⟩
   ·replace h := ob h; obtain ⟨r1, h4, h⟩ := h
    replace h4 := zbra q (M + 7) (by omega) _ _ h4
    try simp only [kf, simprocAttr] at h4
    replace h := ob h; obtain ⟨r2, h5, h⟩ := h
    replace h5 := zbql q (M + 7) (by omega) _ _ h5
    replace h := bn h; obtain ⟨h6, h⟩ := h
    cases h; subst hR; simp only [zbsm, simprocAttr, *]
   ·cases h; subst hR; simp only [zbsm, simprocAttr, *]
  ·replace h := br h; rcases h with ⟨h7, h⟩ | ⟨h7, h⟩
   ·replace h := br h; rcases h with ⟨h8, h⟩ | ⟨h8, h⟩
    ·cases h; subst hR; simp only [zbsm, simprocAttr, *]
    ·replace h := br h; rcases h with ⟨h9, h⟩ | ⟨h9, h⟩
     ·replace h := ob h; obtain ⟨e3, h10, h⟩ := h
      replace h := ob h; obtain ⟨r4, h11, h⟩ := h
      replace h11 := zbra q (M + 7) (by omega) _ _ h11
      try simp only [kf, simprocAttr] at h11
      replace h := ob h; obtain ⟨r5, h12, h⟩ := h
      replace h12 := zbsl q (M + 7) (by omega) _ _ _ _ h12
      try simp only [kf, simprocAttr] at h12
      cases h; subst hR; simp only [zbsm, simprocAttr, *]
     ·replace h := bn h; obtain ⟨h13, h⟩ := h
      replace h := ob h; obtain ⟨e6, h14, h⟩ := h
      replace h := ob h; obtain ⟨r7, h15, h⟩ := h
      replace h15 := zbra q (M + 7) (by omega) _ _ h15
      try simp only [kf, simprocAttr] at h15
      replace h := ob h; obtain ⟨r8, h16, h⟩ := h
      replace h16 := zbsl q (M + 7) (by omega) _ _ _ _ h16
      try simp only [kf, simprocAttr] at h16
      cases h; subst hR; simp only [zbsm, simprocAttr, *]
   ·cases h; subst hR; simp only [zbsm, simprocAttr, *]
def zbso (q : Nat) : Prop := ∀ (M : Nat) (hM : 8 * q ≤ M) (j : Nat) (hj : q ≤ j) (v0z : Bool) (v0l : List Int) (v1 v6 : Int) (r : Int × Bool) (_ : zkn q v0z v0l v1 v6 = some r) (R : Option (List V)) (_ : some [(V.int .i64) r.1, V.bool r.2] = R) (fr : Fr) (H : Hp) (_ : canon 0 [0, 1, 6] fr H = ([(0, (.sl v0z (List.map (V.int .i64) v0l))), (1, (.int .i64 v1)), (6, (.int .i64 v6))], [])), fin zbal (unw T (orc T (M + 7)) (M + 7) 0 [.blk 0, .code zbah] (iter 0 [0, 1, 6] (exec T (orc T (M + 7)) (M + 7) 0 zbaf) j fr H)) = R
def zbsp := And.intro @kk <| And.intro @ke <| And.intro @kn <| And.intro @zbm7 <| @zbm9
theorem zbsq (q : Nat) (zbu9 : zbso q) : zbso (q + 1) := by
 intro M hM j hj v0z v0l v1 v6 r h R hR fr H hc
 obtain ⟨j, rfl⟩ : ∃ i, j = i + 1 := ⟨j - 1, by omega⟩
 rw [zhj, hc]; clear hc
 rw [zkn] at h
 replace h := br h; rcases h with ⟨h1, h⟩ | ⟨h1, h⟩
 ·replace h := bn h; obtain ⟨h2, h⟩ := h
  replace h := ob h; obtain ⟨e1, h3, h⟩ := h
  replace h := br h; rcases h with ⟨h4, h⟩ | ⟨h4, h⟩
  ·replace h := zbu9 M (by omega) j (by omega) _ _ _ _ _ h R hR
   simp only [zbsp, simprocAttr, *]
  ·cases h; subst hR; simp only [zbsp, simprocAttr, *]
 ·cases h; subst hR; simp only [zbsp, simprocAttr, *]
theorem zbsr : ∀ q, zbso q
 | 0 => by intro M hM j hj; intros; rename_i h _ _ _ _ _; cases h
 | q + 1 => by have i0 := zbsr q; exact zbsq q i0
theorem zbss : ∀ (q N : Nat), 8 * q ≤ N → ∀ (a0 : (Sl Int)) (a1 : Int), ∀ (r : Int × Bool), zko q a0 a1 = some r → (orc T N).deep F.zko [(Sl.enc (V.int .i64)) a0, (V.int .i64) a1] = some [(V.int .i64) r.1, V.bool r.2] := by
 intro q N hM a0 a1 r h
 rcases q with _ | q
 ·cases h
 obtain ⟨M, rfl⟩ : ∃ M, N = M + 8 := ⟨N - 8, by omega⟩
 have zbu9 := (zbsr q)
 generalize hR : some [(V.int .i64) r.1, V.bool r.2] = R
 rw [zhs, zbhe, y4, zhq]
 rw [zko] at h
 replace h := zbu9 M (by omega) (M + 7) (by omega) _ _ _ _ _ h R hR
 simp only [zbsp, simprocAttr, *]
def zbst := And.intro @kk <| And.intro @ke <| And.intro @kn <| And.intro @zbm4 <| And.intro @zbm8 <| @zbm6
theorem zbsu : ∀ (q N : Nat), 8 * q ≤ N → ∀ (a0 : (Sl Int)) (a1 : Int), ∀ (r : Int), zkp q a0 a1 = some r → (orc T N).deep F.zkp [(Sl.enc (V.int .i64)) a0, (V.int .i64) a1] = some [(V.int .i64) r] := by
 intro q N hM a0 a1 r h
 rcases q with _ | q
 ·cases h
 obtain ⟨M, rfl⟩ : ∃ M, N = M + 8 := ⟨N - 8, by omega⟩
 generalize hR : some [(V.int .i64) r] = R
 rw [zhs, zbhd, y4, zhq]
 rw [zkp] at h
 replace h := ob h; obtain ⟨r1, h1, h⟩ := h
 replace h1 := zbss q (M + 7) (by omega) _ _ _ h1
 try simp only [kf, simprocAttr] at h1
 replace h := bb h; rcases h with ⟨h2', h2, h⟩ | ⟨h2', h2, h⟩
 ·replace h := bn h; obtain ⟨h3, h⟩ := h
  replace h := ob h; obtain ⟨e2, h4, h⟩ := h
  cases h; subst hR; simp only [zbst, simprocAttr, *]
 ·cases h; subst hR; simp only [zbst, simprocAttr, *]
def zbsv := And.intro @kk <| And.intro @ke <| And.intro @kn <| And.intro @zblj <| And.intro @zbiq <| And.intro @zbk2 <| And.intro @zbm2 <| And.intro @zbm5 <| And.intro @zbm8 <| @zbll
theorem zbsw : ∀ (q N : Nat), 8 * q ≤ N → ∀ (a0 : zji) (a1 : zjm), ∀ (r : zji × Int), zkq q a0 a1 = some r → (orc T N).deep F.zkq [zji.enc a0, zjm.enc a1] = some [zji.enc r.1, (V.int .i64) r.2] := by
 intro q N hM a0 a1 r h
 rcases q with _ | q
 ·cases h
 obtain ⟨M, rfl⟩ : ∃ M, N = M + 8 := ⟨N - 8, by omega⟩
 generalize hR : some [zji.enc r.1, (V.int .i64) r.2] = R
 rw [zhs, zbgu, y4, zhq]
 rw [zkq] at h
 replace h := br h; rcases h with ⟨h1, h⟩ | ⟨h1, h⟩
 ·replace h := br h; rcases h with ⟨h2, h⟩ | ⟨h2, h⟩
  ·cases h; subst hR; simp only [zbsv, simprocAttr, *]
  ·replace h := br h; rcases h with ⟨h3, h⟩ | ⟨h3, h⟩
   ·cases h; subst hR; simp only [zbsv, simprocAttr, *]
   ·replace h := ob h; obtain ⟨r1, h4, h⟩ := h
    replace h4 := zbsu q (M + 7) (by omega) _ _ _ h4
    try simp only [kf, simprocAttr] at h4
    replace h := ob h; obtain ⟨r2, h5, h⟩ := h
    replace h5 := zbss q (M + 7) (by omega) _ _ _ h5
    try simp only [kf, simprocAttr] at h5
    replace h := br h; rcases h with ⟨h6, h⟩ | ⟨h6, h⟩
    ·replace h := bb h; rcases h with ⟨h7', h7, h⟩ | ⟨h7', h7, h⟩
     ·replace h := ob h; obtain ⟨r3, h8, h⟩ := h
      replace h8 := zbra q (M + 7) (by omega) _ _ h8
      try simp only [kf, simprocAttr] at h8
      replace h := ob h; obtain ⟨r4, h9, h⟩ := h
      replace h9 := zbsl q (M + 7) (by omega) _ _ _ _ h9
      try simp only [kf, simprocAttr] at h9
      cases h; subst hR; simp only [zbsv, simprocAttr, *]
     ·replace h := bm h; obtain ⟨h10, h⟩ := h
      cases h; subst hR; simp only [zbsv, simprocAttr, *]
    ·replace h := bm h; obtain ⟨h11, h⟩ := h
     cases h; subst hR; simp only [zbsv, simprocAttr, *]
 ·replace h := br h; rcases h with ⟨h12, h⟩ | ⟨h12, h⟩
  ·replace h := br h; rcases h with ⟨h13, h⟩ | ⟨h13, h⟩
   ·cases h; subst hR; simp only [zbsv, simprocAttr, *]
   ·replace h := br h; rcases h with ⟨h14, h⟩ | ⟨h14, h⟩
    ·cases h; subst hR; simp only [zbsv, simprocAttr, *]
    ·replace h := ob h; obtain ⟨r7, h15, h⟩ := h
     replace h15 := zbsu q (M + 7) (by omega) _ _ _ h15
     try simp only [kf, simprocAttr] at h15
     replace h := ob h; obtain ⟨r8, h16, h⟩ := h
     replace h16 := zbss q (M + 7) (by omega) _ _ _ h16
     try simp only [kf, simprocAttr] at h16
     replace h := bb h; rcases h with ⟨h17', h17, h⟩ | ⟨h17', h17, h⟩
     ·replace h := ob h; obtain ⟨r9, h18, h⟩ := h
      replace h18 := zbra q (M + 7) (by omega) _ _ h18
      try simp only [kf, simprocAttr] at h18
      replace h := ob h; obtain ⟨r10, h19, h⟩ := h
      replace h19 := zbsl q (M + 7) (by omega) _ _ _ _ h19
      try simp only [kf, simprocAttr] at h19
      cases h; subst hR; simp only [zbsv, simprocAttr, *]
     ·replace h := bm h; obtain ⟨h20, h⟩ := h
      cases h; subst hR; simp only [zbsv, simprocAttr, *]
  ·replace h := br h; rcases h with ⟨h21, h⟩ | ⟨h21, h⟩
   ·replace h := br h; rcases h with ⟨h22, h⟩ | ⟨h22, h⟩
    ·cases h; subst hR; simp only [zbsv, simprocAttr, *]
    ·replace h := br h; rcases h with ⟨h23, h⟩ | ⟨h23, h⟩
     ·cases h; subst hR; simp only [zbsv, simprocAttr, *]
     ·replace h := ob h; obtain ⟨r12, h24, h⟩ := h
      replace h24 := zbsu q (M + 7) (by omega) _ _ _ h24
      try simp only [kf, simprocAttr] at h24
      replace h := ob h; obtain ⟨r13, h25, h⟩ := h
      replace h25 := zbss q (M + 7) (by omega) _ _ _ h25
      try simp only [kf, simprocAttr] at h25
      cases h
   ·cases h; subst hR; simp only [zbsv, simprocAttr, *]
def zbsx := And.intro @kk <| And.intro @ke <| And.intro @kn <| And.intro @zbna <| And.intro @zbm5 <| @zbnc
theorem zbsy : ∀ (q N : Nat), 8 * q ≤ N → ∀ (a0 : zji) (a1 : zjm), ∀ (r : zji × Int), zkr q a0 a1 = some r → (orc T N).deep F.zkr [zji.enc a0, zjm.enc a1] = some [zji.enc r.1, (V.int .i64) r.2] := by
 intro q N hM a0 a1 r h
 rcases q with _ | q
 ·cases h
 obtain ⟨M, rfl⟩ : ∃ M, N = M + 8 := ⟨N - 8, by omega⟩
 generalize hR : some [zji.enc r.1, (V.int .i64) r.2] = R
 rw [zhs, zbhf, y4, zhq]
 rw [zkr] at h
 replace h := br h; rcases h with ⟨h1, h⟩ | ⟨h1, h⟩
 ·cases h; subst hR; simp only [zbsx, simprocAttr, *]
 ·replace h := br h; rcases h with ⟨h2, h⟩ | ⟨h2, h⟩
  ·cases h; subst hR; simp only [zbsx, simprocAttr, *]
  ·replace h := br h; rcases h with ⟨h3, h⟩ | ⟨h3, h⟩
   ·cases h; subst hR; simp only [zbsx, simprocAttr, *]
   ·replace h := ob h; obtain ⟨r1, h4, h⟩ := h
    replace h4 := zbsu q (M + 7) (by omega) _ _ _ h4
    try simp only [kf, simprocAttr] at h4
    replace h := ob h; obtain ⟨r2, h5, h⟩ := h
    replace h5 := zbsu q (M + 7) (by omega) _ _ _ h5
    try simp only [kf, simprocAttr] at h5
    replace h := br h; rcases h with ⟨h6, h⟩ | ⟨h6, h⟩
    ·cases h; subst hR; simp only [zbsx, simprocAttr, *]
    ·replace h := bn h; obtain ⟨h7, h⟩ := h
     cases h; subst hR; simp only [zbsx, simprocAttr, *]
def zbsz := And.intro @kk <| And.intro @ke <| And.intro @kn <| And.intro @zblm <| And.intro @zbk2 <| And.intro @zbm5 <| And.intro @zbnb <| @zblo
theorem zbs0 : ∀ (q N : Nat), 8 * q ≤ N → ∀ (a0 : zji) (a1 : zjm), ∀ (r : zji × Int), zks q a0 a1 = some r → (orc T N).deep F.zks [zji.enc a0, zjm.enc a1] = some [zji.enc r.1, (V.int .i64) r.2] := by
 intro q N hM a0 a1 r h
 rcases q with _ | q
 ·cases h
 obtain ⟨M, rfl⟩ : ∃ M, N = M + 8 := ⟨N - 8, by omega⟩
 generalize hR : some [zji.enc r.1, (V.int .i64) r.2] = R
 rw [zhs, zbgv, y4, zhq]
 rw [zks] at h
 replace h := br h; rcases h with ⟨h1, h⟩ | ⟨h1, h⟩
 ·replace h := ob h; obtain ⟨r1, h2, h⟩ := h
  replace h2 := zbsy q (M + 7) (by omega) _ _ _ h2
  try simp only [kf, simprocAttr] at h2
  cases h; subst hR; simp only [zbsz, simprocAttr, *]
 ·replace h := br h; rcases h with ⟨h3, h⟩ | ⟨h3, h⟩
  ·replace h := br h; rcases h with ⟨h4, h⟩ | ⟨h4, h⟩
   ·cases h; subst hR; simp only [zbsz, simprocAttr, *]
   ·replace h := br h; rcases h with ⟨h5, h⟩ | ⟨h5, h⟩
    ·cases h; subst hR; simp only [zbsz, simprocAttr, *]
    ·replace h := ob h; obtain ⟨r2, h6, h⟩ := h
     replace h6 := zbsu q (M + 7) (by omega) _ _ _ h6
     try simp only [kf, simprocAttr] at h6
     cases h; subst hR; simp only [zbsz, simprocAttr, *]
  ·replace h := br h; rcases h with ⟨h7, h⟩ | ⟨h7, h⟩
   ·replace h := br h; rcases h with ⟨h8, h⟩ | ⟨h8, h⟩
    ·cases h; subst hR; simp only [zbsz, simprocAttr, *]
    ·replace h := br h; rcases h with ⟨h9, h⟩ | ⟨h9, h⟩
     ·cases h; subst hR; simp only [zbsz, simprocAttr, *]
     ·replace h := br h; rcases h with ⟨h10, h⟩ | ⟨h10, h⟩
      ·cases h; subst hR; simp only [zbsz, simprocAttr, *]
      ·replace h := ob h; obtain ⟨r3, h11, h⟩ := h
       replace h11 := zbsu q (M + 7) (by omega) _ _ _ h11
       try simp only [kf, simprocAttr] at h11
       replace h := ob h; obtain ⟨r4, h12, h⟩ := h
       replace h12 := zbql q (M + 7) (by omega) _ _ h12
       replace h := ob h; obtain ⟨r5, h13, h⟩ := h
       replace h13 := zbql q (M + 7) (by omega) _ _ h13
       cases h
   ·cases h; subst hR; simp only [zbsz, simprocAttr, *]
def zbs1 := And.intro @kk <| And.intro @ke <| And.intro @kn <| And.intro @zbi1 <| And.intro @zbit <| And.intro @zble <| And.intro @zblh <| And.intro @zblk <| And.intro @zbln <| @zbi3
theorem zbs2 : ∀ (q N : Nat), 8 * q ≤ N → ∀ (a0 : zji) (a1 : zjm), ∀ (r : zji × Int), zkt q a0 a1 = some r → (orc T N).deep F.zkt [zji.enc a0, zjm.enc a1] = some [zji.enc r.1, (V.int .i64) r.2] := by
 intro q N hM a0 a1 r h
 rcases q with _ | q
 ·cases h
 obtain ⟨M, rfl⟩ : ∃ M, N = M + 8 := ⟨N - 8, by omega⟩
 generalize hR : some [zji.enc r.1, (V.int .i64) r.2] = R
 rw [zhs, zbf0, y4, zhq]
 rw [zkt] at h
 replace h := ob h; obtain ⟨r1, h1, h⟩ := h
 replace h1 := zbqz q (M + 7) (by omega) _ _ h1
 try simp only [kf, simprocAttr] at h1
 replace h := bb h; rcases h with ⟨h2', h2, h⟩ | ⟨h2', h2, h⟩
 ·replace h := bb h; rcases h with ⟨h3', h3, h⟩ | ⟨h3', h3, h⟩
  ·cases h; subst hR; simp only [zbs1, simprocAttr, *]
  ·replace h := br h; rcases h with ⟨h4, h⟩ | ⟨h4, h⟩
   ·replace h := br h; rcases h with ⟨h5, h⟩ | ⟨h5, h⟩
    ·replace h := br h; rcases h with ⟨h6, h⟩ | ⟨h6, h⟩
     ·cases h; subst hR; simp only [zbs1, simprocAttr, *]
     ·cases h; subst hR; simp only [zbs1, simprocAttr, *]
    ·cases h; subst hR; simp only [zbs1, simprocAttr, *]
   ·replace h := br h; rcases h with ⟨h7, h⟩ | ⟨h7, h⟩
    ·replace h := ob h; obtain ⟨r2, h8, h⟩ := h
     replace h8 := zbsj q (M + 7) (by omega) _ _ _ h8
     try simp only [kf, simprocAttr] at h8
     cases h; subst hR; simp only [zbs1, simprocAttr, *]
    ·replace h := br h; rcases h with ⟨h9, h⟩ | ⟨h9, h⟩
     ·replace h := ob h; obtain ⟨r3, h10, h⟩ := h
      replace h10 := zbsj q (M + 7) (by omega) _ _ _ h10
      try simp only [kf, simprocAttr] at h10
      cases h; subst hR; simp only [zbs1, simprocAttr, *]
     ·replace h := br h; rcases h with ⟨h11, h⟩ | ⟨h11, h⟩
      ·replace h := ob h; obtain ⟨r4, h12, h⟩ := h
       replace h12 := zbsn q (M + 7) (by omega) _ _ _ h12
       try simp only [kf, simprocAttr] at h12
       cases h; subst hR; simp only [zbs1, simprocAttr, *]
      ·replace h := br h; rcases h with ⟨h13, h⟩ | ⟨h13, h⟩
       ·replace h := ob h; obtain ⟨r5, h14, h⟩ := h
        replace h14 := zbsn q (M + 7) (by omega) _ _ _ h14
        try simp only [kf, simprocAttr] at h14
        cases h; subst hR; simp only [zbs1, simprocAttr, *]
       ·replace h := br h; rcases h with ⟨h15, h⟩ | ⟨h15, h⟩
        ·replace h := ob h; obtain ⟨r6, h16, h⟩ := h
         replace h16 := zbsw q (M + 7) (by omega) _ _ _ h16
         try simp only [kf, simprocAttr] at h16
         cases h; subst hR; simp only [zbs1, simprocAttr, *]
        ·replace h := ob h; obtain ⟨r7, h17, h⟩ := h
         replace h17 := zbs0 q (M + 7) (by omega) _ _ _ h17
         try simp only [kf, simprocAttr] at h17
         cases h; subst hR; simp only [zbs1, simprocAttr, *]
 ·cases h; subst hR; simp only [zbs1, simprocAttr, *]
def zbs3 (q : Nat) : Prop := ∀ (M : Nat) (hM : 8 * q ≤ M) (j : Nat) (hj : q ≤ j) (v8z : Bool) (v8l : List zjn) (v9 h0_0 h0_1 : Int) (h0_2z : Bool) (h0_2l : List Int) (h0_3 : Bool) (h0_4 : Int) (h0_5z : Bool) (h0_5l : List zjj) (r : zjk × Int) (_ : zkv q v8z v8l v9 h0_0 h0_1 h0_2z h0_2l h0_3 h0_4 h0_5z h0_5l = some r) (R : Option (List V)) (_ : some [zjk.enc r.1, (V.int .i64) r.2] = R) (fr : Fr) (H : Hp) (_ : canon 0 [2, 4, 8, 9, 10] fr H = ([(2, (.ptr 0 0)), (4, (.ptr 1 0)), (8, (.sl v8z (List.map zjn.enc v8l))), (9, (.int .i64 v9)), (10, (.int .i64 0))], [(.box [(.int .i64 h0_0), (.int .i64 h0_1), (.sl h0_2z (List.map (V.int .i64) h0_2l)), (.bool h0_3), (.int .i64 h0_4), (.sl h0_5z (List.map zjj.enc h0_5l))]), (.box [(.int .i64 0), (.int .i64 0), (.sl true []), (.bool false), (.int .i64 0), (.sl true [])])])), fin znw (unw T (orc T (M + 7)) (M + 7) 0 [.blk 0, .code znt] (iter 0 [2, 4, 8, 9, 10] (exec T (orc T (M + 7)) (M + 7) 0 znq) j fr H)) = R
def zbs4 (q : Nat) : Prop := ∀ (M : Nat) (hM : 8 * q ≤ M) (j : Nat) (hj : q ≤ j) (v8z : Bool) (v8l : List zjn) (v9 v10 h0_0 h0_1 : Int) (h0_2z : Bool) (h0_2l : List Int) (h0_3 : Bool) (h0_4 : Int) (h2z : Bool) (h2l : List zjj) (h2x : Bool) (r : zjk × Int) (_ : zku q v8z v8l v9 v10 h0_0 h0_1 h0_2z h0_2l h0_3 h0_4 h2z h2l h2x = some r) (R : Option (List V)) (_ : some [zjk.enc r.1, (V.int .i64) r.2] = R) (fr : Fr) (H : Hp) (_ : canon 0 [2, 4, 8, 9, 10] fr H = ([(2, (.ptr 0 0)), (4, (.ptr 1 0)), (8, (.sl v8z (List.map zjn.enc v8l))), (9, (.int .i64 v9)), (10, (.int .i64 v10))], [(.box [(.int .i64 h0_0), (.int .i64 h0_1), (.sl h0_2z (List.map (V.int .i64) h0_2l)), (.bool h0_3), (.int .i64 h0_4), (.vw 2 0 0 h2l.length 1)]), (.box [(.int .i64 0), (.int .i64 0), (.sl true []), (.bool false), (.int .i64 0), (.sl true [])]), (.row 0 h2z 3 (List.map zjj.enc h2l) h2x)])), fin znw (unw T (orc T (M + 7)) (M + 7) 0 [.blk 0, .code znt] (iter 0 [2, 4, 8, 9, 10] (exec T (orc T (M + 7)) (M + 7) 0 znq) j fr H)) = R
def zbs5 := And.intro @kk <| And.intro @ke <| And.intro @kn <| And.intro @zbh1 <| And.intro @zbib <| And.intro @zbiz <| And.intro @zbi2 <| @zbh3
theorem zbs6 (q : Nat) (zbva : zbs4 q) : zbs3 (q + 1) := by
 intro M hM j hj v8z v8l v9 h0_0 h0_1 h0_2z h0_2l h0_3 h0_4 h0_5z h0_5l r h R hR fr H hc
 obtain ⟨j, rfl⟩ : ∃ i, j = i + 1 := ⟨j - 1, by omega⟩
 rw [zhj, hc]; clear hc
 rw [zkv] at h
 replace h := br h; rcases h with ⟨h1, h⟩ | ⟨h1, h⟩
 ·replace h := ob h; obtain ⟨e1, h2, h⟩ := h
  replace h := br h; rcases h with ⟨h3, h⟩ | ⟨h3, h⟩
  ·replace h := ob h; obtain ⟨r2, h4, h⟩ := h
   replace h4 := zbsh q (M + 7) (by omega) _ _ h4
   try simp only [kf, simprocAttr] at h4
   replace h := bb h; rcases h with ⟨h5', h5, h⟩ | ⟨h5', h5, h⟩
   ·replace h := ob h; obtain ⟨r3, h6, h⟩ := h
    replace h6 := zbs2 q (M + 7) (by omega) _ _ _ h6
    try simp only [kf, simprocAttr] at h6
    replace h := ob h; obtain ⟨r4, h7, h⟩ := h
    replace h7 := zbrv q (M + 7) (by omega) _ _ _ h7
    try simp only [kf, simprocAttr] at h7
    replace h := zbva M (by omega) j (by omega) _ _ _ _ _ _ _ _ _ _ _ _ _ _ h R hR
    simp only [zbs5, simprocAttr, *]
   ·cases h; subst hR; simp only [zbs5, simprocAttr, *]
  ·cases h; subst hR; simp only [zbs5, simprocAttr, *]
 ·cases h; subst hR; simp only [zbs5, simprocAttr, *]
theorem zbs7 (q : Nat) (zbva : zbs4 q) : zbs4 (q + 1) := by
 intro M hM j hj v8z v8l v9 v10 h0_0 h0_1 h0_2z h0_2l h0_3 h0_4 h2z h2l h2x r h R hR fr H hc
 obtain ⟨j, rfl⟩ : ∃ i, j = i + 1 := ⟨j - 1, by omega⟩
 rw [zhj, hc]; clear hc
 rw [zku] at h
 replace h := br h; rcases h with ⟨h1, h⟩ | ⟨h1, h⟩
 ·replace h := bn h; obtain ⟨h2, h⟩ := h
  replace h := ob h; obtain ⟨e5, h3, h⟩ := h
  replace h := br h; rcases h with ⟨h4, h⟩ | ⟨h4, h⟩
  ·replace h := ob h; obtain ⟨r6, h5, h⟩ := h
   replace h5 := zbsh q (M + 7) (by omega) _ _ h5
   try simp only [kf, simprocAttr] at h5
   replace h := bb h; rcases h with ⟨h6', h6, h⟩ | ⟨h6', h6, h⟩
   ·replace h := ob h; obtain ⟨r7, h7, h⟩ := h
    replace h7 := zbs2 q (M + 7) (by omega) _ _ _ h7
    try simp only [kf, simprocAttr] at h7
    replace h := ob h; obtain ⟨r8, h8, h⟩ := h
    replace h8 := zbrv q (M + 7) (by omega) _ _ _ h8
    try simp only [kf, simprocAttr] at h8
    replace h := zbva M (by omega) j (by omega) _ _ _ _ _ _ _ _ _ _ _ _ _ _ h R hR
    simp only [zbs5, simprocAttr, *]
   ·cases h; subst hR; simp only [zbs5, simprocAttr, *]
  ·cases h; subst hR; simp only [zbs5, simprocAttr, *]
 ·cases h; subst hR; simp only [zbs5, simprocAttr, *]
theorem zbs8 : ∀ q, zbs3 q ∧ zbs4 q
 | 0 => by refine ⟨?_, ?_⟩ <;> (intro M hM j hj; intros; rename_i h _ _ _ _ _; cases h)
 | q + 1 => by have ⟨i0, i1⟩ := zbs8 q; exact ⟨zbs6 q i1, zbs7 q i1⟩
theorem zbs9 : ∀ (q N : Nat), 8 * q ≤ N → ∀ (a0 : zjk) (a1 : (Sl zjn)), ∀ (r : zjk × Int), zkw q a0 a1 = some r → (orc T N).deep F.zkw [zjk.enc a0, (Sl.enc zjn.enc) a1] = some [zjk.enc r.1, (V.int .i64) r.2] := by
 intro q N hM a0 a1 r h
 rcases q with _ | q
 ·cases h
 obtain ⟨M, rfl⟩ : ∃ M, N = M + 8 := ⟨N - 8, by omega⟩
 have ih_snapshot_Take_l0 := (zbs8 q).1
 generalize hR : some [zjk.enc r.1, (V.int .i64) r.2] = R
 rw [zhs, zbfo, y4, zhq]
 rw [zkw] at h
 replace h := ih_snapshot_Take_l0 M (by omega) (M + 7) (by omega) _ _ _ _ _ _ _ _ _ _ _ _ h R hR
 simp only [zbs5, simprocAttr, *]
def zbta := And.intro @kk <| And.intro @ke <| And.intro @kn <| And.intro @zbng <| @zbni
theorem zbtb : ∀ (q N : Nat), 8 * q ≤ N → ∀ (a0 : Int), ∀ (r : Bool), zkx q a0 = some r → (orc T N).deep F.zkx [(V.int .u8) a0] = some [V.bool r] := by
 intro q N hM a0 r h
 rcases q with _ | q
 ·cases h
 obtain ⟨M, rfl⟩ : ∃ M, N = M + 8 := ⟨N - 8, by omega⟩
 generalize hR : some [V.bool r] = R
 rw [zhs, zbhh, y4, zhq]
 rw [zkx] at h
 cases h; subst hR; simp only [zbta, simprocAttr, *]
def zbtc (q : Nat) : Prop := ∀ (M : Nat) (hM : 8 * q ≤ M) (j : Nat) (hj : q ≤ j) (v0z : Bool) (v0l : List Int) (v7 v8 r : Int) (_ : zky q v0z v0l v7 v8 = some r) (R : Option (List V × Hp)) (_ : (some ([(.int .i64 r)], []) : Option (List V × Hp)) = R) (fr : Fr) (H : Hp) (_ : canon 0 [0, 1, 7, 8] fr H = ([(0, (.sl v0z (List.map (V.int .u8) v0l))), (1, (.fn F.zkx [])), (7, (.int .i64 v7)), (8, (.int .i64 v8))], [])), finI 0 false [.tmp 4] (unw T (orc T (M + 5)) (M + 5) 0 [.blk 0, .code zber] (iter 0 [0, 1, 7, 8] (exec T (orc T (M + 5)) (M + 5) 0 zbeo) j fr H)) = R
def zbtd := And.intro @kk <| And.intro @ke <| And.intro @kn <| And.intro @zbny <| @zbnh
theorem zbte (q : Nat) (zbvb : zbtc q) : zbtc (q + 1) := by
 intro M hM j hj v0z v0l v7 v8 r h R hR fr H hc
 obtain ⟨j, rfl⟩ : ∃ i, j = i + 1 := ⟨j - 1, by omega⟩
 rw [zhj, hc]; clear hc
 rw [zky] at h
 replace h := br h; rcases h with ⟨h1, h⟩ | ⟨h1, h⟩
 ·replace h := bn h; obtain ⟨h2, h⟩ := h
  replace h := ob h; obtain ⟨e1, h3, h⟩ := h
  replace h := ob h; obtain ⟨r2, h4, h⟩ := h
  replace h4 := zbtb q (M + 5) (by omega) _ _ h4
  replace h := bb h; rcases h with ⟨h5', h5, h⟩ | ⟨h5', h5, h⟩
  ·cases h; subst hR; simp only [zbtd, simprocAttr, *]
  ·replace h := zbvb M (by omega) j (by omega) _ _ _ _ _ h R hR
   simp only [zbtd, simprocAttr, *]
 ·cases h; subst hR; simp only [zbtd, simprocAttr, *]
theorem zbtf : ∀ q, zbtc q
 | 0 => by intro M hM j hj; intros; rename_i h _ _ _ _ _; cases h
 | q + 1 => by have i0 := zbtf q; exact zbte q i0
theorem zbtg : ∀ (q M : Nat), 8 * q ≤ M → ∀ (v0z : Bool), ∀ (v0l : List Int), ∀ (r : Int), zkz q v0z v0l = some r → (orc T (M + 6)).inl F.zmw [(.sl v0z (List.map (V.int .u8) v0l)), (.fn F.zkx [])] [] = (some ([(.int .i64 r)], []) : Option (List V × Hp)) := by
 intro q M hM v0z v0l r h
 rcases q with _ | q
 ·cases h
 have zbvb := (zbtf q)
 generalize hR : (some ([(.int .i64 r)], []) : Option (List V × Hp)) = R
 rw [zbn0 (n := M + 5)]
 rw [zkz] at h
 replace h := zbvb M (by omega) (M + 5) (by omega) _ _ _ _ _ h R hR
 simp only [zbtd, simprocAttr, *]
def zbth := And.intro @kk <| And.intro @ke <| And.intro @kn <| And.intro @zblp <| And.intro @zbnd <| And.intro @zbnz <| And.intro @zbne <| And.intro @zbnf <| @zblr
theorem zbti : ∀ (q N : Nat), 8 * q ≤ N → ∀ (a0 : (Sl Int)), ∀ (r : Bool), zk0 q a0 = some r → (orc T N).deep F.zk0 [(Sl.enc (V.int .u8)) a0] = some [V.bool r] := by
 intro q N hM a0 r h
 rcases q with _ | q
 ·cases h
 obtain ⟨M, rfl⟩ : ∃ M, N = M + 8 := ⟨N - 8, by omega⟩
 generalize hR : some [V.bool r] = R
 rw [zhs, zbgw, y4, zhq]
 rw [zk0] at h
 replace h := br h; rcases h with ⟨h1, h⟩ | ⟨h1, h⟩
 ·replace h := ob h; obtain ⟨r1, h2, h⟩ := h
  replace h2 := zbtg q M (by omega) _ _ _ h2
  try simp only [kf, simprocAttr] at h2
  cases h; subst hR; simp only [zbth, simprocAttr, *]
 ·cases h; subst hR; simp only [zbth, simprocAttr, *]
def zbtj (q : Nat) : Prop := ∀ (M : Nat) (hM : 8 * q ≤ M) (j : Nat) (hj : q ≤ j) (v0z : Bool) (v0l : List Int) (v4 v9 v10 : Int) (r : Int × Int) (_ : zk1 q v0z v0l v4 v9 v10 = some r) (R : Option (List V)) (_ : some [(V.int .u64) r.1, (V.int .i64) r.2] = R) (fr : Fr) (H : Hp) (_ : canon 0 [0, 4, 9, 10] fr H = ([(0, (.sl v0z (List.map (V.int .u8) v0l))), (4, (.int .u64 v4)), (9, (.int .i64 v9)), (10, (.int .i64 v10))], [])), fin zbcl (unw T (orc T (M + 7)) (M + 7) 0 [.blk 0, .code zbch] (iter 0 [0, 4, 9, 10] (exec T (orc T (M + 7)) (M + 7) 0 zbce) j fr H)) = R
def zbtk := And.intro @kk <| And.intro @ke <| And.intro @kn <| And.intro @zbnj <| @zbnl
theorem zbtl (q : Nat) (zbvc : zbtj q) : zbtj (q + 1) := by
 intro M hM j hj v0z v0l v4 v9 v10 r h R hR fr H hc
 obtain ⟨j, rfl⟩ : ∃ i, j = i + 1 := ⟨j - 1, by omega⟩
 rw [zhj, hc]; clear hc
 rw [zk1] at h
 replace h := br h; rcases h with ⟨h1, h⟩ | ⟨h1, h⟩
 ·replace h := bn h; obtain ⟨h2, h⟩ := h
  replace h := ob h; obtain ⟨e1, h3, h⟩ := h
  replace h := bm h; obtain ⟨h4, h⟩ := h
  replace h := br h; rcases h with ⟨h5, h⟩ | ⟨h5, h⟩
  ·replace h := br h; rcases h with ⟨h6, h⟩ | ⟨h6, h⟩
   ·cases h; subst hR; simp only [zbtk, simprocAttr, *]
   ·replace h := br h; rcases h with ⟨h7, h⟩ | ⟨h7, h⟩
    ·replace h := br h; rcases h with ⟨h8, h⟩ | ⟨h8, h⟩
     ·cases h; subst hR; simp only [zbtk, simprocAttr, *]
     ·replace h := br h; rcases h with ⟨h9, h⟩ | ⟨h9, h⟩
      ·cases h; subst hR; simp only [zbtk, simprocAttr, *]
      ·replace h := zbvc M (by omega) j (by omega) _ _ _ _ _ _ h R hR
       simp only [zbtk, simprocAttr, *]
    ·replace h := br h; rcases h with ⟨h10, h⟩ | ⟨h10, h⟩
     ·cases h; subst hR; simp only [zbtk, simprocAttr, *]
     ·replace h := zbvc M (by omega) j (by omega) _ _ _ _ _ _ h R hR
      simp only [zbtk, simprocAttr, *]
  ·replace h := br h; rcases h with ⟨h11, h⟩ | ⟨h11, h⟩
   ·replace h := br h; rcases h with ⟨h12, h⟩ | ⟨h12, h⟩
    ·cases h; subst hR; simp only [zbtk, simprocAttr, *]
    ·replace h := br h; rcases h with ⟨h13, h⟩ | ⟨h13, h⟩
     ·cases h; subst hR; simp only [zbtk, simprocAttr, *]
     ·replace h := zbvc M (by omega) j (by omega) _ _ _ _ _ _ h R hR
      simp only [zbtk, simprocAttr, *]
   ·replace h := br h; rcases h with ⟨h14, h⟩ | ⟨h14, h⟩
    ·cases h; subst hR; simp only [zbtk, simprocAttr, *]
    ·replace h := zbvc M (by omega) j (by omega) _ _ _ _ _ _ h R hR
     simp only [zbtk, simprocAttr, *]
 ·cases h; subst hR; simp only [zbtk, simprocAttr, *]
theorem zbtm : ∀ q, zbtj q
 | 0 => by intro M hM j hj; intros; rename_i h _ _ _ _ _; cases h
 | q + 1 => by have i0 := zbtm q; exact zbtl q i0
theorem zbtn : ∀ (q N : Nat), 8 * q ≤ N → ∀ (a0 : (Sl Int)), ∀ (r : Int × Int), zk2 q a0 = some r → (orc T N).deep F.zk2 [(Sl.enc (V.int .u8)) a0] = some [(V.int .u64) r.1, (V.int .i64) r.2] := by
 intro q N hM a0 r h
 rcases q with _ | q
 ·cases h
 obtain ⟨M, rfl⟩ : ∃ M, N = M + 8 := ⟨N - 8, by omega⟩
 have zbvc := (zbtm q)
 generalize hR : some [(V.int .u64) r.1, (V.int .i64) r.2] = R
 rw [zhs, zbhi, y4, zhq]
 rw [zk2] at h
 replace h := zbvc M (by omega) (M + 7) (by omega) _ _ _ _ _ _ h R hR
 simp only [zbtk, simprocAttr, *]
def zbto := And.intro @kk <| And.intro @ke <| And.intro @kn <| And.intro @zbls <| And.intro @zbnk <| @zblu
theorem zbtp : ∀ (q N : Nat), 8 * q ≤ N → ∀ (a0 : (Sl Int)), ∀ (r : Int × Int), zk3 q a0 = some r → (orc T N).deep F.zk3 [(Sl.enc (V.int .u8)) a0] = some [(V.int .i64) r.1, (V.int .i64) r.2] := by
 intro q N hM a0 r h
 rcases q with _ | q
 ·cases h
 obtain ⟨M, rfl⟩ : ∃ M, N = M + 8 := ⟨N - 8, by omega⟩
 generalize hR : some [(V.int .i64) r.1, (V.int .i64) r.2] = R
 rw [zhs, zbgx, y4, zhq]
 rw [zk3] at h
 replace h := ob h; obtain ⟨r1, h1, h⟩ := h
 replace h1 := zbtn q (M + 7) (by omega) _ _ h1
 try simp only [kf, simprocAttr] at h1
 replace h := br h; rcases h with ⟨h2, h⟩ | ⟨h2, h⟩
 ·cases h; subst hR; simp only [zbto, simprocAttr, *]
 ·cases h; subst hR; simp only [zbto, simprocAttr, *]
def zbtq (q : Nat) : Prop := ∀ (M : Nat) (hM : 8 * q ≤ M) (j : Nat) (hj : q ≤ j) (v5 : Int) (h0_0 h1_0 : List Int) (r : (List Int)) (_ : zk4 q v5 h0_0 h1_0 = some r) (R : Option (List V)) (_ : some [(arrEnc (V.int .u32)) r] = R) (fr : Fr) (H : Hp) (_ : canon 0 [0, 1, 5] fr H = ([(0, (.ptr 0 0)), (1, (.ptr 1 0)), (5, (.int .i64 v5))], [(.box (List.map (V.int .u32) h0_0)), (.box (List.map (V.int .u32) h1_0))])), fin zbd2 (unw T (orc T (M + 7)) (M + 7) 0 [.blk 0, .code zbdy] (iter 0 [0, 1, 5] (exec T (orc T (M + 7)) (M + 7) 0 zbdv) j fr H)) = R
def zbtr (q : Nat) : Prop := ∀ (M : Nat) (hM : 8 * q ≤ M) (j : Nat) (hj : q ≤ j) (j1 : Nat) (hj1 : q ≤ j1) (v2 v3 v5 v10 : Int) (h0_0 h1_0 : List Int) (r : (List Int)) (_ : zk5 q v2 v3 v5 v10 h0_0 h1_0 = some r) (R : Option (List V)) (_ : some [(arrEnc (V.int .u32)) r] = R) (fr : Fr) (H : Hp) (_ : canon 0 [0, 1, 2, 3, 5, 10] fr H = ([(0, (.ptr 0 0)), (1, (.ptr 1 0)), (2, (.int .i64 v2)), (3, (.int .u32 v3)), (5, (.int .i64 v5)), (10, (.int .i64 v10))], [(.box (List.map (V.int .u32) h0_0)), (.box (List.map (V.int .u32) h1_0))])), fin zbd2 (unw T (orc T (M + 7)) (M + 7) 0 [.blk 2, .code zbdo, .blk 1, .code zbds, .rounds [0, 1, 5] zbdv j1, .blk 0, .code zbdy] (iter 0 [0, 1, 2, 3, 5, 10] (exec T (orc T (M + 7)) (M + 7) 0 zbdl) j fr H)) = R
def zbts := And.intro @kk <| And.intro @ke <| And.intro @kn <| And.intro @zbns <| @zbnu
theorem zbtt (q : Nat) (zbvd : zbtr q) : zbtq (q + 1) := by
 intro M hM j hj v5 h0_0 h1_0 r h R hR fr H hc
 obtain ⟨j, rfl⟩ : ∃ i, j = i + 1 := ⟨j - 1, by omega⟩
 rw [zhj, hc]; clear hc
 rw [zk4] at h
 replace h := br h; rcases h with ⟨h1, h⟩ | ⟨h1, h⟩
 ·replace h := zbvd M (by omega) (M + 7) (by omega) j (by omega) _ _ _ _ _ _ _ h R hR
  simp (maxDischargeDepth := 12) only [zbts, simprocAttr, arrEnc, *]
 ·replace h := bn h; obtain ⟨h2, h⟩ := h
  replace h := bc h; rcases h with ⟨h3, h⟩ | ⟨h3, h⟩
  ·replace h := bn h; obtain ⟨h4, h⟩ := h
   replace h := bn h; obtain ⟨h5, h⟩ := h
   cases h; subst hR; simp (maxDischargeDepth := 12) only [zbts, simprocAttr, arrEnc, *]
  ·cases h
theorem zbtu (q : Nat) (zbve : zbtq q) (zbvd : zbtr q) : zbtr (q + 1) := by
 intro M hM j hj j1 hj1 v2 v3 v5 v10 h0_0 h1_0 r h R hR fr H hc
 obtain ⟨j, rfl⟩ : ∃ i, j = i + 1 := ⟨j - 1, by omega⟩
 rw [zhj, hc]; clear hc
 rw [zk5] at h
 replace h := br h; rcases h with ⟨h1, h⟩ | ⟨h1, h⟩
 ·replace h := zbvd M (by omega) j (by omega) j1 (by omega) _ _ _ _ _ _ _ h R hR
  simp (maxDischargeDepth := 12) only [zbts, simprocAttr, arrEnc, *]
 ·replace h := bn h; obtain ⟨h2, h⟩ := h
  replace h := bn h; obtain ⟨h3, h⟩ := h
  replace h := bn h; obtain ⟨h4, h⟩ := h
  replace h := zbve M (by omega) j1 (by omega) _ _ _ _ h R hR
  simp (maxDischargeDepth := 12) only [zbts, simprocAttr, arrEnc, *]
theorem zbtv : ∀ q, zbtq q ∧ zbtr q
 | 0 => by refine ⟨?_, ?_⟩ <;> (intro M hM j hj; intros; rename_i h _ _ _ _ _; cases h)
 | q + 1 => by have ⟨i0, i1⟩ := zbtv q; exact ⟨zbtt q i1, zbtu q i0 i1⟩
theorem zbtw : ∀ (q N : Nat), 8 * q ≤ N → ∀ (r : (List Int)), zk6 q = some r → (orc T N).deep F.zk6 [] = some [(arrEnc (V.int .u32)) r] := by
 intro q N hM r h
 rcases q with _ | q
 ·cases h
 obtain ⟨M, rfl⟩ : ∃ M, N = M + 8 := ⟨N - 8, by omega⟩
 have zbve := (zbtv q).1
 generalize hR : some [(arrEnc (V.int .u32)) r] = R
 rw [zhs, zbhl, y4, zhq]
 rw [zk6] at h
 replace h := zbve M (by omega) (M + 7) (by omega) _ _ _ _ h R hR
 simp (maxDischargeDepth := 12) only [zbts, simprocAttr, arrEnc, *]
def zbtx (q : Nat) : Prop := ∀ (M : Nat) (hM : 8 * q ≤ M) (j : Nat) (hj : q ≤ j) (v6 : Int) (v12z : Bool) (v12l : List Int) (v13 v14 : Int) (h0_0 : List Int) (r : Int) (_ : zk7 q v6 v12z v12l v13 v14 h0_0 = some r) (R : Option (List V)) (_ : some [(V.int .u32) r] = R) (fr : Fr) (H : Hp) (_ : canon 0 [5, 6, 12, 13, 14] fr H = ([(5, (.ptr 0 0)), (6, (.int .u32 v6)), (12, (.sl v12z (List.map (V.int .u8) v12l))), (13, (.int .i64 v13)), (14, (.int .i64 v14))], [(.box (List.map (V.int .u32) h0_0))])), fin z5w (unw T (orc T (M + 7)) (M + 7) 0 [.blk 0, .code z5r] (iter 0 [5, 6, 12, 13, 14] (exec T (orc T (M + 7)) (M + 7) 0 z5o) j fr H)) = R
def zbty := And.intro @kk <| And.intro @ke <| And.intro @kn <| And.intro @zbmg <| And.intro @zbnt <| @zbmi
theorem zbtz (q : Nat) (zbvf : zbtx q) : zbtx (q + 1) := by
 intro M hM j hj v6 v12z v12l v13 v14 h0_0 r h R hR fr H hc
 obtain ⟨j, rfl⟩ : ∃ i, j = i + 1 := ⟨j - 1, by omega⟩
 rw [zhj, hc]; clear hc
 rw [zk7] at h
 replace h := br h; rcases h with ⟨h1, h⟩ | ⟨h1, h⟩
 ·replace h := bn h; obtain ⟨h2, h⟩ := h
  replace h := ob h; obtain ⟨e2, h3, h⟩ := h
  replace h := bn h; obtain ⟨h4, h⟩ := h
  replace h := bn h; obtain ⟨h5, h⟩ := h
  replace h := ob h; obtain ⟨e3, h6, h⟩ := h
  replace h := zbvf M (by omega) j (by omega) _ _ _ _ _ _ _ h R hR
  simp only [zbty, simprocAttr, arrEnc, *]
 ·cases h; subst hR; simp only [zbty, simprocAttr, arrEnc, *]
theorem zbt0 : ∀ q, zbtx q
 | 0 => by intro M hM j hj; intros; rename_i h _ _ _ _ _; cases h
 | q + 1 => by have i0 := zbt0 q; exact zbtz q i0
theorem zbt1 : ∀ (q N : Nat), 8 * q ≤ N → ∀ (a0 : Int) (a1 : (Sl Int)), ∀ (r : Int), zk8 q a0 a1 = some r → (orc T N).deep F.zk8 [(V.int .u32) a0, (Sl.enc (V.int .u8)) a1] = some [(V.int .u32) r] := by
 intro q N hM a0 a1 r h
 rcases q with _ | q
 ·cases h
 obtain ⟨M, rfl⟩ : ∃ M, N = M + 8 := ⟨N - 8, by omega⟩
 have zbvf := (zbt0 q)
 generalize hR : some [(V.int .u32) r] = R
 rw [zhs, zbg5, y4, zhq]
 rw [zk8] at h
 replace h := ob h; obtain ⟨r1, h1, h⟩ := h
 replace h1 := zbtw q (M + 7) (by omega)  _ h1
 try simp only [kf, simprocAttr] at h1
 replace h := bc h; rcases h with ⟨h2, h⟩ | ⟨h2, h⟩
 ·replace h := zbvf M (by omega) (M + 7) (by omega) _ _ _ _ _ _ _ h R hR
  simp only [zbty, simprocAttr, arrEnc, *]
 ·cases h
def zbt2 := And.intro @kk <| And.intro @ke <| And.intro @kn <| And.intro @zbkd <| And.intro @zbmh <| @zbkf
theorem zbt3 : ∀ (q N : Nat), 8 * q ≤ N → ∀ (a0 : (Sl Int)), ∀ (r : Int), zk9 q a0 = some r → (orc T N).deep F.zk9 [(Sl.enc (V.int .u8)) a0] = some [(V.int .u32) r] := by
 intro q N hM a0 r h
 rcases q with _ | q
 ·cases h
 obtain ⟨M, rfl⟩ : ∃ M, N = M + 8 := ⟨N - 8, by omega⟩
 generalize hR : some [(V.int .u32) r] = R
 rw [zhs, zbgg, y4, zhq]
 rw [zk9] at h
 replace h := ob h; obtain ⟨r1, h1, h⟩ := h
 replace h1 := zbt1 q (M + 7) (by omega) _ _ _ h1
 try simp only [kf, simprocAttr] at h1
 cases h; subst hR; simp only [zbt2, simprocAttr, *]
def zbt4 (q : Nat) : Prop := ∀ (M : Nat) (hM : 8 * q ≤ M) (j : Nat) (hj : q ≤ j) (v0 v7 v8 : Int) (h0z : Bool) (h0l : List Int) (r : (Ow Int)) (_ : zla q v0 v7 v8 h0z h0l = some r) (R : Option (List V)) (_ : some [(Ow.enc 1 (V.int .u8)) r] = R) (fr : Fr) (H : Hp) (_ : canon 0 [0, 5, 7, 8] fr H = ([(0, (.int .u64 v0)), (5, (.vw 0 0 0 h0l.length 1)), (7, (.int .i64 v7)), (8, (.int .i64 v8))], [(.row 0 h0z 1 (List.map (V.int .u8) h0l) true)])), fin z5b (unw T (orc T (M + 7)) (M + 7) 0 [.blk 0, .code z47] (iter 0 [0, 5, 7, 8] (exec T (orc T (M + 7)) (M + 7) 0 z44) j fr H)) = R
def zbt5 := And.intro @kk <| And.intro @ke <| And.intro @kn <| And.intro @zbmd <| @zbmf
theorem zbt6 (q : Nat) (zbvg : zbt4 q) : zbt4 (q + 1) := by
 intro M hM j hj v0 v7 v8 h0z h0l r h R hR fr H hc
 obtain ⟨j, rfl⟩ : ∃ i, j = i + 1 := ⟨j - 1, by omega⟩
 rw [zhj, hc]; clear hc
 rw [zla] at h
 replace h := br h; rcases h with ⟨h1, h⟩ | ⟨h1, h⟩
 ·replace h := bm h; obtain ⟨h2, h⟩ := h
  replace h := bn h; obtain ⟨h3, h⟩ := h
  replace h := zbvg M (by omega) j (by omega) _ _ _ _ _ _ h R hR
  simp only [zbt5, simprocAttr, *]
 ·cases h; subst hR; simp only [zbt5, simprocAttr, *]
theorem zbt7 : ∀ q, zbt4 q
 | 0 => by intro M hM j hj; intros; rename_i h _ _ _ _ _; cases h
 | q + 1 => by have i0 := zbt7 q; exact zbt6 q i0
theorem zbt8 : ∀ (q N : Nat), 8 * q ≤ N → ∀ (a0 a1 : Int), ∀ (r : (Ow Int)), zlb q a0 a1 = some r → (orc T N).deep F.zlb [(V.int .u64) a0, (V.int .i64) a1] = some [(Ow.enc 1 (V.int .u8)) r] := by
 intro q N hM a0 a1 r h
 rcases q with _ | q
 ·cases h
 obtain ⟨M, rfl⟩ : ∃ M, N = M + 8 := ⟨N - 8, by omega⟩
 have zbvg := (zbt7 q)
 generalize hR : some [(Ow.enc 1 (V.int .u8)) r] = R
 rw [zhs, zbg4, y4, zhq]
 rw [zlb] at h
 replace h := zbvg M (by omega) (M + 7) (by omega) _ _ _ _ _ _ h R hR
 simp only [zbt5, simprocAttr, *]
def zbt9 := And.intro @kk <| And.intro @ke <| And.intro @kn <| And.intro @zbka <| And.intro @zbme <| @zbkc
theorem zbua : ∀ (q N : Nat), 8 * q ≤ N → ∀ (a0 : Int), ∀ (r : (Ow Int)), zlc q a0 = some r → (orc T N).deep F.zlc [(V.int .u32) a0] = some [(Ow.enc 1 (V.int .u8)) r] := by
 intro q N hM a0 r h
 rcases q with _ | q
 ·cases h
 obtain ⟨M, rfl⟩ : ∃ M, N = M + 8 := ⟨N - 8, by omega⟩
 generalize hR : some [(Ow.enc 1 (V.int .u8)) r] = R
 rw [zhs, zbgf, y4, zhq]
 rw [zlc] at h
 replace h := ob h; obtain ⟨r1, h1, h⟩ := h
 replace h1 := zbt8 q (M + 7) (by omega) _ _ _ h1
 try simp only [kf, simprocAttr] at h1
 cases h; subst hR; simp only [zbt9, simprocAttr, *]
def zbub := And.intro @kk <| And.intro @ke <| And.intro @kn <| And.intro @zbly <| And.intro @zbkb <| And.intro @zbke <| And.intro @zbmh <| @zbl0
theorem zbuc : ∀ (q N : Nat), 8 * q ≤ N → ∀ (a0 a1 : (Sl Int)), ∀ (r : (Ow Int)), zld q a0 a1 = some r → (orc T N).deep F.zld [(Sl.enc (V.int .u8)) a0, (Sl.enc (V.int .u8)) a1] = some [(Ow.enc 1 (V.int .u8)) r] := by
 intro q N hM a0 a1 r h
 rcases q with _ | q
 ·cases h
 obtain ⟨M, rfl⟩ : ∃ M, N = M + 8 := ⟨N - 8, by omega⟩
 generalize hR : some [(Ow.enc 1 (V.int .u8)) r] = R
 rw [zhs, zbgz, y4, zhq]
 rw [zld] at h
 replace h := ob h; obtain ⟨r1, h1, h⟩ := h
 replace h1 := zbt3 q (M + 7) (by omega) _ _ h1
 try simp only [kf, simprocAttr] at h1
 replace h := ob h; obtain ⟨r2, h2, h⟩ := h
 replace h2 := zbt1 q (M + 7) (by omega) _ _ _ h2
 try simp only [kf, simprocAttr] at h2
 replace h := ob h; obtain ⟨r3, h3, h⟩ := h
 replace h3 := zbua q (M + 7) (by omega) _ _ h3
 try simp only [kf, simprocAttr] at h3
 cases h; subst hR; simp only [zbub, simprocAttr, *]
def zbud (q : Nat) : Prop := ∀ (M : Nat) (hM : 8 * q ≤ M) (j : Nat) (hj : q ≤ j) (v0z : Bool) (v0l : List Int) (v1z : Bool) (v1l : List Int) (v12 v13 : Int) (r : Bool) (_ : zle q v0z v0l v1z v1l v12 v13 = some r) (R : Option (List V)) (_ : some [V.bool r] = R) (fr : Fr) (H : Hp) (_ : canon 0 [0, 1, 12, 13] fr H = ([(0, (.sl v0z (List.map (V.int .u8) v0l))), (1, (.sl v1z (List.map (V.int .u8) v1l))), (12, (.int .i64 v12)), (13, (.int .i64 v13))], [])), fin z29 (unw T (orc T (M + 7)) (M + 7) 0 [.blk 0, .code z25] (iter 0 [0, 1, 12, 13] (exec T (orc T (M + 7)) (M + 7) 0 z22) j fr H)) = R
def zbue := And.intro @kk <| And.intro @ke <| And.intro @kn <| And.intro @zblv <| @zblx
theorem zbuf (q : Nat) (zbvh : zbud q) : zbud (q + 1) := by
 intro M hM j hj v0z v0l v1z v1l v12 v13 r h R hR fr H hc
 obtain ⟨j, rfl⟩ : ∃ i, j = i + 1 := ⟨j - 1, by omega⟩
 rw [zhj, hc]; clear hc
 rw [zle] at h
 replace h := br h; rcases h with ⟨h1, h⟩ | ⟨h1, h⟩
 ·replace h := bn h; obtain ⟨h2, h⟩ := h
  replace h := ob h; obtain ⟨e1, h3, h⟩ := h
  replace h := ob h; obtain ⟨e2, h4, h⟩ := h
  replace h := br h; rcases h with ⟨h5, h⟩ | ⟨h5, h⟩
  ·replace h := zbvh M (by omega) j (by omega) _ _ _ _ _ _ _ h R hR
   simp only [zbue, simprocAttr, *]
  ·cases h; subst hR; simp only [zbue, simprocAttr, *]
 ·cases h; subst hR; simp only [zbue, simprocAttr, *]
theorem zbug : ∀ q, zbud q
 | 0 => by intro M hM j hj; intros; rename_i h _ _ _ _ _; cases h
 | q + 1 => by have i0 := zbug q; exact zbuf q i0
theorem zbuh : ∀ (q N : Nat), 8 * q ≤ N → ∀ (a0 a1 : (Sl Int)), ∀ (r : Bool), zlf q a0 a1 = some r → (orc T N).deep F.zlf [(Sl.enc (V.int .u8)) a0, (Sl.enc (V.int .u8)) a1] = some [V.bool r] := by
 intro q N hM a0 a1 r h
 rcases q with _ | q
 ·cases h
 obtain ⟨M, rfl⟩ : ∃ M, N = M + 8 := ⟨N - 8, by omega⟩
 have zbvh := (zbug q)
 generalize hR : some [V.bool r] = R
 rw [zhs, zbgy, y4, zhq]
 rw [zlf] at h
 replace h := br h; rcases h with ⟨h1, h⟩ | ⟨h1, h⟩
 ·replace h := zbvh M (by omega) (M + 7) (by omega) _ _ _ _ _ _ _ h R hR
  simp only [zbue, simprocAttr, *]
 ·cases h; subst hR; simp only [zbue, simprocAttr, *]
def zbui := And.intro @kk <| And.intro @ke <| And.intro @kn <| And.intro @zbl1 <| @zbl3
theorem zbuj : ∀ (q N : Nat), 8 * q ≤ N → ∀ (a0 : (Sl Int)), ∀ (r : (Ow Int)), zlg q a0 = some r → (orc T N).deep F.zlg [(Sl.enc (V.int .u8)) a0] = some [(Ow.enc 1 (V.int .u8)) r] := by
 intro q N hM a0 r h
 rcases q with _ | q
 ·cases h
 obtain ⟨M, rfl⟩ : ∃ M, N = M + 8 := ⟨N - 8, by omega⟩
 generalize hR : some [(Ow.enc 1 (V.int .u8)) r] = R
 rw [zhs, zbg0, y4, zhq]
 rw [zlg] at h
 replace h := bb h; rcases h with ⟨h1', h1, h⟩ | ⟨h1', h1, h⟩
 ·cases h; subst hR; simp only [zbui, simprocAttr, *]
 ·replace h := bn h; obtain ⟨h2, h⟩ := h
  cases h; subst hR; simp only [zbui, simprocAttr, *]
def zbuk := And.intro @kk <| And.intro @ke <| And.intro @kn <| And.intro @zbi7 <| And.intro @zblq <| And.intro @zblt <| And.intro @zblw <| And.intro @zblz <| And.intro @zbl2 <| @zbi9
theorem zbul : ∀ (q N : Nat), 8 * q ≤ N → ∀ (a0 : (Sl Int)), ∀ (r : (Ow Int) × Int × Int), zlh q a0 = some r → (orc T N).deep F.zlh [(Sl.enc (V.int .u8)) a0] = some [(Ow.enc 1 (V.int .u8)) r.1, (V.int .i64) r.2.1, (V.int .i64) r.2.2] := by
 intro q N hM a0 r h
 rcases q with _ | q
 ·cases h
 obtain ⟨M, rfl⟩ : ∃ M, N = M + 8 := ⟨N - 8, by omega⟩
 generalize hR : some [(Ow.enc 1 (V.int .u8)) r.1, (V.int .i64) r.2.1, (V.int .i64) r.2.2] = R
 rw [zhs, zbf2, y4, zhq]
 rw [zlh] at h
 replace h := ob h; obtain ⟨r1, h1, h⟩ := h
 replace h1 := zbti q (M + 7) (by omega) _ _ h1
 try simp only [kf, simprocAttr] at h1
 replace h := bb h; rcases h with ⟨h2', h2, h⟩ | ⟨h2', h2, h⟩
 ·cases h; subst hR; simp only [zbuk, simprocAttr, *]
 ·replace h := ob h; obtain ⟨r2, h3, h⟩ := h
  replace h3 := zbtp q (M + 7) (by omega) _ _ h3
  try simp only [kf, simprocAttr] at h3
  replace h := br h; rcases h with ⟨h4, h⟩ | ⟨h4, h⟩
  ·cases h; subst hR; simp only [zbuk, simprocAttr, *]
  ·replace h := br h; rcases h with ⟨h5, h⟩ | ⟨h5, h⟩
   ·cases h; subst hR; simp only [zbuk, simprocAttr, *]
   ·replace h := br h; rcases h with ⟨h6, h⟩ | ⟨h6, h⟩
    ·cases h; subst hR; simp only [zbuk, simprocAttr, *]
    ·replace h := bn h; obtain ⟨h7, h⟩ := h
     replace h := bn h; obtain ⟨h8, h⟩ := h
     replace h := bn h; obtain ⟨h9, h⟩ := h
     replace h := bn h; obtain ⟨h10, h⟩ := h
     replace h := bn h; obtain ⟨h11, h⟩ := h
     replace h := bn h; obtain ⟨h12, h⟩ := h
     replace h := bn h; obtain ⟨h13, h⟩ := h
     replace h := bn h; obtain ⟨h14, h⟩ := h
     replace h := bn h; obtain ⟨h15, h⟩ := h
     replace h := ob h; obtain ⟨r3, h16, h⟩ := h
     replace h16 := zbuc q (M + 7) (by omega) _ _ _ h16
     try simp only [kf, simprocAttr] at h16
     replace h := ob h; obtain ⟨r4, h17, h⟩ := h
     replace h17 := zbuh q (M + 7) (by omega) _ _ _ h17
     try simp only [kf, simprocAttr] at h17
     replace h := bb h; rcases h with ⟨h18', h18, h⟩ | ⟨h18', h18, h⟩
     ·replace h := ob h; obtain ⟨r5, h19, h⟩ := h
      replace h19 := zbuj q (M + 7) (by omega) _ _ h19
      try simp only [kf, simprocAttr] at h19
      cases h; subst hR; simp only [zbuk, simprocAttr, *]
     ·cases h; subst hR; simp only [zbuk, simprocAttr, *]
def zbum := And.intro @kk <| And.intro @ke <| And.intro @kn <| And.intro @zbn1 <| @zbn3
theorem zbun : ∀ (q N : Nat), 8 * q ≤ N → ∀ (a0 r : Int), zli q a0 = some r → (orc T N).deep F.zli [(V.int .u64) a0] = some [(V.int .i64) r] := by
 intro q N hM a0 r h
 rcases q with _ | q
 ·cases h
 obtain ⟨M, rfl⟩ : ∃ M, N = M + 8 := ⟨N - 8, by omega⟩
 generalize hR : some [(V.int .i64) r] = R
 rw [zhs, zbho, y4, zhq]
 rw [zli] at h
 cases h; subst hR; simp only [zbum, simprocAttr, *]
def zbuo := And.intro @kk <| And.intro @ke <| And.intro @kn <| And.intro @zbnm <| And.intro @zbnk <| And.intro @zbn2 <| @zbno
theorem zbup : ∀ (q N : Nat), 8 * q ≤ N → ∀ (a0 : (Sl Int)), ∀ (r : Int × Int), zlj q a0 = some r → (orc T N).deep F.zlj [(Sl.enc (V.int .u8)) a0] = some [(V.int .i64) r.1, (V.int .i64) r.2] := by
 intro q N hM a0 r h
 rcases q with _ | q
 ·cases h
 obtain ⟨M, rfl⟩ : ∃ M, N = M + 8 := ⟨N - 8, by omega⟩
 generalize hR : some [(V.int .i64) r.1, (V.int .i64) r.2] = R
 rw [zhs, zbhj, y4, zhq]
 rw [zlj] at h
 replace h := ob h; obtain ⟨r1, h1, h⟩ := h
 replace h1 := zbtn q (M + 7) (by omega) _ _ h1
 try simp only [kf, simprocAttr] at h1
 replace h := br h; rcases h with ⟨h2, h⟩ | ⟨h2, h⟩
 ·cases h; subst hR; simp only [zbuo, simprocAttr, *]
 ·replace h := ob h; obtain ⟨r2, h3, h⟩ := h
  replace h3 := zbun q (M + 7) (by omega) _ _ h3
  cases h; subst hR; simp only [zbuo, simprocAttr, *]
def zbuq (q : Nat) : Prop := ∀ (M : Nat) (hM : 8 * q ≤ M) (j : Nat) (hj : q ≤ j) (w0 : Nat) (v1 : Int) (h0z : Bool) (h0l : List Int) (h0x : Bool) (r : (Ow Int)) (_ : zlk q v1 h0z h0l h0x = some r) (R : Option (List V)) (_ : some [(Ow.enc 1 (V.int .u8)) r] = R) (fr : Fr) (H : Hp) (_ : canon 1 [0, 1] fr H = ([(0, (.vw 0 w0 0 h0l.length 1)), (1, (.int .u64 v1))], [(.row w0 h0z 1 (List.map (V.int .u8) h0l) h0x)])), fin z30 (unw T (orc T (M + 7)) (M + 7) 1 [.blk 0, .code z3x] (iter 1 [0, 1] (exec T (orc T (M + 7)) (M + 7) 1 z3v) j fr H)) = R
def zbur := And.intro @kk <| And.intro @ke <| And.intro @kn <| And.intro @zbl4 <| @zbl6
theorem zbus (q : Nat) (zbvi : zbuq q) : zbuq (q + 1) := by
 intro M hM j hj w0 v1 h0z h0l h0x r h R hR fr H hc
 obtain ⟨j, rfl⟩ : ∃ i, j = i + 1 := ⟨j - 1, by omega⟩
 rw [zhj, hc]; clear hc
 rw [zlk] at h
 replace h := br h; rcases h with ⟨h1, h⟩ | ⟨h1, h⟩
 ·replace h := bn h; obtain ⟨h2, h⟩ := h
  replace h := zbvi M (by omega) j (by omega) (w0 + 1) _ _ _ _ _ h R hR
  simp only [zbur, simprocAttr, *]
 ·replace h := bn h; obtain ⟨h3, h⟩ := h
  cases h; subst hR; simp only [zbur, simprocAttr, *]
theorem zbut : ∀ q, zbuq q
 | 0 => by intro M hM j hj; intros; rename_i h _ _ _ _ _; cases h
 | q + 1 => by have i0 := zbut q; exact zbus q i0
theorem zbuu : ∀ (q N : Nat), 8 * q ≤ N → ∀ (a0 : (Ow Int)) (a1 : Int), ∀ (r : (Ow Int)), zll q a0 a1 = some r → (orc T N).deep F.zll [(Ow.enc 1 (V.int .u8)) a0, (V.int .u64) a1] = some [(Ow.enc 1 (V.int .u8)) r] := by
 intro q N hM a0 a1 r h
 rcases q with _ | q
 ·cases h
 obtain ⟨M, rfl⟩ : ∃ M, N = M + 8 := ⟨N - 8, by omega⟩
 have zbvi := (zbut q)
 generalize hR : some [(Ow.enc 1 (V.int .u8)) r] = R
 rw [zhs, zbg1, y4, zhq]
 rw [zll] at h
 replace h := zbvi M (by omega) (M + 7) (by omega) 0 _ _ _ _ _ h R hR
 simp only [zbur, simprocAttr, *]
def zbuv := And.intro @kk <| And.intro @ke <| And.intro @kn <| And.intro @zbj4 <| And.intro @zbl5 <| @zbj6
theorem zbuw : ∀ (q N : Nat), 8 * q ≤ N → ∀ (a0 : (Ow Int)) (a1 : Int), ∀ (r : (Ow Int)), zlm q a0 a1 = some r → (orc T N).deep F.zlm [(Ow.enc 1 (V.int .u8)) a0, (V.int .i64) a1] = some [(Ow.enc 1 (V.int .u8)) r] := by
 intro q N hM a0 a1 r h
 rcases q with _ | q
 ·cases h
 obtain ⟨M, rfl⟩ : ∃ M, N = M + 8 := ⟨N - 8, by omega⟩
 generalize hR : some [(Ow.enc 1 (V.int .u8)) r] = R
 rw [zhs, zbgd, y4, zhq]
 rw [zlm] at h
 replace h := br h; rcases h with ⟨h1, h⟩ | ⟨h1, h⟩
 ·cases h; subst hR; simp only [zbuv, simprocAttr, *]
 ·replace h := br h; rcases h with ⟨h2, h⟩ | ⟨h2, h⟩
  ·cases h; subst hR; simp only [zbuv, simprocAttr, *]
  ·replace h := ob h; obtain ⟨r1, h3, h⟩ := h
   replace h3 := zbuu q (M + 7) (by omega) _ _ _ h3
   try simp only [kf, simprocAttr] at h3
   cases h; subst hR; simp only [zbuv, simprocAttr, *]
def zbux := And.intro @kk <| And.intro @ke <| And.intro @kn <| And.intro @zbl7 <| @zbl9
theorem zbuy : ∀ (q N : Nat), 8 * q ≤ N → ∀ (a0 r : Int), zln q a0 = some r → (orc T N).deep F.zln [(V.int .i64) a0] = some [(V.int .u64) r] := by
 intro q N hM a0 r h
 rcases q with _ | q
 ·cases h
 obtain ⟨M, rfl⟩ : ∃ M, N = M + 8 := ⟨N - 8, by omega⟩
 generalize hR : some [(V.int .u64) r] = R
 rw [zhs, zbg2, y4, zhq]
 rw [zln] at h
 cases h; subst hR; simp only [zbux, simprocAttr, *]
def zbuz := And.intro @kk <| And.intro @ke <| And.intro @kn <| And.intro @zbja <| And.intro @zbl5 <| And.intro @zbl8 <| @zbjc
theorem zbu0 : ∀ (q N : Nat), 8 * q ≤ N → ∀ (a0 : (Ow Int)) (a1 : Int), ∀ (r : (Ow Int)), zlo q a0 a1 = some r → (orc T N).deep F.zlo [(Ow.enc 1 (V.int .u8)) a0, (V.int .i64) a1] = some [(Ow.enc 1 (V.int .u8)) r] := by
 intro q N hM a0 a1 r h
 rcases q with _ | q
 ·cases h
 obtain ⟨M, rfl⟩ : ∃ M, N = M + 8 := ⟨N - 8, by omega⟩
 generalize hR : some [(Ow.enc 1 (V.int .u8)) r] = R
 rw [zhs, zbf3, y4, zhq]
 rw [zlo] at h
 replace h := ob h; obtain ⟨r1, h1, h⟩ := h
 replace h1 := zbuy q (M + 7) (by omega) _ _ h1
 replace h := ob h; obtain ⟨r2, h2, h⟩ := h
 replace h2 := zbuu q (M + 7) (by omega) _ _ _ h2
 try simp only [kf, simprocAttr] at h2
 cases h; subst hR; simp only [zbuz, simprocAttr, *]
end Go.Dvm.C
