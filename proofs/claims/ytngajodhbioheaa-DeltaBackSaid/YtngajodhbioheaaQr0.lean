/- The machine comes to these answers: part 1. -/
import Derived.Test.YtngajodhbioheaaQl0
set_option linter.all false
set_option maxRecDepth 100000
set_option maxHeartbeats 4000000
namespace Go.Dvm.C
open Go Go.Dvm Go.Dvm.I
def zbiy := And.intro @kk <| And.intro @ke <| And.intro @kn <| And.intro @zbd5 <| @zbd7
theorem zbiz : ∀ (q N : Nat), 8 * q ≤ N → ∀ (a0 r : Int), zjw q a0 = some r → (orc T N).deep F.zjw [(V.int .i64) a0] = some [(V.int .i64) r] := by
 intro q N hM a0 r h
 rcases q with _ | q
 ·cases h
 obtain ⟨M, rfl⟩ : ∃ M, N = M + 8 := ⟨N - 8, by omega⟩
 generalize hR : some [(V.int .i64) r] = R
 rw [zhy, z9r, y6, zhw zyt rfl]
 rw [zjw] at h
 cases h; subst hR; simp only [zbiy, simprocAttr, *]
def zbi0 := And.intro @kk <| And.intro @ke <| And.intro @kn <| And.intro @zbd2 <| And.intro @zbd6 <| @zbd4
theorem zbi1 : ∀ (q N : Nat), 8 * q ≤ N → ∀ (a0 : Int), ∀ (r : Bool), zjx q a0 = some r → (orc T N).deep F.zjx [(V.int .i64) a0] = some [V.bool r] := by
 intro q N hM a0 r h
 rcases q with _ | q
 ·cases h
 obtain ⟨M, rfl⟩ : ∃ M, N = M + 8 := ⟨N - 8, by omega⟩
 generalize hR : some [V.bool r] = R
 rw [zhy, z9q, y6, zhw zyr rfl]
 rw [zjx] at h
 replace h := ob h; obtain ⟨r1, h1, h⟩ := h
 replace h1 := zbiz q (M + 7) (by omega) _ _ h1
 cases h; subst hR; simp only [zbi0, simprocAttr, *]
def zbi2 (q : Nat) : Prop := ∀ (M : Nat) (hM : 8 * q ≤ M) (j : Nat) (hj : q ≤ j) (v0z : Bool) (v0l : List Int) (v1 v5 v6 : Int) (r : Bool) (_ : zjy q v0z v0l v1 v5 v6 = some r) (R : Option (List V)) (_ : some [V.bool r] = R) (fr : Fr) (H : Hp) (_ : canon 0 [0, 1, 5, 6] fr H = ([(0, (.sl v0z (List.map (V.int .i64) v0l))), (1, (.int .i64 v1)), (5, (.int .i64 v5)), (6, (.int .i64 v6))], [])), fin zy5 (unw T (orc T (M + 7)) (M + 7) 0 [.blk 0, .code zy1] (iter 0 [0, 1, 5, 6] (exec T (orc T (M + 7)) (M + 7) 0 zyy) j fr H)) = R
def zbi3 := And.intro @kk <| And.intro @ke <| And.intro @kn <| And.intro @zbd8 <| @zbea
theorem zbi4 (q : Nat) (zbni : zbi2 q) : zbi2 (q + 1) := by
 intro M hM j hj v0z v0l v1 v5 v6 r h R hR fr H hc
 obtain ⟨j, rfl⟩ : ∃ i, j = i + 1 := ⟨j - 1, by omega⟩
 rw [zho, hc]; clear hc
 rw [zjy] at h
 replace h := br h; rcases h with ⟨h1, h⟩ | ⟨h1, h⟩
 ·replace h := bn h; obtain ⟨h2, h⟩ := h
  replace h := ob h; obtain ⟨e1, h3, h⟩ := h
  replace h := br h; rcases h with ⟨h4, h⟩ | ⟨h4, h⟩
  ·cases h; subst hR; simp only [zbi3, simprocAttr, *]
  ·replace h := br h; rcases h with ⟨h5, h⟩ | ⟨h5, h⟩
   ·cases h; subst hR; simp only [zbi3, simprocAttr, *]
   ·replace h := bn h; obtain ⟨h6, h⟩ := h
    replace h := ob h; obtain ⟨e2, h7, h⟩ := h
    replace h := br h; rcases h with ⟨h8, h⟩ | ⟨h8, h⟩
    ·cases h; subst hR; simp only [zbi3, simprocAttr, *]
    ·replace h := br h; rcases h with ⟨h9, h⟩ | ⟨h9, h⟩
     ·cases h; subst hR; simp only [zbi3, simprocAttr, *]
     ·replace h := zbni M (by omega) j (by omega) _ _ _ _ _ _ h R hR
      simp only [zbi3, simprocAttr, *]
 ·replace h := br h; rcases h with ⟨h10, h⟩ | ⟨h10, h⟩
  ·cases h; subst hR; simp only [zbi3, simprocAttr, *]
  ·cases h; subst hR; simp only [zbi3, simprocAttr, *]
theorem zbi5 : ∀ q, zbi2 q
 | 0 => by intro M hM j hj; intros; rename_i h _ _ _ _ _; cases h
 | q + 1 => by have i0 := zbi5 q; exact zbi4 q i0
theorem zbi6 : ∀ (q N : Nat), 8 * q ≤ N → ∀ (a0 : (Sl Int)) (a1 : Int), ∀ (r : Bool), zjz q a0 a1 = some r → (orc T N).deep F.zjz [(Sl.enc (V.int .i64)) a0, (V.int .i64) a1] = some [V.bool r] := by
 intro q N hM a0 a1 r h
 rcases q with _ | q
 ·cases h
 obtain ⟨M, rfl⟩ : ∃ M, N = M + 8 := ⟨N - 8, by omega⟩
 have zbni := (zbi5 q)
 generalize hR : some [V.bool r] = R
 rw [zhy, z9s, y6, zhw zy5 rfl]
 rw [zjz] at h
 replace h := zbni M (by omega) (M + 7) (by omega) _ _ _ _ _ _ h R hR
 simp only [zbi3, simprocAttr, *]
def zbi7 (q : Nat) : Prop := ∀ (M : Nat) (hM : 8 * q ≤ M) (j : Nat) (hj : q ≤ j) (v0z : Bool) (v0l : List Int) (v7 v8 h0_0 : Int) (h0_1z : Bool) (h0_1l : List Int) (h0_2 : Bool) (h0_3 r : Int) (_ : zj0 q v0z v0l v7 v8 h0_0 h0_1z h0_1l h0_2 h0_3 = some r) (R : Option (List V × Hp)) (_ : (some ([(.int .i64 r)], [(.box [(.int .i64 h0_0), (.sl h0_1z (List.map (V.int .i64) h0_1l)), (.bool h0_2), (.int .i64 h0_3)])]) : Option (List V × Hp)) = R) (fr : Fr) (H : Hp) (_ : canon 1 [0, 1, 7, 8] fr H = ([(0, (.sl v0z (List.map (V.int .i64) v0l))), (1, (.fn F.zjx [])), (7, (.int .i64 v7)), (8, (.int .i64 v8))], [(.box [(.int .i64 h0_0), (.sl h0_1z (List.map (V.int .i64) h0_1l)), (.bool h0_2), (.int .i64 h0_3)])])), finI 1 false [.tmp 4] (unw T (orc T (M + 5)) (M + 5) 1 [.blk 0, .code z4t] (iter 1 [0, 1, 7, 8] (exec T (orc T (M + 5)) (M + 5) 1 z4q) j fr H)) = R
def zbi8 := And.intro @kk <| And.intro @ke <| And.intro @kn <| And.intro @zbfq <| @zbd3
theorem zbi9 (q : Nat) (zbnj : zbi7 q) : zbi7 (q + 1) := by
 intro M hM j hj v0z v0l v7 v8 h0_0 h0_1z h0_1l h0_2 h0_3 r h R hR fr H hc
 obtain ⟨j, rfl⟩ : ∃ i, j = i + 1 := ⟨j - 1, by omega⟩
 rw [zho, hc]; clear hc
 rw [zj0] at h
 replace h := br h; rcases h with ⟨h1, h⟩ | ⟨h1, h⟩
 ·replace h := bn h; obtain ⟨h2, h⟩ := h
  replace h := ob h; obtain ⟨e1, h3, h⟩ := h
  replace h := ob h; obtain ⟨r2, h4, h⟩ := h
  replace h4 := zbi1 q (M + 5) (by omega) _ _ h4
  replace h := bb h; rcases h with ⟨h5', h5, h⟩ | ⟨h5', h5, h⟩
  ·cases h; subst hR; simp only [zbi8, simprocAttr, *]
  ·replace h := zbnj M (by omega) j (by omega) _ _ _ _ _ _ _ _ _ _ h R hR
   simp only [zbi8, simprocAttr, *]
 ·cases h; subst hR; simp only [zbi8, simprocAttr, *]
theorem zbja : ∀ q, zbi7 q
 | 0 => by intro M hM j hj; intros; rename_i h _ _ _ _ _; cases h
 | q + 1 => by have i0 := zbja q; exact zbi9 q i0
theorem zbjb : ∀ (q M : Nat), 8 * q ≤ M → ∀ (v0z : Bool), ∀ (v0l : List Int), ∀ (h0_0 : Int), ∀ (h0_1z : Bool), ∀ (h0_1l : List Int), ∀ (h0_2 : Bool), ∀ (h0_3 r : Int), zj1 q v0z v0l h0_0 h0_1z h0_1l h0_2 h0_3 = some r → (orc T (M + 6)).inl F.zn5 [(.sl v0z (List.map (V.int .i64) v0l)), (.fn F.zjx [])] [(.box [(.int .i64 h0_0), (.sl h0_1z (List.map (V.int .i64) h0_1l)), (.bool h0_2), (.int .i64 h0_3)])] = (some ([(.int .i64 r)], [(.box [(.int .i64 h0_0), (.sl h0_1z (List.map (V.int .i64) h0_1l)), (.bool h0_2), (.int .i64 h0_3)])]) : Option (List V × Hp)) := by
 intro q M hM v0z v0l h0_0 h0_1z h0_1l h0_2 h0_3 r h
 rcases q with _ | q
 ·cases h
 have zbnj := (zbja q)
 generalize hR : (some ([(.int .i64 r)], [(.box [(.int .i64 h0_0), (.sl h0_1z (List.map (V.int .i64) h0_1l)), (.bool h0_2), (.int .i64 h0_3)])]) : Option (List V × Hp)) = R
 rw [zbfs (n := M + 5)]
 rw [zj1] at h
 replace h := zbnj M (by omega) (M + 5) (by omega) _ _ _ _ _ _ _ _ _ _ h R hR
 simp only [zbi8, simprocAttr, *]
def zbjc := And.intro @kk <| And.intro @ke <| And.intro @kn <| And.intro @zbb6 <| And.intro @zbdz <| And.intro @zbd9 <| And.intro @zbfr <| And.intro @zbd0 <| And.intro @zbd1 <| @zbb8
theorem zbjd : ∀ (q N : Nat), 8 * q ≤ N → ∀ (a0 : zjp), ∀ (r : Bool), zj2 q a0 = some r → (orc T N).deep F.zj2 [zjp.enc a0] = some [V.bool r] := by
 intro q N hM a0 r h
 rcases q with _ | q
 ·cases h
 obtain ⟨M, rfl⟩ : ∃ M, N = M + 8 := ⟨N - 8, by omega⟩
 generalize hR : some [V.bool r] = R
 rw [zhy, z83, y6, zhw zsu rfl]
 rw [zj2] at h
 replace h := br h; rcases h with ⟨h1, h⟩ | ⟨h1, h⟩
 ·cases h; subst hR; simp only [zbjc, simprocAttr, *]
 ·replace h := br h; rcases h with ⟨h2, h⟩ | ⟨h2, h⟩
  ·cases h; subst hR; simp only [zbjc, simprocAttr, *]
  ·replace h := bb h; rcases h with ⟨h3', h3, h⟩ | ⟨h3', h3, h⟩
   ·replace h := ob h; obtain ⟨r1, h4, h⟩ := h
    replace h4 := zbjb q M (by omega) _ _ _ _ _ _ _ _ h4
    try simp only [kf, simprocAttr] at h4
    replace h := br h; rcases h with ⟨h5, h⟩ | ⟨h5, h⟩
    ·replace h := br h; rcases h with ⟨h6, h⟩ | ⟨h6, h⟩
     ·cases h; subst hR; simp only [zbjc, simprocAttr, *]
     ·cases h; subst hR; simp only [zbjc, simprocAttr, *]
    ·replace h := br h; rcases h with ⟨h7, h⟩ | ⟨h7, h⟩
     ·replace h := br h; rcases h with ⟨h8, h⟩ | ⟨h8, h⟩
      ·cases h; subst hR; simp only [zbjc, simprocAttr, *]
      ·cases h; subst hR; simp only [zbjc, simprocAttr, *]
     ·replace h := br h; rcases h with ⟨h9, h⟩ | ⟨h9, h⟩
      ·replace h := br h; rcases h with ⟨h10, h⟩ | ⟨h10, h⟩
       ·cases h; subst hR; simp only [zbjc, simprocAttr, *]
       ·cases h; subst hR; simp only [zbjc, simprocAttr, *]
      ·replace h := br h; rcases h with ⟨h11, h⟩ | ⟨h11, h⟩
       ·replace h := br h; rcases h with ⟨h12, h⟩ | ⟨h12, h⟩
        ·cases h; subst hR; simp only [zbjc, simprocAttr, *]
        ·cases h; subst hR; simp only [zbjc, simprocAttr, *]
       ·replace h := br h; rcases h with ⟨h13, h⟩ | ⟨h13, h⟩
        ·replace h := ob h; obtain ⟨r2, h14, h⟩ := h
         replace h14 := zbi6 q (M + 7) (by omega) _ _ _ h14
         try simp only [kf, simprocAttr] at h14
         cases h; subst hR; simp only [zbjc, simprocAttr, *]
        ·replace h := br h; rcases h with ⟨h15, h⟩ | ⟨h15, h⟩
         ·replace h := ob h; obtain ⟨r3, h16, h⟩ := h
          replace h16 := zbi6 q (M + 7) (by omega) _ _ _ h16
          try simp only [kf, simprocAttr] at h16
          cases h; subst hR; simp only [zbjc, simprocAttr, *]
         ·cases h; subst hR; simp only [zbjc, simprocAttr, *]
   ·replace h := br h; rcases h with ⟨h17, h⟩ | ⟨h17, h⟩
    ·replace h := ob h; obtain ⟨r4, h18, h⟩ := h
     replace h18 := zbjb q M (by omega) _ _ _ _ _ _ _ _ h18
     try simp only [kf, simprocAttr] at h18
     replace h := br h; rcases h with ⟨h19, h⟩ | ⟨h19, h⟩
     ·replace h := br h; rcases h with ⟨h20, h⟩ | ⟨h20, h⟩
      ·cases h; subst hR; simp only [zbjc, simprocAttr, *]
      ·cases h; subst hR; simp only [zbjc, simprocAttr, *]
     ·replace h := br h; rcases h with ⟨h21, h⟩ | ⟨h21, h⟩
      ·replace h := br h; rcases h with ⟨h22, h⟩ | ⟨h22, h⟩
       ·cases h; subst hR; simp only [zbjc, simprocAttr, *]
       ·cases h; subst hR; simp only [zbjc, simprocAttr, *]
      ·replace h := br h; rcases h with ⟨h23, h⟩ | ⟨h23, h⟩
       ·replace h := br h; rcases h with ⟨h24, h⟩ | ⟨h24, h⟩
        ·cases h; subst hR; simp only [zbjc, simprocAttr, *]
        ·cases h; subst hR; simp only [zbjc, simprocAttr, *]
       ·replace h := br h; rcases h with ⟨h25, h⟩ | ⟨h25, h⟩
        ·replace h := br h; rcases h with ⟨h26, h⟩ | ⟨h26, h⟩
         ·cases h; subst hR; simp only [zbjc, simprocAttr, *]
         ·cases h; subst hR; simp only [zbjc, simprocAttr, *]
        ·replace h := br h; rcases h with ⟨h27, h⟩ | ⟨h27, h⟩
         ·replace h := ob h; obtain ⟨r5, h28, h⟩ := h
          replace h28 := zbi6 q (M + 7) (by omega) _ _ _ h28
          try simp only [kf, simprocAttr] at h28
          cases h; subst hR; simp only [zbjc, simprocAttr, *]
         ·replace h := br h; rcases h with ⟨h29, h⟩ | ⟨h29, h⟩
          ·replace h := ob h; obtain ⟨r6, h30, h⟩ := h
           replace h30 := zbi6 q (M + 7) (by omega) _ _ _ h30
           try simp only [kf, simprocAttr] at h30
           cases h; subst hR; simp only [zbjc, simprocAttr, *]
          ·cases h; subst hR; simp only [zbjc, simprocAttr, *]
    ·cases h; subst hR; simp only [zbjc, simprocAttr, *]
def zbje := And.intro @kk <| And.intro @ke <| And.intro @kn <| And.intro @zbeb <| @zbed
theorem zbjf : ∀ (q N : Nat), 8 * q ≤ N → ∀ (a0 : zjq), ∀ (r : Bool), zj3 q a0 = some r → (orc T N).deep F.zj3 [zjq.enc a0] = some [V.bool r] := by
 intro q N hM a0 r h
 rcases q with _ | q
 ·cases h
 obtain ⟨M, rfl⟩ : ∃ M, N = M + 8 := ⟨N - 8, by omega⟩
 generalize hR : some [V.bool r] = R
 rw [zhy, z9t, y6, zhw zy7 rfl]
 rw [zj3] at h
 replace h := br h; rcases h with ⟨h1, h⟩ | ⟨h1, h⟩
 ·replace h := br h; rcases h with ⟨h2, h⟩ | ⟨h2, h⟩
  ·replace h := br h; rcases h with ⟨h3, h⟩ | ⟨h3, h⟩
   ·replace h := br h; rcases h with ⟨h4, h⟩ | ⟨h4, h⟩
    ·replace h := br h; rcases h with ⟨h5, h⟩ | ⟨h5, h⟩
     ·cases h; subst hR; simp only [zbje, simprocAttr, *]
     ·cases h; subst hR; simp only [zbje, simprocAttr, *]
    ·cases h; subst hR; simp only [zbje, simprocAttr, *]
   ·cases h; subst hR; simp only [zbje, simprocAttr, *]
  ·cases h; subst hR; simp only [zbje, simprocAttr, *]
 ·cases h; subst hR; simp only [zbje, simprocAttr, *]
def zbjg (q : Nat) : Prop := ∀ (M : Nat) (hM : 8 * q ≤ M) (j : Nat) (hj : q ≤ j) (v0z : Bool) (v0l : List zjq) (v5z : Bool) (v5l : List zjq) (v6 v7 : Int) (r : Bool) (_ : zj4 q v0z v0l v5z v5l v6 v7 = some r) (R : Option (List V)) (_ : some [V.bool r] = R) (fr : Fr) (H : Hp) (_ : canon 0 [0, 5, 6, 7] fr H = ([(0, (.sl v0z (List.map zjq.enc v0l))), (5, (.sl v5z (List.map zjq.enc v5l))), (6, (.int .i64 v6)), (7, (.int .i64 v7))], [])), fin zs4 (unw T (orc T (M + 7)) (M + 7) 0 [.blk 0, .code zs1] (iter 0 [0, 5, 6, 7] (exec T (orc T (M + 7)) (M + 7) 0 zsy) j fr H)) = R
def zbjh := And.intro @kk <| And.intro @ke <| And.intro @kn <| And.intro @zbb9 <| And.intro @zbec <| @zbcb
theorem zbji (q : Nat) (zbnk : zbjg q) : zbjg (q + 1) := by
 intro M hM j hj v0z v0l v5z v5l v6 v7 r h R hR fr H hc
 obtain ⟨j, rfl⟩ : ∃ i, j = i + 1 := ⟨j - 1, by omega⟩
 rw [zho, hc]; clear hc
 rw [zj4] at h
 replace h := br h; rcases h with ⟨h1, h⟩ | ⟨h1, h⟩
 ·replace h := bn h; obtain ⟨h2, h⟩ := h
  replace h := ob h; obtain ⟨e1, h3, h⟩ := h
  replace h := ob h; obtain ⟨r2, h4, h⟩ := h
  replace h4 := zbjf q (M + 7) (by omega) _ _ h4
  try simp only [kf, simprocAttr] at h4
  replace h := bb h; rcases h with ⟨h5', h5, h⟩ | ⟨h5', h5, h⟩
  ·replace h := br h; rcases h with ⟨h6, h⟩ | ⟨h6, h⟩
   ·replace h := bn h; obtain ⟨h7, h⟩ := h
    replace h := ob h; obtain ⟨e3, h8, h⟩ := h
    replace h := br h; rcases h with ⟨h9, h⟩ | ⟨h9, h⟩
    ·cases h; subst hR; simp only [zbjh, simprocAttr, *]
    ·replace h := zbnk M (by omega) j (by omega) _ _ _ _ _ _ _ h R hR
     simp only [zbjh, simprocAttr, *]
   ·replace h := zbnk M (by omega) j (by omega) _ _ _ _ _ _ _ h R hR
    simp only [zbjh, simprocAttr, *]
  ·cases h; subst hR; simp only [zbjh, simprocAttr, *]
 ·cases h; subst hR; simp only [zbjh, simprocAttr, *]
theorem zbjj : ∀ q, zbjg q
 | 0 => by intro M hM j hj; intros; rename_i h _ _ _ _ _; cases h
 | q + 1 => by have i0 := zbjj q; exact zbji q i0
theorem zbjk : ∀ (q N : Nat), 8 * q ≤ N → ∀ (a0 : (Sl zjq)), ∀ (r : Bool), zj5 q a0 = some r → (orc T N).deep F.zj5 [(Sl.enc zjq.enc) a0] = some [V.bool r] := by
 intro q N hM a0 r h
 rcases q with _ | q
 ·cases h
 obtain ⟨M, rfl⟩ : ∃ M, N = M + 8 := ⟨N - 8, by omega⟩
 have zbnk := (zbjj q)
 generalize hR : some [V.bool r] = R
 rw [zhy, z84, y6, zhw zs4 rfl]
 rw [zj5] at h
 replace h := zbnk M (by omega) (M + 7) (by omega) _ _ _ _ _ _ _ h R hR
 simp only [zbjh, simprocAttr, *]
def zbjl := And.intro @kk <| And.intro @ke <| And.intro @kn <| And.intro @zbax <| And.intro @zbb7 <| And.intro @zbca <| @zbaz
theorem zbjm : ∀ (q N : Nat), 8 * q ≤ N → ∀ (a0 : zjr), ∀ (r : Bool), zj6 q a0 = some r → (orc T N).deep F.zj6 [zjr.enc a0] = some [V.bool r] := by
 intro q N hM a0 r h
 rcases q with _ | q
 ·cases h
 obtain ⟨M, rfl⟩ : ∃ M, N = M + 8 := ⟨N - 8, by omega⟩
 generalize hR : some [V.bool r] = R
 rw [zhy, z8o, y6, zhw zpg rfl]
 rw [zj6] at h
 replace h := br h; rcases h with ⟨h1, h⟩ | ⟨h1, h⟩
 ·replace h := br h; rcases h with ⟨h2, h⟩ | ⟨h2, h⟩
  ·replace h := ob h; obtain ⟨r1, h3, h⟩ := h
   replace h3 := zbjd q (M + 7) (by omega) _ _ h3
   try simp only [kf, simprocAttr] at h3
   replace h := bb h; rcases h with ⟨h4', h4, h⟩ | ⟨h4', h4, h⟩
   ·replace h := ob h; obtain ⟨r2, h5, h⟩ := h
    replace h5 := zbjk q (M + 7) (by omega) _ _ h5
    try simp only [kf, simprocAttr] at h5
    cases h; subst hR; simp only [zbjl, simprocAttr, *]
   ·cases h; subst hR; simp only [zbjl, simprocAttr, *]
  ·cases h; subst hR; simp only [zbjl, simprocAttr, *]
 ·cases h; subst hR; simp only [zbjl, simprocAttr, *]
def zbjn (q : Nat) : Prop := ∀ (M : Nat) (hM : 8 * q ≤ M) (j : Nat) (hj : q ≤ j) (v0z : Bool) (v0l : List zjq) (v7 v8 h0_0 r : Int) (_ : zj7 q v0z v0l v7 v8 h0_0 = some r) (R : Option (List V × Hp)) (_ : (some ([(.int .i64 r)], [(.box [(.int .i64 h0_0)])]) : Option (List V × Hp)) = R) (fr : Fr) (H : Hp) (_ : canon 1 [0, 1, 7, 8] fr H = ([(0, (.sl v0z (List.map zjq.enc v0l))), (1, (.fn F.znz [(.ptr 0 0)])), (7, (.int .i64 v7)), (8, (.int .i64 v8))], [(.box [(.int .i64 h0_0)])])), finI 1 false [.tmp 4] (unw T (orc T (M + 6)) (M + 6) 1 [.blk 0, .code zw4] (iter 1 [0, 1, 7, 8] (exec T (orc T (M + 6)) (M + 6) 1 zw1) j fr H)) = R
def zbjo := And.intro @kk <| And.intro @ke <| And.intro @kn <| And.intro @zbc9 <| And.intro @zbdw <| And.intro @zbdx <| @zbdy
theorem zbjp (q : Nat) (zbnl : zbjn q) : zbjn (q + 1) := by
 intro M hM j hj v0z v0l v7 v8 h0_0 r h R hR fr H hc
 obtain ⟨j, rfl⟩ : ∃ i, j = i + 1 := ⟨j - 1, by omega⟩
 rw [zho, hc]; clear hc
 rw [zj7] at h
 replace h := br h; rcases h with ⟨h1, h⟩ | ⟨h1, h⟩
 ·replace h := bn h; obtain ⟨h2, h⟩ := h
  replace h := ob h; obtain ⟨e1, h3, h⟩ := h
  replace h := br h; rcases h with ⟨h4, h⟩ | ⟨h4, h⟩
  ·cases h; subst hR; simp only [zbjo, simprocAttr, *]
  ·replace h := zbnl M (by omega) j (by omega) _ _ _ _ _ _ h R hR
   simp only [zbjo, simprocAttr, *]
 ·cases h; subst hR; simp only [zbjo, simprocAttr, *]
theorem zbjq : ∀ q, zbjn q
 | 0 => by intro M hM j hj; intros; rename_i h _ _ _ _ _; cases h
 | q + 1 => by have i0 := zbjq q; exact zbjp q i0
theorem zbjr : ∀ (q M : Nat), 8 * q ≤ M → ∀ (v0z : Bool), ∀ (v0l : List zjq), ∀ (h0_0 r : Int), zj8 q v0z v0l h0_0 = some r → (orc T (M + 7)).inl F.znx [(.sl v0z (List.map zjq.enc v0l)), (.fn F.znz [(.ptr 0 0)])] [(.box [(.int .i64 h0_0)])] = (some ([(.int .i64 r)], [(.box [(.int .i64 h0_0)])]) : Option (List V × Hp)) := by
 intro q M hM v0z v0l h0_0 r h
 rcases q with _ | q
 ·cases h
 have zbnl := (zbjq q)
 generalize hR : (some ([(.int .i64 r)], [(.box [(.int .i64 h0_0)])]) : Option (List V × Hp)) = R
 rw [zbdb (n := M + 6)]
 rw [zj8] at h
 replace h := zbnl M (by omega) (M + 6) (by omega) _ _ _ _ _ _ h R hR
 simp only [zbjo, simprocAttr, *]
def zbjs := And.intro @kk <| And.intro @ke <| And.intro @kn <| And.intro @zbbr <| And.intro @zbda <| @zbbt
theorem zbjt : ∀ (q N : Nat), 8 * q ≤ N → ∀ (a0 : (Sl zjq)) (a1 : Int), ∀ (r : Int), zj9 q a0 a1 = some r → (orc T N).deep F.zj9 [(Sl.enc zjq.enc) a0, (V.int .i64) a1] = some [(V.int .i64) r] := by
 intro q N hM a0 a1 r h
 rcases q with _ | q
 ·cases h
 obtain ⟨M, rfl⟩ : ∃ M, N = M + 8 := ⟨N - 8, by omega⟩
 generalize hR : some [(V.int .i64) r] = R
 rw [zhy, z8y, y6, zhw zrx rfl]
 rw [zj9] at h
 replace h := ob h; obtain ⟨r1, h1, h⟩ := h
 replace h1 := zbjr q M (by omega) _ _ _ _ h1
 try simp only [kf, simprocAttr] at h1
 cases h; subst hR; simp only [zbjs, simprocAttr, *]
def zbju (q : Nat) : Prop := ∀ (M : Nat) (hM : 8 * q ≤ M) (j : Nat) (hj : q ≤ j) (v0z : Bool) (v0l : List Int) (v1z : Bool) (v1l : List Int) (v5 r : Int) (_ : zka q v0z v0l v1z v1l v5 = some r) (R : Option (List V)) (_ : some [(V.int .i64) r] = R) (fr : Fr) (H : Hp) (_ : canon 0 [0, 1, 5] fr H = ([(0, (.sl v0z (List.map (V.int .i64) v0l))), (1, (.sl v1z (List.map (V.int .i64) v1l))), (5, (.int .i64 v5))], [])), fin zr3 (unw T (orc T (M + 7)) (M + 7) 0 [.blk 0, .code c_48_9] (iter 0 [0, 1, 5] (exec T (orc T (M + 7)) (M + 7) 0 c_48_7) j fr H)) = R
def zbjv := And.intro @kk <| And.intro @ke <| And.intro @kn <| And.intro @zbbx <| @zbbz
theorem zbjw (q : Nat) (zbnm : zbju q) : zbju (q + 1) := by
 intro M hM j hj v0z v0l v1z v1l v5 r h R hR fr H hc
 obtain ⟨j, rfl⟩ : ∃ i, j = i + 1 := ⟨j - 1, by omega⟩
 rw [zho, hc]; clear hc
 rw [zka] at h
 replace h := br h; rcases h with ⟨h1, h⟩ | ⟨h1, h⟩
 ·replace h := br h; rcases h with ⟨h2, h⟩ | ⟨h2, h⟩
  ·replace h := bn h; obtain ⟨h3, h⟩ := h
   replace h := ob h; obtain ⟨e1, h4, h⟩ := h
   replace h := ob h; obtain ⟨e2, h5, h⟩ := h
   replace h := br h; rcases h with ⟨h6, h⟩ | ⟨h6, h⟩
   ·replace h := zbnm M (by omega) j (by omega) _ _ _ _ _ _ h R hR
    simp only [zbjv, simprocAttr, *]
   ·cases h; subst hR; simp only [zbjv, simprocAttr, *]
  ·cases h; subst hR; simp only [zbjv, simprocAttr, *]
 ·cases h; subst hR; simp only [zbjv, simprocAttr, *]
theorem zbjx : ∀ q, zbju q
 | 0 => by intro M hM j hj; intros; rename_i h _ _ _ _ _; cases h
 | q + 1 => by have i0 := zbjx q; exact zbjw q i0
theorem zbjy : ∀ (q N : Nat), 8 * q ≤ N → ∀ (a0 a1 : (Sl Int)), ∀ (r : Int), zkb q a0 a1 = some r → (orc T N).deep F.zkb [(Sl.enc (V.int .i64)) a0, (Sl.enc (V.int .i64)) a1] = some [(V.int .i64) r] := by
 intro q N hM a0 a1 r h
 rcases q with _ | q
 ·cases h
 obtain ⟨M, rfl⟩ : ∃ M, N = M + 8 := ⟨N - 8, by omega⟩
 have zbnm := (zbjx q)
 generalize hR : some [(V.int .i64) r] = R
 rw [zhy, z80, y6, zhw zr3 rfl]
 rw [zkb] at h
 replace h := zbnm M (by omega) (M + 7) (by omega) _ _ _ _ _ _ h R hR
 simp only [zbjv, simprocAttr, *]
def zbjz (q : Nat) : Prop := ∀ (M : Nat) (hM : 8 * q ≤ M) (j : Nat) (hj : q ≤ j) (v0z : Bool) (v0l : List Int) (v1z : Bool) (v1l : List Int) (v5 r : Int) (_ : zkc q v0z v0l v1z v1l v5 = some r) (R : Option (List V)) (_ : some [(V.int .i64) r] = R) (fr : Fr) (H : Hp) (_ : canon 0 [0, 1, 5] fr H = ([(0, (.sl v0z (List.map (V.int .i64) v0l))), (1, (.sl v1z (List.map (V.int .i64) v1l))), (5, (.int .i64 v5))], [])), fin zr7 (unw T (orc T (M + 7)) (M + 7) 0 [.blk 0, .code c_49_9] (iter 0 [0, 1, 5] (exec T (orc T (M + 7)) (M + 7) 0 c_49_7) j fr H)) = R
def zbj0 := And.intro @kk <| And.intro @ke <| And.intro @kn <| And.intro @zbb0 <| @zbb2
theorem zbj1 (q : Nat) (zbnn : zbjz q) : zbjz (q + 1) := by
 intro M hM j hj v0z v0l v1z v1l v5 r h R hR fr H hc
 obtain ⟨j, rfl⟩ : ∃ i, j = i + 1 := ⟨j - 1, by omega⟩
 rw [zho, hc]; clear hc
 rw [zkc] at h
 replace h := br h; rcases h with ⟨h1, h⟩ | ⟨h1, h⟩
 ·replace h := br h; rcases h with ⟨h2, h⟩ | ⟨h2, h⟩
  ·replace h := bn h; obtain ⟨h3, h⟩ := h
   replace h := ob h; obtain ⟨e1, h4, h⟩ := h
   replace h := bn h; obtain ⟨h5, h⟩ := h
   replace h := ob h; obtain ⟨e2, h6, h⟩ := h
   replace h := br h; rcases h with ⟨h7, h⟩ | ⟨h7, h⟩
   ·replace h := zbnn M (by omega) j (by omega) _ _ _ _ _ _ h R hR
    simp only [zbj0, simprocAttr, *]
   ·cases h; subst hR; simp only [zbj0, simprocAttr, *]
  ·cases h; subst hR; simp only [zbj0, simprocAttr, *]
 ·cases h; subst hR; simp only [zbj0, simprocAttr, *]
theorem zbj2 : ∀ q, zbjz q
 | 0 => by intro M hM j hj; intros; rename_i h _ _ _ _ _; cases h
 | q + 1 => by have i0 := zbj2 q; exact zbj1 q i0
theorem zbj3 : ∀ (q N : Nat), 8 * q ≤ N → ∀ (a0 a1 : (Sl Int)), ∀ (r : Int), zkd q a0 a1 = some r → (orc T N).deep F.zkd [(Sl.enc (V.int .i64)) a0, (Sl.enc (V.int .i64)) a1] = some [(V.int .i64) r] := by
 intro q N hM a0 a1 r h
 rcases q with _ | q
 ·cases h
 obtain ⟨M, rfl⟩ : ∃ M, N = M + 8 := ⟨N - 8, by omega⟩
 have zbnn := (zbj2 q)
 generalize hR : some [(V.int .i64) r] = R
 rw [zhy, z81, y6, zhw zr7 rfl]
 rw [zkd] at h
 replace h := zbnn M (by omega) (M + 7) (by omega) _ _ _ _ _ _ h R hR
 simp only [zbj0, simprocAttr, *]
def zbj4 := And.intro @kk <| And.intro @ke <| And.intro @kn <| And.intro @zbb3 <| @zbb5
theorem zbj5 : ∀ (q N : Nat), 8 * q ≤ N → ∀ (a0 : (Sl Int)), ∀ (r : (Ow Int)), zke q a0 = some r → (orc T N).deep F.zke [(Sl.enc (V.int .i64)) a0] = some [(Ow.enc 1 (V.int .i64)) r] := by
 intro q N hM a0 r h
 rcases q with _ | q
 ·cases h
 obtain ⟨M, rfl⟩ : ∃ M, N = M + 8 := ⟨N - 8, by omega⟩
 generalize hR : some [(Ow.enc 1 (V.int .i64)) r] = R
 rw [zhy, z82, y6, zhw zr9 rfl]
 rw [zke] at h
 replace h := bb h; rcases h with ⟨h1', h1, h⟩ | ⟨h1', h1, h⟩
 ·cases h; subst hR; simp only [zbj4, simprocAttr, *]
 ·replace h := bn h; obtain ⟨h2, h⟩ := h
  cases h; subst hR; simp only [zbj4, simprocAttr, *]
def zbj6 (q : Nat) : Prop := ∀ (M : Nat) (hM : 8 * q ≤ M) (j : Nat) (hj : q ≤ j) (v0z : Bool) (v0l : List zjq) (v7 v8 h0_0 h0_1 : Int) (h0_2z : Bool) (h0_2l : List Int) (h0_3 : Bool) (h0_4 : Int) (h0_5z : Bool) (h0_5l : List zjq) (h1_0 h1_1 : Int) (h1_2z : Bool) (h1_2l : List Int) (h1_3 : Bool) (h1_4 : Int) (h1_5z : Bool) (h1_5l : List zjq) (r : Int) (_ : zkf q v0z v0l v7 v8 h0_0 h0_1 h0_2z h0_2l h0_3 h0_4 h0_5z h0_5l h1_0 h1_1 h1_2z h1_2l h1_3 h1_4 h1_5z h1_5l = some r) (R : Option (List V × Hp)) (_ : (some ([(.int .i64 r)], [(.box [(.int .i64 h0_0), (.int .i64 h0_1), (.sl h0_2z (List.map (V.int .i64) h0_2l)), (.bool h0_3), (.int .i64 h0_4), (.sl h0_5z (List.map zjq.enc h0_5l))]), (.box [(.int .i64 h1_0), (.int .i64 h1_1), (.sl h1_2z (List.map (V.int .i64) h1_2l)), (.bool h1_3), (.int .i64 h1_4), (.sl h1_5z (List.map zjq.enc h1_5l))]), (.box [(.int .i64 0), (.int .i64 0), (.int .i64 0), (.int .i64 0), (.sl true []), (.bool false), (.int .i64 0), (.sl true [])])]) : Option (List V × Hp)) = R) (fr : Fr) (H : Hp) (_ : canon 3 [0, 1, 7, 8] fr H = ([(0, (.sl v0z (List.map zjq.enc v0l))), (1, (.fn F.znt [(.ptr 1 0)])), (7, (.int .i64 v7)), (8, (.int .i64 v8))], [(.box [(.int .i64 h0_0), (.int .i64 h0_1), (.sl h0_2z (List.map (V.int .i64) h0_2l)), (.bool h0_3), (.int .i64 h0_4), (.sl h0_5z (List.map zjq.enc h0_5l))]), (.box [(.int .i64 h1_0), (.int .i64 h1_1), (.sl h1_2z (List.map (V.int .i64) h1_2l)), (.bool h1_3), (.int .i64 h1_4), (.sl h1_5z (List.map zjq.enc h1_5l))]), (.box [(.int .i64 0), (.int .i64 0), (.int .i64 0), (.int .i64 0), (.sl true []), (.bool false), (.int .i64 0), (.sl true [])])])), finI 3 false [.tmp 4] (unw T (orc T (M + 5)) (M + 5) 3 [.blk 0, .code zw4] (iter 3 [0, 1, 7, 8] (exec T (orc T (M + 5)) (M + 5) 3 zw1) j fr H)) = R
def zbj7 := And.intro @kk <| And.intro @ke <| And.intro @kn <| And.intro @zbbo <| And.intro @zbc9 <| And.intro @zbbs <| And.intro @zbbp <| @zbbq
theorem zbj8 (q : Nat) (zbno : zbj6 q) : zbj6 (q + 1) := by
 intro M hM j hj v0z v0l v7 v8 h0_0 h0_1 h0_2z h0_2l h0_3 h0_4 h0_5z h0_5l h1_0 h1_1 h1_2z h1_2l h1_3 h1_4 h1_5z h1_5l r h R hR fr H hc
 obtain ⟨j, rfl⟩ : ∃ i, j = i + 1 := ⟨j - 1, by omega⟩
 rw [zho, hc]; clear hc
 rw [zkf] at h
 replace h := br h; rcases h with ⟨h1, h⟩ | ⟨h1, h⟩
 ·replace h := bn h; obtain ⟨h2, h⟩ := h
  replace h := ob h; obtain ⟨e1, h3, h⟩ := h
  replace h := ob h; obtain ⟨r2, h4, h⟩ := h
  replace h4 := zbjt q (M + 4) (by omega) _ _ _ h4
  try simp only [kf, simprocAttr] at h4
  replace h := br h; rcases h with ⟨h5, h⟩ | ⟨h5, h⟩
  ·cases h; subst hR; simp only [zbj7, simprocAttr, *]
  ·replace h := zbno M (by omega) j (by omega) _ _ _ _ _ _ _ _ _ _ _ _ _ _ _ _ _ _ _ _ _ h R hR
   simp only [zbj7, simprocAttr, *]
 ·cases h; subst hR; simp only [zbj7, simprocAttr, *]
theorem zbj9 : ∀ q, zbj6 q
 | 0 => by intro M hM j hj; intros; rename_i h _ _ _ _ _; cases h
 | q + 1 => by have i0 := zbj9 q; exact zbj8 q i0
theorem zbka : ∀ (q M : Nat), 8 * q ≤ M → ∀ (v0z : Bool), ∀ (v0l : List zjq), ∀ (h0_0 h0_1 : Int), ∀ (h0_2z : Bool), ∀ (h0_2l : List Int), ∀ (h0_3 : Bool), ∀ (h0_4 : Int), ∀ (h0_5z : Bool), ∀ (h0_5l : List zjq), ∀ (h1_0 h1_1 : Int), ∀ (h1_2z : Bool), ∀ (h1_2l : List Int), ∀ (h1_3 : Bool), ∀ (h1_4 : Int), ∀ (h1_5z : Bool), ∀ (h1_5l : List zjq), ∀ (r : Int), zkg q v0z v0l h0_0 h0_1 h0_2z h0_2l h0_3 h0_4 h0_5z h0_5l h1_0 h1_1 h1_2z h1_2l h1_3 h1_4 h1_5z h1_5l = some r → (orc T (M + 6)).inl F.znx [(.sl v0z (List.map zjq.enc v0l)), (.fn F.znt [(.ptr 1 0)])] [(.box [(.int .i64 h0_0), (.int .i64 h0_1), (.sl h0_2z (List.map (V.int .i64) h0_2l)), (.bool h0_3), (.int .i64 h0_4), (.sl h0_5z (List.map zjq.enc h0_5l))]), (.box [(.int .i64 h1_0), (.int .i64 h1_1), (.sl h1_2z (List.map (V.int .i64) h1_2l)), (.bool h1_3), (.int .i64 h1_4), (.sl h1_5z (List.map zjq.enc h1_5l))]), (.box [(.int .i64 0), (.int .i64 0), (.int .i64 0), (.int .i64 0), (.sl true []), (.bool false), (.int .i64 0), (.sl true [])])] = (some ([(.int .i64 r)], [(.box [(.int .i64 h0_0), (.int .i64 h0_1), (.sl h0_2z (List.map (V.int .i64) h0_2l)), (.bool h0_3), (.int .i64 h0_4), (.sl h0_5z (List.map zjq.enc h0_5l))]), (.box [(.int .i64 h1_0), (.int .i64 h1_1), (.sl h1_2z (List.map (V.int .i64) h1_2l)), (.bool h1_3), (.int .i64 h1_4), (.sl h1_5z (List.map zjq.enc h1_5l))]), (.box [(.int .i64 0), (.int .i64 0), (.int .i64 0), (.int .i64 0), (.sl true []), (.bool false), (.int .i64 0), (.sl true [])])]) : Option (List V × Hp)) := by
 intro q M hM v0z v0l h0_0 h0_1 h0_2z h0_2l h0_3 h0_4 h0_5z h0_5l h1_0 h1_1 h1_2z h1_2l h1_3 h1_4 h1_5z h1_5l r h
 rcases q with _ | q
 ·cases h
 have zbno := (zbj9 q)
 generalize hR : (some ([(.int .i64 r)], [(.box [(.int .i64 h0_0), (.int .i64 h0_1), (.sl h0_2z (List.map (V.int .i64) h0_2l)), (.bool h0_3), (.int .i64 h0_4), (.sl h0_5z (List.map zjq.enc h0_5l))]), (.box [(.int .i64 h1_0), (.int .i64 h1_1), (.sl h1_2z (List.map (V.int .i64) h1_2l)), (.bool h1_3), (.int .i64 h1_4), (.sl h1_5z (List.map zjq.enc h1_5l))]), (.box [(.int .i64 0), (.int .i64 0), (.int .i64 0), (.int .i64 0), (.sl true []), (.bool false), (.int .i64 0), (.sl true [])])]) : Option (List V × Hp)) = R
 rw [zbdb (n := M + 5)]
 rw [zkg] at h
 replace h := zbno M (by omega) (M + 5) (by omega) _ _ _ _ _ _ _ _ _ _ _ _ _ _ _ _ _ _ _ _ _ h R hR
 simp only [zbj7, simprocAttr, *]
def zbkb (q : Nat) : Prop := ∀ (M : Nat) (hM : 8 * q ≤ M) (j : Nat) (hj : q ≤ j) (v89z : Bool) (v89l : List zjq) (v90 v91 h0_0 h0_1 : Int) (h0_2z : Bool) (h0_2l : List Int) (h0_3 : Bool) (h0_4 : Int) (h0_5z : Bool) (h0_5l : List zjq) (h2_0 h2_1 h2_2 h2_3 : Int) (h2_5 : Bool) (h2_6 : Int) (h3z : Bool) (h3l : List Int) (h3x : Bool) (r : zjs × Int) (_ : zki q v89z v89l v90 v91 h0_0 h0_1 h0_2z h0_2l h0_3 h0_4 h0_5z h0_5l h2_0 h2_1 h2_2 h2_3 h2_5 h2_6 h3z h3l h3x = some r) (R : Option (List V)) (_ : some [zjs.enc r.1, (V.int .i64) r.2] = R) (fr : Fr) (H : Hp) (_ : canon 0 [2, 4, 7, 89, 90, 91] fr H = ([(2, (.ptr 0 0)), (4, (.ptr 1 0)), (7, (.ptr 2 0)), (89, (.sl v89z (List.map zjq.enc v89l))), (90, (.int .i64 v90)), (91, (.int .i64 v91))], [(.box [(.int .i64 h0_0), (.int .i64 h0_1), (.sl h0_2z (List.map (V.int .i64) h0_2l)), (.bool h0_3), (.int .i64 h0_4), (.sl h0_5z (List.map zjq.enc h0_5l))]), (.box [(.int .i64 0), (.int .i64 0), (.int .i64 0), (.int .i64 0), (.sl true []), (.bool false), (.int .i64 0), (.sl true [])]), (.box [(.int .i64 h2_0), (.int .i64 h2_1), (.int .i64 h2_2), (.int .i64 h2_3), (.vw 3 0 0 h3l.length 1), (.bool h2_5), (.int .i64 h2_6), (.sl true [])]), (.row 0 h3z 1 (List.map (V.int .i64) h3l) h3x)])), fin zpe (unw T (orc T (M + 7)) (M + 7) 0 [.blk 1, .code zo3] (iter 0 [2, 4, 7, 89, 90, 91] (exec T (orc T (M + 7)) (M + 7) 0 zo0) j fr H)) = R
def zbkc (q : Nat) : Prop := ∀ (M : Nat) (hM : 8 * q ≤ M) (j : Nat) (hj : q ≤ j) (v89z : Bool) (v89l : List zjq) (v90 v91 h0_0 h0_1 : Int) (h0_2z : Bool) (h0_2l : List Int) (h0_3 : Bool) (h0_4 : Int) (h0_5z : Bool) (h0_5l : List zjq) (h2_0 h2_1 h2_2 h2_3 : Int) (h2_5 : Bool) (h2_6 : Int) (h3z : Bool) (h3l : List Int) (h3x : Bool) (h4l : List zjq) (r : zjs × Int) (_ : zkh q v89z v89l v90 v91 h0_0 h0_1 h0_2z h0_2l h0_3 h0_4 h0_5z h0_5l h2_0 h2_1 h2_2 h2_3 h2_5 h2_6 h3z h3l h3x h4l = some r) (R : Option (List V)) (_ : some [zjs.enc r.1, (V.int .i64) r.2] = R) (fr : Fr) (H : Hp) (_ : canon 0 [2, 4, 7, 89, 90, 91] fr H = ([(2, (.ptr 0 0)), (4, (.ptr 1 0)), (7, (.ptr 2 0)), (89, (.sl v89z (List.map zjq.enc v89l))), (90, (.int .i64 v90)), (91, (.int .i64 v91))], [(.box [(.int .i64 h0_0), (.int .i64 h0_1), (.sl h0_2z (List.map (V.int .i64) h0_2l)), (.bool h0_3), (.int .i64 h0_4), (.sl h0_5z (List.map zjq.enc h0_5l))]), (.box [(.int .i64 0), (.int .i64 0), (.int .i64 0), (.int .i64 0), (.sl true []), (.bool false), (.int .i64 0), (.sl true [])]), (.box [(.int .i64 h2_0), (.int .i64 h2_1), (.int .i64 h2_2), (.int .i64 h2_3), (.vw 3 0 0 h3l.length 1), (.bool h2_5), (.int .i64 h2_6), (.vw 4 0 0 h4l.length 1)]), (.row 0 h3z 1 (List.map (V.int .i64) h3l) h3x), (.row 0 false 3 (List.map zjq.enc h4l) true)])), fin zpe (unw T (orc T (M + 7)) (M + 7) 0 [.blk 1, .code zo3] (iter 0 [2, 4, 7, 89, 90, 91] (exec T (orc T (M + 7)) (M + 7) 0 zo0) j fr H)) = R
def zbkd := And.intro @kk <| And.intro @ke <| And.intro @kn <| And.intro @zbau <| And.intro @zbbu <| And.intro @zbay <| And.intro @zbbs <| And.intro @zbby <| And.intro @zbb1 <| And.intro @zbb4 <| And.intro @zbda <| And.intro @zbbv <| And.intro @zbbw <| @zbaw
theorem zbke (q : Nat) (zbnp : zbkb q) (zbnq : zbkc q) : zbkb (q + 1) := by
 intro M hM j hj v89z v89l v90 v91 h0_0 h0_1 h0_2z h0_2l h0_3 h0_4 h0_5z h0_5l h2_0 h2_1 h2_2 h2_3 h2_5 h2_6 h3z h3l h3x r h R hR fr H hc
 obtain ⟨j, rfl⟩ : ∃ i, j = i + 1 := ⟨j - 1, by omega⟩
 rw [zho, hc]; clear hc
 rw [zki] at h
 replace h := br h; rcases h with ⟨h1, h⟩ | ⟨h1, h⟩
 ·replace h := bn h; obtain ⟨h2, h⟩ := h
  replace h := ob h; obtain ⟨e7, h3, h⟩ := h
  replace h := ob h; obtain ⟨r8, h4, h⟩ := h
  replace h4 := zbjt q (M + 7) (by omega) _ _ _ h4
  try simp only [kf, simprocAttr] at h4
  replace h := br h; rcases h with ⟨h5, h⟩ | ⟨h5, h⟩
  ·replace h := zbnq M (by omega) j (by omega) _ _ _ _ _ _ _ _ _ _ _ _ _ _ _ _ _ _ _ _ _ _ _ h R hR
   simp only [zbkd, simprocAttr, *]
  ·replace h := bn h; obtain ⟨h6, h⟩ := h
   replace h := ob h; obtain ⟨e9, h7, h⟩ := h
   replace h := br h; rcases h with ⟨h8, h⟩ | ⟨h8, h⟩
   ·replace h := br h; rcases h with ⟨h9, h⟩ | ⟨h9, h⟩
    ·replace h := br h; rcases h with ⟨h10, h⟩ | ⟨h10, h⟩
     ·replace h := zbnp M (by omega) j (by omega) _ _ _ _ _ _ _ _ _ _ _ _ _ _ _ _ _ _ _ _ _ _ h R hR
      simp only [zbkd, simprocAttr, *]
     ·replace h := zbnq M (by omega) j (by omega) _ _ _ _ _ _ _ _ _ _ _ _ _ _ _ _ _ _ _ _ _ _ _ h R hR
      simp only [zbkd, simprocAttr, *]
    ·replace h := zbnq M (by omega) j (by omega) _ _ _ _ _ _ _ _ _ _ _ _ _ _ _ _ _ _ _ _ _ _ _ h R hR
     simp only [zbkd, simprocAttr, *]
   ·replace h := zbnq M (by omega) j (by omega) _ _ _ _ _ _ _ _ _ _ _ _ _ _ _ _ _ _ _ _ _ _ _ h R hR
    simp only [zbkd, simprocAttr, *]
 ·cases h; subst hR; simp only [zbkd, simprocAttr, *]
theorem zbkf (q : Nat) (zbnq : zbkc q) : zbkc (q + 1) := by
 intro M hM j hj v89z v89l v90 v91 h0_0 h0_1 h0_2z h0_2l h0_3 h0_4 h0_5z h0_5l h2_0 h2_1 h2_2 h2_3 h2_5 h2_6 h3z h3l h3x h4l r h R hR fr H hc
 obtain ⟨j, rfl⟩ : ∃ i, j = i + 1 := ⟨j - 1, by omega⟩
 rw [zho, hc]; clear hc
 rw [zkh] at h
 replace h := br h; rcases h with ⟨h1, h⟩ | ⟨h1, h⟩
 ·replace h := bn h; obtain ⟨h2, h⟩ := h
  replace h := ob h; obtain ⟨e10, h3, h⟩ := h
  replace h := ob h; obtain ⟨r11, h4, h⟩ := h
  replace h4 := zbjt q (M + 7) (by omega) _ _ _ h4
  try simp only [kf, simprocAttr] at h4
  replace h := br h; rcases h with ⟨h5, h⟩ | ⟨h5, h⟩
  ·replace h := bn h; obtain ⟨h6, h⟩ := h
   replace h := zbnq M (by omega) j (by omega) _ _ _ _ _ _ _ _ _ _ _ _ _ _ _ _ _ _ _ _ _ _ _ h R hR
   simp only [zbkd, simprocAttr, *]
  ·replace h := bn h; obtain ⟨h7, h⟩ := h
   replace h := ob h; obtain ⟨e12, h8, h⟩ := h
   replace h := br h; rcases h with ⟨h9, h⟩ | ⟨h9, h⟩
   ·replace h := br h; rcases h with ⟨h10, h⟩ | ⟨h10, h⟩
    ·replace h := br h; rcases h with ⟨h11, h⟩ | ⟨h11, h⟩
     ·replace h := zbnq M (by omega) j (by omega) _ _ _ _ _ _ _ _ _ _ _ _ _ _ _ _ _ _ _ _ _ _ _ h R hR
      simp only [zbkd, simprocAttr, *]
     ·replace h := bn h; obtain ⟨h12, h⟩ := h
      replace h := zbnq M (by omega) j (by omega) _ _ _ _ _ _ _ _ _ _ _ _ _ _ _ _ _ _ _ _ _ _ _ h R hR
      simp only [zbkd, simprocAttr, *]
    ·replace h := bn h; obtain ⟨h13, h⟩ := h
     replace h := zbnq M (by omega) j (by omega) _ _ _ _ _ _ _ _ _ _ _ _ _ _ _ _ _ _ _ _ _ _ _ h R hR
     simp only [zbkd, simprocAttr, *]
   ·replace h := bn h; obtain ⟨h14, h⟩ := h
    replace h := zbnq M (by omega) j (by omega) _ _ _ _ _ _ _ _ _ _ _ _ _ _ _ _ _ _ _ _ _ _ _ h R hR
    simp only [zbkd, simprocAttr, *]
 ·cases h; subst hR; simp only [zbkd, simprocAttr, *]
theorem zbkg : ∀ q, zbkb q ∧ zbkc q
 | 0 => by refine ⟨?_, ?_⟩ <;> (intro M hM j hj; intros; rename_i h _ _ _ _ _; cases h)
 | q + 1 => by have ⟨i0, i1⟩ := zbkg q; exact ⟨zbke q i0 i1, zbkf q i1⟩
theorem zbkh : ∀ (q N : Nat), 8 * q ≤ N → ∀ (a0 a1 : zjr), ∀ (r : zjs × Int), zkj q a0 a1 = some r → (orc T N).deep F.zkj [zjr.enc a0, zjr.enc a1] = some [zjs.enc r.1, (V.int .i64) r.2] := by
 intro q N hM a0 a1 r h
 rcases q with _ | q
 ·cases h
 obtain ⟨M, rfl⟩ : ∃ M, N = M + 8 := ⟨N - 8, by omega⟩
 have zbnp := (zbkg q).1
 generalize hR : some [zjs.enc r.1, (V.int .i64) r.2] = R
 rw [zhy, z8n, y6, zhw zpe rfl]
 rw [zkj] at h
 replace h := ob h; obtain ⟨r1, h1, h⟩ := h
 replace h1 := zbjm q (M + 7) (by omega) _ _ h1
 try simp only [kf, simprocAttr] at h1
 replace h := bb h; rcases h with ⟨h2', h2, h⟩ | ⟨h2', h2, h⟩
 ·replace h := ob h; obtain ⟨r2, h3, h⟩ := h
  replace h3 := zbjm q (M + 7) (by omega) _ _ h3
  try simp only [kf, simprocAttr] at h3
  replace h := bb h; rcases h with ⟨h4', h4, h⟩ | ⟨h4', h4, h⟩
  ·replace h := br h; rcases h with ⟨h5, h⟩ | ⟨h5, h⟩
   ·replace h := br h; rcases h with ⟨h6, h⟩ | ⟨h6, h⟩
    ·cases h; subst hR; simp only [zbkd, simprocAttr, *]
    ·replace h := ob h; obtain ⟨r3, h7, h⟩ := h
     replace h7 := zbka q M (by omega) _ _ _ _ _ _ _ _ _ _ _ _ _ _ _ _ _ _ _ h7
     try simp only [kf, simprocAttr] at h7
     replace h := br h; rcases h with ⟨h8, h⟩ | ⟨h8, h⟩
     ·cases h; subst hR; simp only [zbkd, simprocAttr, *]
     ·replace h := ob h; obtain ⟨r4, h9, h⟩ := h
      replace h9 := zbjy q (M + 7) (by omega) _ _ _ h9
      try simp only [kf, simprocAttr] at h9
      replace h := bn h; obtain ⟨h10, h⟩ := h
      replace h := bn h; obtain ⟨h11, h⟩ := h
      replace h := bn h; obtain ⟨h12, h⟩ := h
      replace h := ob h; obtain ⟨r5, h13, h⟩ := h
      replace h13 := zbj3 q (M + 7) (by omega) _ _ _ h13
      try simp only [kf, simprocAttr] at h13
      replace h := bn h; obtain ⟨h14, h⟩ := h
      replace h := bn h; obtain ⟨h15, h⟩ := h
      replace h := ob h; obtain ⟨r6, h16, h⟩ := h
      replace h16 := zbj5 q (M + 7) (by omega) _ _ h16
      try simp only [kf, simprocAttr] at h16
      replace h := zbnp M (by omega) (M + 7) (by omega) _ _ _ _ _ _ _ _ _ _ _ _ _ _ _ _ _ _ _ _ _ _ h R hR
      simp only [zbkd, simprocAttr, *]
   ·cases h; subst hR; simp only [zbkd, simprocAttr, *]
  ·cases h; subst hR; simp only [zbkd, simprocAttr, *]
 ·cases h; subst hR; simp only [zbkd, simprocAttr, *]
def zbki (q : Nat) : Prop := ∀ (M : Nat) (hM : 8 * q ≤ M) (j : Nat) (hj : q ≤ j) (v0z : Bool) (v0l : List (Sl Int)) (v3 : Int) (v9z : Bool) (v9l : List (Sl Int)) (v10 v11 : Int) (r : (Ow Int)) (_ : zkn q v0z v0l v3 v9z v9l v10 v11 = some r) (R : Option (List V)) (_ : some [(Ow.enc 1 (V.int .i64)) r] = R) (fr : Fr) (H : Hp) (_ : canon 0 [0, 3, 9, 10, 11] fr H = ([(0, (.sl v0z (List.map (Sl.enc (V.int .i64)) v0l))), (3, (.int .i64 v3)), (9, (.sl v9z (List.map (Sl.enc (V.int .i64)) v9l))), (10, (.int .i64 v10)), (11, (.int .i64 v11))], [])), fin ztv (unw T (orc T (M + 7)) (M + 7) 0 [.blk 0, .code ztr] (iter 0 [0, 3, 9, 10, 11] (exec T (orc T (M + 7)) (M + 7) 0 zta) j fr H)) = R
def zbkj (q : Nat) : Prop := ∀ (M : Nat) (hM : 8 * q ≤ M) (j : Nat) (hj : q ≤ j) (v6len : Nat) (v25z : Bool) (v25l : List (Sl Int)) (v26 v27 : Int) (h0z : Bool) (h0l : List Int) (r : (Ow Int)) (_ : zkk q v6len v25z v25l v26 v27 h0z h0l = some r) (R : Option (List V)) (_ : some [(Ow.enc 1 (V.int .i64)) r] = R) (fr : Fr) (H : Hp) (_ : canon 0 [6, 25, 26, 27] fr H = ([(6, (.vw 0 0 0 v6len 0)), (25, (.sl v25z (List.map (Sl.enc (V.int .i64)) v25l))), (26, (.int .i64 v26)), (27, (.int .i64 v27))], [(.row 0 h0z 1 (List.map (V.int .i64) h0l) true)])), fin ztv (unw T (orc T (M + 7)) (M + 7) 0 [.blk 2, .code ztp] (iter 0 [6, 25, 26, 27] (exec T (orc T (M + 7)) (M + 7) 0 ztm) j fr H)) = R
def zbkk (q : Nat) : Prop := ∀ (M : Nat) (hM : 8 * q ≤ M) (j : Nat) (hj : q ≤ j) (v25z : Bool) (v25l : List (Sl Int)) (v26 : Int) (r : (Ow Int)) (_ : zkm q v25z v25l v26 = some r) (R : Option (List V)) (_ : some [(Ow.enc 1 (V.int .i64)) r] = R) (fr : Fr) (H : Hp) (_ : canon 0 [6, 25, 26, 27] fr H = ([(6, (.sl true [])), (25, (.sl v25z (List.map (Sl.enc (V.int .i64)) v25l))), (26, (.int .i64 v26)), (27, (.int .i64 0))], [])), fin ztv (unw T (orc T (M + 7)) (M + 7) 0 [.blk 2, .code ztp] (iter 0 [6, 25, 26, 27] (exec T (orc T (M + 7)) (M + 7) 0 ztm) j fr H)) = R
def zbkl (q : Nat) : Prop := ∀ (M : Nat) (hM : 8 * q ≤ M) (j : Nat) (hj : q ≤ j) (v25z : Bool) (v25l : List (Sl Int)) (v26 v27 : Int) (h0z : Bool) (h0l : List Int) (r : (Ow Int)) (_ : zkl q v25z v25l v26 v27 h0z h0l = some r) (R : Option (List V)) (_ : some [(Ow.enc 1 (V.int .i64)) r] = R) (fr : Fr) (H : Hp) (_ : canon 0 [6, 25, 26, 27] fr H = ([(6, (.vw 0 0 0 h0l.length 1)), (25, (.sl v25z (List.map (Sl.enc (V.int .i64)) v25l))), (26, (.int .i64 v26)), (27, (.int .i64 v27))], [(.row 0 h0z 1 (List.map (V.int .i64) h0l) true)])), fin ztv (unw T (orc T (M + 7)) (M + 7) 0 [.blk 2, .code ztp] (iter 0 [6, 25, 26, 27] (exec T (orc T (M + 7)) (M + 7) 0 ztm) j fr H)) = R
def zbkm := And.intro @kk <| And.intro @ke <| And.intro @kn <| And.intro @zbcc <| And.intro @zbee <| And.intro @zbef <| And.intro @zbeg <| @zbce
theorem zbkn (q : Nat) (zbnr : zbki q) (zbns : zbkj q) (zbnt : zbkk q) : zbki (q + 1) := by
 intro M hM j hj v0z v0l v3 v9z v9l v10 v11 r h R hR fr H hc
 obtain ⟨j, rfl⟩ : ∃ i, j = i + 1 := ⟨j - 1, by omega⟩
 rw [zho, hc]; clear hc
 rw [zkn] at h
 replace h := br h; rcases h with ⟨h1, h⟩ | ⟨h1, h⟩
 ·replace h := bn h; obtain ⟨h2, h⟩ := h
  replace h := ob h; obtain ⟨e1, h3, h⟩ := h
  replace h := bm h; obtain ⟨h4, h⟩ := h
  replace h := zbnr M (by omega) j (by omega) _ _ _ _ _ _ _ _ h R hR
  simp only [zbkm, simprocAttr, *]
 ·replace h := bm h; obtain ⟨h5, h⟩ := h
  replace h := br h; rcases h with ⟨h6, h⟩ | ⟨h6, h⟩
  ·replace h := bn h; obtain ⟨h7, h⟩ := h
   replace h := bn h; obtain ⟨h8, h⟩ := h
   replace h := bm h; obtain ⟨h9, h⟩ := h
   replace h := zbns M (by omega) (M + 7) (by omega) _ _ _ _ _ _ _ _ h R hR
   simp only [zbkm, simprocAttr, *]
  ·replace h := zbnt M (by omega) (M + 7) (by omega) _ _ _ _ h R hR
   simp only [zbkm, simprocAttr, *]
theorem zbko (q : Nat) (zbns : zbkj q) : zbkj (q + 1) := by
 intro M hM j hj v6len v25z v25l v26 v27 h0z h0l r h R hR fr H hc
 obtain ⟨j, rfl⟩ : ∃ i, j = i + 1 := ⟨j - 1, by omega⟩
 rw [zho, hc]; clear hc
 rw [zkk] at h
 replace h := br h; rcases h with ⟨h1, h⟩ | ⟨h1, h⟩
 ·replace h := bn h; obtain ⟨h2, h⟩ := h
  replace h := ob h; obtain ⟨e2, h3, h⟩ := h
  replace h := bn h; obtain ⟨h4, h⟩ := h
  replace h := zbns M (by omega) j (by omega) _ _ _ _ _ _ _ _ h R hR
  simp only [zbkm, simprocAttr, *]
 ·cases h; subst hR; simp only [zbkm, simprocAttr, *]
theorem zbkp (q : Nat) (zbnu : zbkl q) : zbkk (q + 1) := by
 intro M hM j hj v25z v25l v26 r h R hR fr H hc
 obtain ⟨j, rfl⟩ : ∃ i, j = i + 1 := ⟨j - 1, by omega⟩
 rw [zho, hc]; clear hc
 rw [zkm] at h
 replace h := br h; rcases h with ⟨h1, h⟩ | ⟨h1, h⟩
 ·replace h := ob h; obtain ⟨e3, h2, h⟩ := h
  replace h := bn h; obtain ⟨h3, h⟩ := h
  replace h := zbnu M (by omega) j (by omega) _ _ _ _ _ _ _ h R hR
  simp only [zbkm, simprocAttr, *]
 ·cases h; subst hR; simp only [zbkm, simprocAttr, *]
theorem zbkq (q : Nat) (zbnu : zbkl q) : zbkl (q + 1) := by
 intro M hM j hj v25z v25l v26 v27 h0z h0l r h R hR fr H hc
 obtain ⟨j, rfl⟩ : ∃ i, j = i + 1 := ⟨j - 1, by omega⟩
 rw [zho, hc]; clear hc
 rw [zkl] at h
 replace h := br h; rcases h with ⟨h1, h⟩ | ⟨h1, h⟩
 ·replace h := bn h; obtain ⟨h2, h⟩ := h
  replace h := ob h; obtain ⟨e4, h3, h⟩ := h
  replace h := bn h; obtain ⟨h4, h⟩ := h
  replace h := zbnu M (by omega) j (by omega) _ _ _ _ _ _ _ h R hR
  simp only [zbkm, simprocAttr, *]
 ·cases h; subst hR; simp only [zbkm, simprocAttr, *]
theorem zbkr : ∀ q, zbki q ∧ zbkj q ∧ zbkk q ∧ zbkl q
 | 0 => by refine ⟨?_, ?_, ?_, ?_⟩ <;> (intro M hM j hj; intros; rename_i h _ _ _ _ _; cases h)
 | q + 1 => by have ⟨i0, i1, i2, i3⟩ := zbkr q; exact ⟨zbkn q i0 i1 i2, zbko q i1, zbkp q i3, zbkq q i3⟩
theorem zbks : ∀ (q N : Nat), 8 * q ≤ N → ∀ (a0 : (Sl (Sl Int))), ∀ (r : (Ow Int)), zko q a0 = some r → (orc T N).deep F.zko [(Sl.enc (Sl.enc (V.int .i64))) a0] = some [(Ow.enc 1 (V.int .i64)) r] := by
 intro q N hM a0 r h
 rcases q with _ | q
 ·cases h
 obtain ⟨M, rfl⟩ : ∃ M, N = M + 8 := ⟨N - 8, by omega⟩
 have zbnr := (zbkr q).1
 generalize hR : some [(Ow.enc 1 (V.int .i64)) r] = R
 rw [zhy, z85, y6, zhw ztv rfl]
 rw [zko] at h
 replace h := zbnr M (by omega) (M + 7) (by omega) _ _ _ _ _ _ _ _ h R hR
 simp only [zbkm, simprocAttr, *]
def zbkt := And.intro @kk <| And.intro @ke <| And.intro @kn <| And.intro @zbc3 <| @zbc5
theorem zbku : ∀ (q N : Nat), 8 * q ≤ N → ∀ (a0 : (Sl zjq)), ∀ (r : (Ow zjq)), zkp q a0 = some r → (orc T N).deep F.zkp [(Sl.enc zjq.enc) a0] = some [(Ow.enc 3 zjq.enc) r] := by
 intro q N hM a0 r h
 rcases q with _ | q
 ·cases h
 obtain ⟨M, rfl⟩ : ∃ M, N = M + 8 := ⟨N - 8, by omega⟩
 generalize hR : some [(Ow.enc 3 zjq.enc) r] = R
 rw [zhy, z9e, y6, zhw zwv rfl]
 rw [zkp] at h
 replace h := bb h; rcases h with ⟨h1', h1, h⟩ | ⟨h1', h1, h⟩
 ·cases h; subst hR; simp only [zbkt, simprocAttr, *]
 ·replace h := bn h; obtain ⟨h2, h⟩ := h
  cases h; subst hR; simp only [zbkt, simprocAttr, *]
theorem zbkv : ∀ (q N : Nat), 8 * q ≤ N → ∀ (a0 : (Ow zjq)) (a1 : Int) (a2 : (Ow zjq)), ∀ (r : (Ow zjq)), zkq q a0 a1 a2 = some r → (orc T N).deep F.zkq [(Ow.enc 3 zjq.enc) a0, (V.int .i64) a1, (Ow.enc 3 zjq.enc) a2] = some [(Ow.enc 3 zjq.enc) r] := by
 intro q N hM a0 a1 a2 r h
 rcases q with _ | q
 ·cases h
 obtain ⟨M, rfl⟩ : ∃ M, N = M + 8 := ⟨N - 8, by omega⟩
 rw [zhy, z9i, y6, zhv zxa rfl]
 rw [zkq] at h
 by_cases c : insOk a0 a1 a2
 ·rw [if_pos c] at h; cases h; exact zi4 zjq.enc 3 c
 ·rw [if_neg c] at h; cases h
def zbkw (q : Nat) : Prop := ∀ (M : Nat) (hM : 8 * q ≤ M) (j : Nat) (hj : q ≤ j) (w1 : Nat) (v7 v8 h0_0 h0_1 h0_2 h0_3 h0_4 h0_5 h0_6 : Int) (h1z : Bool) (h1l : List zjq) (h1x : Bool) (r : Int) (_ : zkr q v7 v8 h0_0 h0_1 h0_2 h0_3 h0_4 h0_5 h0_6 h1z h1l h1x = some r) (R : Option (List V × Hp)) (_ : (some ([(.int .i64 r)], [(.box [(.int .i64 h0_0), (.int .i64 h0_1), (.int .i64 h0_2), (.int .i64 h0_3), (.int .i64 h0_4), (.int .i64 h0_5), (.int .i64 h0_6)]), (.row w1 h1z 3 (List.map zjq.enc h1l) h1x)]) : Option (List V × Hp)) = R) (fr : Fr) (H : Hp) (_ : canon 2 [0, 1, 7, 8] fr H = ([(0, (.vw 1 w1 0 h1l.length 1)), (1, (.fn F.znw [(.ptr 0 0)])), (7, (.int .i64 v7)), (8, (.int .i64 v8))], [(.box [(.int .i64 h0_0), (.int .i64 h0_1), (.int .i64 h0_2), (.int .i64 h0_3), (.int .i64 h0_4), (.int .i64 h0_5), (.int .i64 h0_6)]), (.row w1 h1z 3 (List.map zjq.enc h1l) h1x)])), finI 2 false [.tmp 4] (unw T (orc T (M + 5)) (M + 5) 2 [.blk 0, .code zw4] (iter 2 [0, 1, 7, 8] (exec T (orc T (M + 5)) (M + 5) 2 zw1) j fr H)) = R
def zbkx := And.intro @kk <| And.intro @ke <| And.intro @kn <| And.intro @zbc6 <| And.intro @zbc9 <| And.intro @zbc7 <| @zbc8
theorem zbky (q : Nat) (zbnv : zbkw q) : zbkw (q + 1) := by
 intro M hM j hj w1 v7 v8 h0_0 h0_1 h0_2 h0_3 h0_4 h0_5 h0_6 h1z h1l h1x r h R hR fr H hc
 obtain ⟨j, rfl⟩ : ∃ i, j = i + 1 := ⟨j - 1, by omega⟩
 rw [zho, hc]; clear hc
 rw [zkr] at h
 replace h := br h; rcases h with ⟨h1, h⟩ | ⟨h1, h⟩
 ·replace h := bn h; obtain ⟨h2, h⟩ := h
  replace h := bn h; obtain ⟨h3, h⟩ := h
  replace h := ob h; obtain ⟨e1, h4, h⟩ := h
  replace h := br h; rcases h with ⟨h5, h⟩ | ⟨h5, h⟩
  ·cases h; subst hR; simp only [zbkx, simprocAttr, *]
  ·replace h := zbnv M (by omega) j (by omega) w1 _ _ _ _ _ _ _ _ _ _ _ _ _ h R hR
   simp only [zbkx, simprocAttr, *]
 ·cases h; subst hR; simp only [zbkx, simprocAttr, *]
theorem zbkz : ∀ q, zbkw q
 | 0 => by intro M hM j hj; intros; rename_i h _ _ _ _ _; cases h
 | q + 1 => by have i0 := zbkz q; exact zbky q i0
theorem zbk0 : ∀ (q M : Nat), 8 * q ≤ M → ∀ (w1 : Nat), ∀ (h0_0 h0_1 h0_2 h0_3 h0_4 h0_5 h0_6 : Int), ∀ (h1z : Bool), ∀ (h1l : List zjq), ∀ (h1x : Bool), ∀ (r : Int), zks q h0_0 h0_1 h0_2 h0_3 h0_4 h0_5 h0_6 h1z h1l h1x = some r → (orc T (M + 6)).inl F.znx [(.vw 1 w1 0 h1l.length 1), (.fn F.znw [(.ptr 0 0)])] [(.box [(.int .i64 h0_0), (.int .i64 h0_1), (.int .i64 h0_2), (.int .i64 h0_3), (.int .i64 h0_4), (.int .i64 h0_5), (.int .i64 h0_6)]), (.row w1 h1z 3 (List.map zjq.enc h1l) h1x)] = (some ([(.int .i64 r)], [(.box [(.int .i64 h0_0), (.int .i64 h0_1), (.int .i64 h0_2), (.int .i64 h0_3), (.int .i64 h0_4), (.int .i64 h0_5), (.int .i64 h0_6)]), (.row w1 h1z 3 (List.map zjq.enc h1l) h1x)]) : Option (List V × Hp)) := by
 intro q M hM w1 h0_0 h0_1 h0_2 h0_3 h0_4 h0_5 h0_6 h1z h1l h1x r h
 rcases q with _ | q
 ·cases h
 have zbnv := (zbkz q)
 generalize hR : (some ([(.int .i64 r)], [(.box [(.int .i64 h0_0), (.int .i64 h0_1), (.int .i64 h0_2), (.int .i64 h0_3), (.int .i64 h0_4), (.int .i64 h0_5), (.int .i64 h0_6)]), (.row w1 h1z 3 (List.map zjq.enc h1l) h1x)]) : Option (List V × Hp)) = R
 rw [zbdb (n := M + 5)]
 rw [zks] at h
 replace h := zbnv M (by omega) (M + 5) (by omega) w1 _ _ _ _ _ _ _ _ _ _ _ _ _ h R hR
 simp only [zbkx, simprocAttr, *]
def zbk1 (q : Nat) : Prop := ∀ (M : Nat) (hM : 8 * q ≤ M) (j : Nat) (hj : q ≤ j) (w1 : Nat) (v5 v6 h0_0 h0_1 h0_2 h0_3 h0_4 h0_5 h0_6 : Int) (h1z : Bool) (h1l : List zjq) (h1x : Bool) (r : Nat × (List zjq) × Bool) (_ : zkt q v5 v6 h0_0 h0_1 h0_2 h0_3 h0_4 h0_5 h0_6 h1z h1l h1x = some r) (R : Option (List V × Hp)) (_ : (some ([(.vw 1 w1 0 r.1 0)], [(.box [(.int .i64 h0_0), (.int .i64 h0_1), (.int .i64 h0_2), (.int .i64 h0_3), (.int .i64 h0_4), (.int .i64 h0_5), (.int .i64 h0_6)]), (.row w1 h1z 3 (List.map zjq.enc r.2.1) r.2.2)]) : Option (List V × Hp)) = R) (fr : Fr) (H : Hp) (_ : canon 2 [0, 1, 5, 6] fr H = ([(0, (.vw 1 w1 0 h1l.length 1)), (1, (.fn F.znw [(.ptr 0 0)])), (5, (.int .i64 v5)), (6, (.int .i64 v6))], [(.box [(.int .i64 h0_0), (.int .i64 h0_1), (.int .i64 h0_2), (.int .i64 h0_3), (.int .i64 h0_4), (.int .i64 h0_5), (.int .i64 h0_6)]), (.row w1 h1z 3 (List.map zjq.enc h1l) h1x)])), finI 2 true [.tmp 4] (unw T (orc T (M + 6)) (M + 6) 2 [.blk 0, .code zwo] (iter 2 [0, 1, 5, 6] (exec T (orc T (M + 6)) (M + 6) 2 zwj) j fr H)) = R
def zbk2 := And.intro @kk <| And.intro @ke <| And.intro @kn <| And.intro @zbc0 <| And.intro @zbc6 <| And.intro @zbda <| And.intro @zbc7 <| @zbc8
theorem zbk3 (q : Nat) (zbnw : zbk1 q) : zbk1 (q + 1) := by
 intro M hM j hj w1 v5 v6 h0_0 h0_1 h0_2 h0_3 h0_4 h0_5 h0_6 h1z h1l h1x r h R hR fr H hc
 obtain ⟨j, rfl⟩ : ∃ i, j = i + 1 := ⟨j - 1, by omega⟩
 rw [zho, hc]; clear hc
 rw [zkt] at h
 replace h := br h; rcases h with ⟨h1, h⟩ | ⟨h1, h⟩
 ·replace h := bn h; obtain ⟨h2, h⟩ := h
  replace h := bn h; obtain ⟨h3, h⟩ := h
  replace h := ob h; obtain ⟨e2, h4, h⟩ := h
  replace h := br h; rcases h with ⟨h5, h⟩ | ⟨h5, h⟩
  ·replace h := zbnw M (by omega) j (by omega) w1 _ _ _ _ _ _ _ _ _ _ _ _ _ h R hR
   simp only [zbk2, simprocAttr, *]
  ·replace h := bn h; obtain ⟨h6, h⟩ := h
   replace h := bn h; obtain ⟨h7, h⟩ := h
   replace h := ob h; obtain ⟨e3, h8, h⟩ := h
   replace h := bb h; rcases h with ⟨h9', h9, h⟩ | ⟨h9', h9, h⟩
   ·replace h := zbnw M (by omega) j (by omega) w1 _ _ _ _ _ _ _ _ _ _ _ _ _ h R hR
    simp only [zbk2, simprocAttr, *]
   ·cases h
 ·replace h := bn h; obtain ⟨h10, h⟩ := h
  replace h := bn h; obtain ⟨h11, h⟩ := h
  replace h := bb h; rcases h with ⟨h12', h12, h⟩ | ⟨h12', h12, h⟩
  ·replace h := bn h; obtain ⟨h13, h⟩ := h
   replace h := bb h; rcases h with ⟨h14', h14, h⟩ | ⟨h14', h14, h⟩
   ·cases h; subst hR; simp only [zbk2, simprocAttr, *]
   ·cases h; subst hR; simp only [zbk2, simprocAttr, *]
  ·cases h
theorem zbk4 : ∀ q, zbk1 q
 | 0 => by intro M hM j hj; intros; rename_i h _ _ _ _ _; cases h
 | q + 1 => by have i0 := zbk4 q; exact zbk3 q i0
theorem zbk5 : ∀ (q M : Nat), 8 * q ≤ M → ∀ (w1 : Nat), ∀ (h0_0 h0_1 h0_2 h0_3 h0_4 h0_5 h0_6 : Int), ∀ (h1z : Bool), ∀ (h1l : List zjq), ∀ (h1x : Bool), ∀ (r : Nat × (List zjq) × Bool), zku q h0_0 h0_1 h0_2 h0_3 h0_4 h0_5 h0_6 h1z h1l h1x = some r → (orc T (M + 7)).inl F.znv [(.vw 1 w1 0 h1l.length 1), (.fn F.znw [(.ptr 0 0)])] [(.box [(.int .i64 h0_0), (.int .i64 h0_1), (.int .i64 h0_2), (.int .i64 h0_3), (.int .i64 h0_4), (.int .i64 h0_5), (.int .i64 h0_6)]), (.row w1 h1z 3 (List.map zjq.enc h1l) h1x)] = (some ([(.vw 1 w1 0 r.1 0)], [(.box [(.int .i64 h0_0), (.int .i64 h0_1), (.int .i64 h0_2), (.int .i64 h0_3), (.int .i64 h0_4), (.int .i64 h0_5), (.int .i64 h0_6)]), (.row w1 h1z 3 (List.map zjq.enc r.2.1) r.2.2)]) : Option (List V × Hp)) := by
 intro q M hM w1 h0_0 h0_1 h0_2 h0_3 h0_4 h0_5 h0_6 h1z h1l h1x r h
 rcases q with _ | q
 ·cases h
 have zbnw := (zbk4 q)
 generalize hR : (some ([(.vw 1 w1 0 r.1 0)], [(.box [(.int .i64 h0_0), (.int .i64 h0_1), (.int .i64 h0_2), (.int .i64 h0_3), (.int .i64 h0_4), (.int .i64 h0_5), (.int .i64 h0_6)]), (.row w1 h1z 3 (List.map zjq.enc r.2.1) r.2.2)]) : Option (List V × Hp)) = R
 rw [zbc2 (n := M + 6)]
 rw [zku] at h
 replace h := ob h; obtain ⟨r1, h1, h⟩ := h
 replace h1 := zbk0 q M (by omega) w1 _ _ _ _ _ _ _ _ _ _ _ h1
 try simp only [kf, simprocAttr] at h1
 replace h := br h; rcases h with ⟨h2, h⟩ | ⟨h2, h⟩
 ·cases h; subst hR; simp only [zbk2, simprocAttr, *]
 ·replace h := zbnw M (by omega) (M + 6) (by omega) w1 _ _ _ _ _ _ _ _ _ _ _ _ _ h R hR
  simp only [zbk2, simprocAttr, *]
def zbk6 (q : Nat) : Prop := ∀ (M : Nat) (hM : 8 * q ≤ M) (j : Nat) (hj : q ≤ j) (w1 v0len : Nat) (v7 v8 h0_0 h0_1 h0_2 h0_3 h0_4 h0_5 h0_6 : Int) (h1z : Bool) (h1l : List zjq) (h1x : Bool) (r : Int) (_ : zkv q v0len v7 v8 h0_0 h0_1 h0_2 h0_3 h0_4 h0_5 h0_6 h1z h1l h1x = some r) (R : Option (List V × Hp)) (_ : (some ([(.int .i64 r)], [(.box [(.int .i64 h0_0), (.int .i64 h0_1), (.int .i64 h0_2), (.int .i64 h0_3), (.int .i64 h0_4), (.int .i64 h0_5), (.int .i64 h0_6)]), (.row w1 h1z 3 (List.map zjq.enc h1l) h1x)]) : Option (List V × Hp)) = R) (fr : Fr) (H : Hp) (_ : canon 2 [0, 1, 7, 8] fr H = ([(0, (.vw 1 w1 0 v0len 0)), (1, (.fn F.zny [(.ptr 0 0)])), (7, (.int .i64 v7)), (8, (.int .i64 v8))], [(.box [(.int .i64 h0_0), (.int .i64 h0_1), (.int .i64 h0_2), (.int .i64 h0_3), (.int .i64 h0_4), (.int .i64 h0_5), (.int .i64 h0_6)]), (.row w1 h1z 3 (List.map zjq.enc h1l) h1x)])), finI 2 false [.tmp 4] (unw T (orc T (M + 6)) (M + 6) 2 [.blk 0, .code zw4] (iter 2 [0, 1, 7, 8] (exec T (orc T (M + 6)) (M + 6) 2 zw1) j fr H)) = R
def zbk7 := And.intro @kk <| And.intro @ke <| And.intro @kn <| And.intro @zbc9 <| And.intro @zbdc <| And.intro @zbdd <| @zbde
theorem zbk8 (q : Nat) (zbnx : zbk6 q) : zbk6 (q + 1) := by
 intro M hM j hj w1 v0len v7 v8 h0_0 h0_1 h0_2 h0_3 h0_4 h0_5 h0_6 h1z h1l h1x r h R hR fr H hc
 obtain ⟨j, rfl⟩ : ∃ i, j = i + 1 := ⟨j - 1, by omega⟩
 rw [zho, hc]; clear hc
 rw [zkv] at h
 replace h := br h; rcases h with ⟨h1, h⟩ | ⟨h1, h⟩
 ·replace h := bn h; obtain ⟨h2, h⟩ := h
  replace h := bn h; obtain ⟨h3, h⟩ := h
  replace h := ob h; obtain ⟨e1, h4, h⟩ := h
  replace h := br h; rcases h with ⟨h5, h⟩ | ⟨h5, h⟩
  ·cases h; subst hR; simp only [zbk7, simprocAttr, *]
  ·replace h := zbnx M (by omega) j (by omega) w1 _ _ _ _ _ _ _ _ _ _ _ _ _ _ h R hR
   simp only [zbk7, simprocAttr, *]
 ·cases h; subst hR; simp only [zbk7, simprocAttr, *]
theorem zbk9 : ∀ q, zbk6 q
 | 0 => by intro M hM j hj; intros; rename_i h _ _ _ _ _; cases h
 | q + 1 => by have i0 := zbk9 q; exact zbk8 q i0
theorem zbla : ∀ (q M : Nat), 8 * q ≤ M → ∀ (w1 v0len : Nat), ∀ (h0_0 h0_1 h0_2 h0_3 h0_4 h0_5 h0_6 : Int), ∀ (h1z : Bool), ∀ (h1l : List zjq), ∀ (h1x : Bool), ∀ (r : Int), zkw q v0len h0_0 h0_1 h0_2 h0_3 h0_4 h0_5 h0_6 h1z h1l h1x = some r → (orc T (M + 7)).inl F.znx [(.vw 1 w1 0 v0len 0), (.fn F.zny [(.ptr 0 0)])] [(.box [(.int .i64 h0_0), (.int .i64 h0_1), (.int .i64 h0_2), (.int .i64 h0_3), (.int .i64 h0_4), (.int .i64 h0_5), (.int .i64 h0_6)]), (.row w1 h1z 3 (List.map zjq.enc h1l) h1x)] = (some ([(.int .i64 r)], [(.box [(.int .i64 h0_0), (.int .i64 h0_1), (.int .i64 h0_2), (.int .i64 h0_3), (.int .i64 h0_4), (.int .i64 h0_5), (.int .i64 h0_6)]), (.row w1 h1z 3 (List.map zjq.enc h1l) h1x)]) : Option (List V × Hp)) := by
 intro q M hM w1 v0len h0_0 h0_1 h0_2 h0_3 h0_4 h0_5 h0_6 h1z h1l h1x r h
 rcases q with _ | q
 ·cases h
 have zbnx := (zbk9 q)
 generalize hR : (some ([(.int .i64 r)], [(.box [(.int .i64 h0_0), (.int .i64 h0_1), (.int .i64 h0_2), (.int .i64 h0_3), (.int .i64 h0_4), (.int .i64 h0_5), (.int .i64 h0_6)]), (.row w1 h1z 3 (List.map zjq.enc h1l) h1x)]) : Option (List V × Hp)) = R
 rw [zbdb (n := M + 6)]
 rw [zkw] at h
 replace h := zbnx M (by omega) (M + 6) (by omega) w1 _ _ _ _ _ _ _ _ _ _ _ _ _ _ h R hR
 simp only [zbk7, simprocAttr, *]
def zblb := And.intro @kk <| And.intro @ke <| And.intro @kn <| And.intro @zbbc <| And.intro @zbc1 <| And.intro @zbc4 <| And.intro @zbda <| And.intro @zbdf <| @zbbe
theorem zblc : ∀ (q N : Nat), 8 * q ≤ N → ∀ (a0 : (Sl zjq)) (a1 : zju), ∀ (r : (Ow zjq)), zkx q a0 a1 = some r → (orc T N).deep F.zkx [(Sl.enc zjq.enc) a0, zju.enc a1] = some [(Ow.enc 3 zjq.enc) r] := by
 intro q N hM a0 a1 r h
 rcases q with _ | q
 ·cases h
 obtain ⟨M, rfl⟩ : ∃ M, N = M + 8 := ⟨N - 8, by omega⟩
 generalize hR : some [(Ow.enc 3 zjq.enc) r] = R
 rw [zhy, z8t, y6, zhw zrn rfl]
 rw [zkx] at h
 replace h := ob h; obtain ⟨r1, h1, h⟩ := h
 replace h1 := zbku q (M + 7) (by omega) _ _ h1
 try simp only [kf, simprocAttr] at h1
 replace h := ob h; obtain ⟨r2, h2, h⟩ := h
 replace h2 := zbk5 q M (by omega) 0 _ _ _ _ _ _ _ _ _ _ _ h2
 try simp only [kf, simprocAttr] at h2
 replace h := ob h; obtain ⟨r3, h3, h⟩ := h
 replace h3 := zbla q M (by omega) 0 _ _ _ _ _ _ _ _ _ _ _ _ h3
 try simp only [kf, simprocAttr] at h3
 replace h := br h; rcases h with ⟨h4, h⟩ | ⟨h4, h⟩
 ·replace h := bb h; rcases h with ⟨h5', h5, h⟩ | ⟨h5', h5, h⟩
  ·replace h := ob h; obtain ⟨r4, h6, h⟩ := h
   replace h6 := zbkv q (M + 7) (by omega) _ _ _ _ h6
   try simp only [kf, simprocAttr] at h6
   cases h; subst hR; simp only [zblb, simprocAttr, *]
  ·cases h
 ·replace h := bb h; rcases h with ⟨h7', h7, h⟩ | ⟨h7', h7, h⟩
  ·replace h := ob h; obtain ⟨r5, h8, h⟩ := h
   replace h8 := zbkv q (M + 7) (by omega) _ _ _ _ h8
   try simp only [kf, simprocAttr] at h8
   cases h; subst hR; simp only [zblb, simprocAttr, *]
  ·cases h
def zbld (q : Nat) : Prop := ∀ (M : Nat) (hM : 8 * q ≤ M) (j : Nat) (hj : q ≤ j) (v89z : Bool) (v89l : List zjq) (v90 h1_0 h1_1 : Int) (h1_3 : Bool) (h1_4 : Int) (h1_5z : Bool) (h1_5l : List zjq) (h2z : Bool) (h2l : List Int) (h2x : Bool) (r : zjr × Int) (_ : zkz q v89z v89l v90 h1_0 h1_1 h1_3 h1_4 h1_5z h1_5l h2z h2l h2x = some r) (R : Option (List V)) (_ : some [zjr.enc r.1, (V.int .i64) r.2] = R) (fr : Fr) (H : Hp) (_ : canon 0 [4, 7, 89, 90, 91] fr H = ([(4, (.ptr 0 0)), (7, (.ptr 1 0)), (89, (.sl v89z (List.map zjq.enc v89l))), (90, (.int .i64 v90)), (91, (.int .i64 0))], [(.box [(.int .i64 0), (.int .i64 0), (.sl true []), (.bool false), (.int .i64 0), (.sl true [])]), (.box [(.int .i64 h1_0), (.int .i64 h1_1), (.vw 2 0 0 h2l.length 1), (.bool h1_3), (.int .i64 h1_4), (.sl h1_5z (List.map zjq.enc h1_5l))]), (.row 0 h2z 1 (List.map (V.int .i64) h2l) h2x)])), fin zp5 (unw T (orc T (M + 7)) (M + 7) 0 [.blk 1, .code zpy] (iter 0 [4, 7, 89, 90, 91] (exec T (orc T (M + 7)) (M + 7) 0 zpr) j fr H)) = R
def zble (q : Nat) : Prop := ∀ (M : Nat) (hM : 8 * q ≤ M) (j : Nat) (hj : q ≤ j) (v89z : Bool) (v89l : List zjq) (v90 v91 h1_0 h1_1 : Int) (h1_3 : Bool) (h1_4 : Int) (h2z : Bool) (h2l : List Int) (h2x h3z : Bool) (h3l : List zjq) (h3x : Bool) (r : zjr × Int) (_ : zky q v89z v89l v90 v91 h1_0 h1_1 h1_3 h1_4 h2z h2l h2x h3z h3l h3x = some r) (R : Option (List V)) (_ : some [zjr.enc r.1, (V.int .i64) r.2] = R) (fr : Fr) (H : Hp) (_ : canon 0 [4, 7, 89, 90, 91] fr H = ([(4, (.ptr 0 0)), (7, (.ptr 1 0)), (89, (.sl v89z (List.map zjq.enc v89l))), (90, (.int .i64 v90)), (91, (.int .i64 v91))], [(.box [(.int .i64 0), (.int .i64 0), (.sl true []), (.bool false), (.int .i64 0), (.sl true [])]), (.box [(.int .i64 h1_0), (.int .i64 h1_1), (.vw 2 0 0 h2l.length 1), (.bool h1_3), (.int .i64 h1_4), (.vw 3 0 0 h3l.length 1)]), (.row 0 h2z 1 (List.map (V.int .i64) h2l) h2x), (.row 0 h3z 3 (List.map zjq.enc h3l) h3x)])), fin zp5 (unw T (orc T (M + 7)) (M + 7) 0 [.blk 1, .code zpy] (iter 0 [4, 7, 89, 90, 91] (exec T (orc T (M + 7)) (M + 7) 0 zpr) j fr H)) = R
def zblf := And.intro @kk <| And.intro @ke <| And.intro @kn <| And.intro @zba0 <| And.intro @zbay <| And.intro @zbbd <| And.intro @zbcd <| @zba2
theorem zblg (q : Nat) (zbny : zble q) : zbld (q + 1) := by
 intro M hM j hj v89z v89l v90 h1_0 h1_1 h1_3 h1_4 h1_5z h1_5l h2z h2l h2x r h R hR fr H hc
 obtain ⟨j, rfl⟩ : ∃ i, j = i + 1 := ⟨j - 1, by omega⟩
 rw [zho, hc]; clear hc
 rw [zkz] at h
 replace h := br h; rcases h with ⟨h1, h⟩ | ⟨h1, h⟩
 ·replace h := ob h; obtain ⟨e3, h2, h⟩ := h
  replace h := ob h; obtain ⟨r4, h3, h⟩ := h
  replace h3 := zblc q (M + 7) (by omega) _ _ _ h3
  try simp only [kf, simprocAttr] at h3
  replace h := zbny M (by omega) j (by omega) _ _ _ _ _ _ _ _ _ _ _ _ _ _ _ h R hR
  simp only [zblf, simprocAttr, *]
 ·replace h := ob h; obtain ⟨r5, h4, h⟩ := h
  replace h4 := zbjm q (M + 7) (by omega) _ _ h4
  try simp only [kf, simprocAttr] at h4
  replace h := bb h; rcases h with ⟨h5', h5, h⟩ | ⟨h5', h5, h⟩
  ·cases h; subst hR; simp only [zblf, simprocAttr, *]
  ·cases h; subst hR; simp only [zblf, simprocAttr, *]
theorem zblh (q : Nat) (zbny : zble q) : zble (q + 1) := by
 intro M hM j hj v89z v89l v90 v91 h1_0 h1_1 h1_3 h1_4 h2z h2l h2x h3z h3l h3x r h R hR fr H hc
 obtain ⟨j, rfl⟩ : ∃ i, j = i + 1 := ⟨j - 1, by omega⟩
 rw [zho, hc]; clear hc
 rw [zky] at h
 replace h := br h; rcases h with ⟨h1, h⟩ | ⟨h1, h⟩
 ·replace h := bn h; obtain ⟨h2, h⟩ := h
  replace h := ob h; obtain ⟨e6, h3, h⟩ := h
  replace h := ob h; obtain ⟨r7, h4, h⟩ := h
  replace h4 := zblc q (M + 7) (by omega) _ _ _ h4
  try simp only [kf, simprocAttr] at h4
  replace h := zbny M (by omega) j (by omega) _ _ _ _ _ _ _ _ _ _ _ _ _ _ _ h R hR
  simp only [zblf, simprocAttr, *]
 ·replace h := ob h; obtain ⟨r8, h5, h⟩ := h
  replace h5 := zbjm q (M + 7) (by omega) _ _ h5
  try simp only [kf, simprocAttr] at h5
  replace h := bb h; rcases h with ⟨h6', h6, h⟩ | ⟨h6', h6, h⟩
  ·cases h; subst hR; simp only [zblf, simprocAttr, *]
  ·cases h; subst hR; simp only [zblf, simprocAttr, *]
theorem zbli : ∀ q, zbld q ∧ zble q
 | 0 => by refine ⟨?_, ?_⟩ <;> (intro M hM j hj; intros; rename_i h _ _ _ _ _; cases h)
 | q + 1 => by have ⟨i0, i1⟩ := zbli q; exact ⟨zblg q i1, zblh q i1⟩
theorem zblj : ∀ (q N : Nat), 8 * q ≤ N → ∀ (a0 : zjr) (a1 : zjs), ∀ (r : zjr × Int), zk0 q a0 a1 = some r → (orc T N).deep F.zk0 [zjr.enc a0, zjs.enc a1] = some [zjr.enc r.1, (V.int .i64) r.2] := by
 intro q N hM a0 a1 r h
 rcases q with _ | q
 ·cases h
 obtain ⟨M, rfl⟩ : ∃ M, N = M + 8 := ⟨N - 8, by omega⟩
 have ih_delta_Apply_l0 := (zbli q).1
 generalize hR : some [zjr.enc r.1, (V.int .i64) r.2] = R
 rw [zhy, z8p, y6, zhw zp5 rfl]
 rw [zk0] at h
 replace h := ob h; obtain ⟨r1, h1, h⟩ := h
 replace h1 := zbjm q (M + 7) (by omega) _ _ h1
 try simp only [kf, simprocAttr] at h1
 replace h := bb h; rcases h with ⟨h2', h2, h⟩ | ⟨h2', h2, h⟩
 ·replace h := br h; rcases h with ⟨h3, h⟩ | ⟨h3, h⟩
  ·cases h; subst hR; simp only [zblf, simprocAttr, *]
  ·replace h := br h; rcases h with ⟨h4, h⟩ | ⟨h4, h⟩
   ·cases h; subst hR; simp only [zblf, simprocAttr, *]
   ·replace h := br h; rcases h with ⟨h5, h⟩ | ⟨h5, h⟩
    ·cases h; subst hR; simp only [zblf, simprocAttr, *]
    ·replace h := br h; rcases h with ⟨h6, h⟩ | ⟨h6, h⟩
     ·cases h; subst hR; simp only [zblf, simprocAttr, *]
     ·replace h := br h; rcases h with ⟨h7, h⟩ | ⟨h7, h⟩
      ·replace h := br h; rcases h with ⟨h8, h⟩ | ⟨h8, h⟩
       ·cases h; subst hR; simp only [zblf, simprocAttr, *]
       ·replace h := bn h; obtain ⟨h9, h⟩ := h
        replace h := bn h; obtain ⟨h10, h⟩ := h
        replace h := bn h; obtain ⟨h11, h⟩ := h
        replace h := bn h; obtain ⟨h12, h⟩ := h
        replace h := ob h; obtain ⟨r2, h13, h⟩ := h
        replace h13 := zbks q (M + 7) (by omega) _ _ h13
        try simp only [kf, simprocAttr] at h13
        replace h := ih_delta_Apply_l0 M (by omega) (M + 7) (by omega) _ _ _ _ _ _ _ _ _ _ _ _ _ h R hR
        simp only [zblf, simprocAttr, *]
      ·cases h; subst hR; simp only [zblf, simprocAttr, *]
 ·cases h; subst hR; simp only [zblf, simprocAttr, *]
def zblk (q : Nat) : Prop := ∀ (M : Nat) (hM : 8 * q ≤ M) (j : Nat) (hj : q ≤ j) (v0z : Bool) (v0l : List Int) (v1z : Bool) (v1l : List Int) (v12 v13 : Int) (r : Bool) (_ : zk1 q v0z v0l v1z v1l v12 v13 = some r) (R : Option (List V)) (_ : some [V.bool r] = R) (fr : Fr) (H : Hp) (_ : canon 0 [0, 1, 12, 13] fr H = ([(0, (.sl v0z (List.map (V.int .i64) v0l))), (1, (.sl v1z (List.map (V.int .i64) v1l))), (12, (.int .i64 v12)), (13, (.int .i64 v13))], [])), fin zxo (unw T (orc T (M + 7)) (M + 7) 0 [.blk 0, .code zxk] (iter 0 [0, 1, 12, 13] (exec T (orc T (M + 7)) (M + 7) 0 zxh) j fr H)) = R
def zbll := And.intro @kk <| And.intro @ke <| And.intro @kn <| And.intro @zbdh <| @zbdj
theorem zblm (q : Nat) (zbnz : zblk q) : zblk (q + 1) := by
 intro M hM j hj v0z v0l v1z v1l v12 v13 r h R hR fr H hc
 obtain ⟨j, rfl⟩ : ∃ i, j = i + 1 := ⟨j - 1, by omega⟩
 rw [zho, hc]; clear hc
 rw [zk1] at h
 replace h := br h; rcases h with ⟨h1, h⟩ | ⟨h1, h⟩
 ·replace h := bn h; obtain ⟨h2, h⟩ := h
  replace h := ob h; obtain ⟨e1, h3, h⟩ := h
  replace h := ob h; obtain ⟨e2, h4, h⟩ := h
  replace h := br h; rcases h with ⟨h5, h⟩ | ⟨h5, h⟩
  ·replace h := zbnz M (by omega) j (by omega) _ _ _ _ _ _ _ h R hR
   simp only [zbll, simprocAttr, *]
  ·cases h; subst hR; simp only [zbll, simprocAttr, *]
 ·cases h; subst hR; simp only [zbll, simprocAttr, *]
theorem zbln : ∀ q, zblk q
 | 0 => by intro M hM j hj; intros; rename_i h _ _ _ _ _; cases h
 | q + 1 => by have i0 := zbln q; exact zblm q i0
theorem zblo : ∀ (q N : Nat), 8 * q ≤ N → ∀ (a0 a1 : (Sl Int)), ∀ (r : Bool), zk2 q a0 a1 = some r → (orc T N).deep F.zk2 [(Sl.enc (V.int .i64)) a0, (Sl.enc (V.int .i64)) a1] = some [V.bool r] := by
 intro q N hM a0 a1 r h
 rcases q with _ | q
 ·cases h
 obtain ⟨M, rfl⟩ : ∃ M, N = M + 8 := ⟨N - 8, by omega⟩
 have zbnz := (zbln q)
 generalize hR : some [V.bool r] = R
 rw [zhy, z9j, y6, zhw zxo rfl]
 rw [zk2] at h
 replace h := br h; rcases h with ⟨h1, h⟩ | ⟨h1, h⟩
 ·replace h := zbnz M (by omega) (M + 7) (by omega) _ _ _ _ _ _ _ h R hR
  simp only [zbll, simprocAttr, *]
 ·cases h; subst hR; simp only [zbll, simprocAttr, *]
def zblp := And.intro @kk <| And.intro @ke <| And.intro @kn <| And.intro @zbbi <| And.intro @zbdi <| @zbbk
theorem zblq : ∀ (q N : Nat), 8 * q ≤ N → ∀ (a0 a1 : zjp), ∀ (r : Bool), zk3 q a0 a1 = some r → (orc T N).deep F.zk3 [zjp.enc a0, zjp.enc a1] = some [V.bool r] := by
 intro q N hM a0 a1 r h
 rcases q with _ | q
 ·cases h
 obtain ⟨M, rfl⟩ : ∃ M, N = M + 8 := ⟨N - 8, by omega⟩
 generalize hR : some [V.bool r] = R
 rw [zhy, z8v, y6, zhw zrr rfl]
 rw [zk3] at h
 replace h := br h; rcases h with ⟨h1, h⟩ | ⟨h1, h⟩
 ·replace h := bb h; rcases h with ⟨h2', h2, h⟩ | ⟨h2', h2, h⟩
  ·replace h := br h; rcases h with ⟨h3, h⟩ | ⟨h3, h⟩
   ·replace h := ob h; obtain ⟨r1, h4, h⟩ := h
    replace h4 := zblo q (M + 7) (by omega) _ _ _ h4
    try simp only [kf, simprocAttr] at h4
    cases h; subst hR; simp only [zblp, simprocAttr, *]
   ·cases h; subst hR; simp only [zblp, simprocAttr, *]
  ·cases h; subst hR; simp only [zblp, simprocAttr, *]
 ·cases h; subst hR; simp only [zblp, simprocAttr, *]
def zblr (q : Nat) : Prop := ∀ (M : Nat) (hM : 8 * q ≤ M) (j : Nat) (hj : q ≤ j) (v0z : Bool) (v0l : List zjq) (v1z : Bool) (v1l : List zjq) (v12 v13 : Int) (r : Bool) (_ : zk4 q v0z v0l v1z v1l v12 v13 = some r) (R : Option (List V)) (_ : some [V.bool r] = R) (fr : Fr) (H : Hp) (_ : canon 0 [0, 1, 12, 13] fr H = ([(0, (.sl v0z (List.map zjq.enc v0l))), (1, (.sl v1z (List.map zjq.enc v1l))), (12, (.int .i64 v12)), (13, (.int .i64 v13))], [])), fin zt9 (unw T (orc T (M + 7)) (M + 7) 0 [.blk 0, .code zt5] (iter 0 [0, 1, 12, 13] (exec T (orc T (M + 7)) (M + 7) 0 zt2) j fr H)) = R
def zbls := And.intro @kk <| And.intro @ke <| And.intro @kn <| And.intro @zbcf <| @zbch
theorem zblt (q : Nat) (zbn0 : zblr q) : zblr (q + 1) := by
 intro M hM j hj v0z v0l v1z v1l v12 v13 r h R hR fr H hc
 obtain ⟨j, rfl⟩ : ∃ i, j = i + 1 := ⟨j - 1, by omega⟩
 rw [zho, hc]; clear hc
 rw [zk4] at h
 replace h := br h; rcases h with ⟨h1, h⟩ | ⟨h1, h⟩
 ·replace h := bn h; obtain ⟨h2, h⟩ := h
  replace h := ob h; obtain ⟨e1, h3, h⟩ := h
  replace h := ob h; obtain ⟨e2, h4, h⟩ := h
  replace h := br h; rcases h with ⟨h5, h⟩ | ⟨h5, h⟩
  ·replace h := br h; rcases h with ⟨h6, h⟩ | ⟨h6, h⟩
   ·replace h := br h; rcases h with ⟨h7, h⟩ | ⟨h7, h⟩
    ·replace h := zbn0 M (by omega) j (by omega) _ _ _ _ _ _ _ h R hR
     simp only [zbls, simprocAttr, *]
    ·cases h; subst hR; simp only [zbls, simprocAttr, *]
   ·cases h; subst hR; simp only [zbls, simprocAttr, *]
  ·cases h; subst hR; simp only [zbls, simprocAttr, *]
 ·cases h; subst hR; simp only [zbls, simprocAttr, *]
theorem zblu : ∀ q, zblr q
 | 0 => by intro M hM j hj; intros; rename_i h _ _ _ _ _; cases h
 | q + 1 => by have i0 := zblu q; exact zblt q i0
theorem zblv : ∀ (q N : Nat), 8 * q ≤ N → ∀ (a0 a1 : (Sl zjq)), ∀ (r : Bool), zk5 q a0 a1 = some r → (orc T N).deep F.zk5 [(Sl.enc zjq.enc) a0, (Sl.enc zjq.enc) a1] = some [V.bool r] := by
 intro q N hM a0 a1 r h
 rcases q with _ | q
 ·cases h
 obtain ⟨M, rfl⟩ : ∃ M, N = M + 8 := ⟨N - 8, by omega⟩
 have zbn0 := (zblu q)
 generalize hR : some [V.bool r] = R
 rw [zhy, z86, y6, zhw zt9 rfl]
 rw [zk5] at h
 replace h := br h; rcases h with ⟨h1, h⟩ | ⟨h1, h⟩
 ·replace h := zbn0 M (by omega) (M + 7) (by omega) _ _ _ _ _ _ _ h R hR
  simp only [zbls, simprocAttr, *]
 ·cases h; subst hR; simp only [zbls, simprocAttr, *]
def zblw := And.intro @kk <| And.intro @ke <| And.intro @kn <| And.intro @zba3 <| And.intro @zbbj <| And.intro @zbcg <| @zba5
theorem zblx : ∀ (q N : Nat), 8 * q ≤ N → ∀ (a0 a1 : zjr), ∀ (r : Bool), zk6 q a0 a1 = some r → (orc T N).deep F.zk6 [zjr.enc a0, zjr.enc a1] = some [V.bool r] := by
 intro q N hM a0 a1 r h
 rcases q with _ | q
 ·cases h
 obtain ⟨M, rfl⟩ : ∃ M, N = M + 8 := ⟨N - 8, by omega⟩
 generalize hR : some [V.bool r] = R
 rw [zhy, z8q, y6, zhw zp7 rfl]
 rw [zk6] at h
 replace h := br h; rcases h with ⟨h1, h⟩ | ⟨h1, h⟩
 ·replace h := ob h; obtain ⟨r1, h2, h⟩ := h
  replace h2 := zblq q (M + 7) (by omega) _ _ _ h2
  try simp only [kf, simprocAttr] at h2
  replace h := bb h; rcases h with ⟨h3', h3, h⟩ | ⟨h3', h3, h⟩
  ·replace h := ob h; obtain ⟨r2, h4, h⟩ := h
   replace h4 := zblv q (M + 7) (by omega) _ _ _ h4
   try simp only [kf, simprocAttr] at h4
   cases h; subst hR; simp only [zblw, simprocAttr, *]
  ·cases h; subst hR; simp only [zblw, simprocAttr, *]
 ·cases h; subst hR; simp only [zblw, simprocAttr, *]
def zbly := And.intro @kk <| And.intro @ke <| And.intro @kn <| And.intro @zbao <| And.intro @zbav <| And.intro @zba1 <| And.intro @zba4 <| @zbaq
theorem zblz : ∀ (q N : Nat), 8 * q ≤ N → ∀ (r : Bool), zk7 q = some r → (orc T N).deep F.zk7 [] = some [V.bool r] := by
 intro q N hM r h
 rcases q with _ | q
 ·cases h
 obtain ⟨M, rfl⟩ : ∃ M, N = M + 8 := ⟨N - 8, by omega⟩
 generalize hR : some [V.bool r] = R
 rw [zhy, z8l, y6, zhw zof rfl]
 rw [zk7] at h
 replace h := ob h; obtain ⟨r1, h1, h⟩ := h
 replace h1 := zbkh q (M + 7) (by omega) _ _ _ h1
 try simp only [kf, simprocAttr] at h1
 replace h := ob h; obtain ⟨r2, h2, h⟩ := h
 replace h2 := zblj q (M + 7) (by omega) _ _ _ h2
 try simp only [kf, simprocAttr] at h2
 replace h := br h; rcases h with ⟨h3, h⟩ | ⟨h3, h⟩
 ·replace h := br h; rcases h with ⟨h4, h⟩ | ⟨h4, h⟩
  ·replace h := br h; rcases h with ⟨h5, h⟩ | ⟨h5, h⟩
   ·replace h := br h; rcases h with ⟨h6, h⟩ | ⟨h6, h⟩
    ·replace h := br h; rcases h with ⟨h7, h⟩ | ⟨h7, h⟩
     ·replace h := ob h; obtain ⟨e3, h8, h⟩ := h
      replace h := br h; rcases h with ⟨h9, h⟩ | ⟨h9, h⟩
      ·replace h := ob h; obtain ⟨r4, h10, h⟩ := h
       replace h10 := zblx q (M + 7) (by omega) _ _ _ h10
       try simp only [kf, simprocAttr] at h10
       cases h; subst hR; simp only [zbly, simprocAttr, *]
      ·cases h; subst hR; simp only [zbly, simprocAttr, *]
     ·cases h; subst hR; simp only [zbly, simprocAttr, *]
    ·cases h; subst hR; simp only [zbly, simprocAttr, *]
   ·cases h; subst hR; simp only [zbly, simprocAttr, *]
  ·cases h; subst hR; simp only [zbly, simprocAttr, *]
 ·cases h; subst hR; simp only [zbly, simprocAttr, *]
def zbl0 := And.intro @kk <| And.intro @ke <| And.intro @kn <| And.intro @zbbl <| @zbbn
theorem zbl1 : ∀ (q N : Nat), 8 * q ≤ N → ∀ (a0 : zjp), ∀ (r : Bool), zk8 q a0 = some r → (orc T N).deep F.zk8 [zjp.enc a0] = some [V.bool r] := by
 intro q N hM a0 r h
 rcases q with _ | q
 ·cases h
 obtain ⟨M, rfl⟩ : ∃ M, N = M + 8 := ⟨N - 8, by omega⟩
 generalize hR : some [V.bool r] = R
 rw [zhy, z8w, y6, zhw zrt rfl]
 rw [zk8] at h
 cases h; subst hR; simp only [zbl0, simprocAttr, *]
def zbl2 := And.intro @kk <| And.intro @ke <| And.intro @kn <| And.intro @zbar <| And.intro @zbbm <| @zbat
theorem zbl3 : ∀ (q N : Nat), 8 * q ≤ N → ∀ (a0 : zjr), ∀ (r : Bool), zk9 q a0 = some r → (orc T N).deep F.zk9 [zjr.enc a0] = some [V.bool r] := by
 intro q N hM a0 r h
 rcases q with _ | q
 ·cases h
 obtain ⟨M, rfl⟩ : ∃ M, N = M + 8 := ⟨N - 8, by omega⟩
 generalize hR : some [V.bool r] = R
 rw [zhy, z8m, y6, zhw zoh rfl]
 rw [zk9] at h
 replace h := ob h; obtain ⟨r1, h1, h⟩ := h
 replace h1 := zbl1 q (M + 7) (by omega) _ _ h1
 try simp only [kf, simprocAttr] at h1
 replace h := bb h; rcases h with ⟨h2', h2, h⟩ | ⟨h2', h2, h⟩
 ·cases h; subst hR; simp only [zbl2, simprocAttr, *]
 ·cases h; subst hR; simp only [zbl2, simprocAttr, *]
def zbl4 := And.intro @kk <| And.intro @ke <| And.intro @kn <| And.intro @zbfw <| @zbfy
theorem zbl5 : ∀ (q N : Nat), 8 * q ≤ N → ∀ (a0 : Int), ∀ (r : Bool), zla q a0 = some r → (orc T N).deep F.zla [(V.int .u8) a0] = some [V.bool r] := by
 intro q N hM a0 r h
 rcases q with _ | q
 ·cases h
 obtain ⟨M, rfl⟩ : ∃ M, N = M + 8 := ⟨N - 8, by omega⟩
 generalize hR : some [V.bool r] = R
 rw [zhy, zbac, y6, zhw z46 rfl]
 rw [zla] at h
 cases h; subst hR; simp only [zbl4, simprocAttr, *]
def zbl6 (q : Nat) : Prop := ∀ (M : Nat) (hM : 8 * q ≤ M) (j : Nat) (hj : q ≤ j) (v0z : Bool) (v0l : List Int) (v7 v8 r : Int) (_ : zlb q v0z v0l v7 v8 = some r) (R : Option (List V × Hp)) (_ : (some ([(.int .i64 r)], []) : Option (List V × Hp)) = R) (fr : Fr) (H : Hp) (_ : canon 0 [0, 1, 7, 8] fr H = ([(0, (.sl v0z (List.map (V.int .u8) v0l))), (1, (.fn F.zla [])), (7, (.int .i64 v7)), (8, (.int .i64 v8))], [])), finI 0 false [.tmp 4] (unw T (orc T (M + 5)) (M + 5) 0 [.blk 0, .code z8b] (iter 0 [0, 1, 7, 8] (exec T (orc T (M + 5)) (M + 5) 0 z78) j fr H)) = R
def zbl7 := And.intro @kk <| And.intro @ke <| And.intro @kn <| And.intro @zbgh <| @zbfx
theorem zbl8 (q : Nat) (zbn1 : zbl6 q) : zbl6 (q + 1) := by
 intro M hM j hj v0z v0l v7 v8 r h R hR fr H hc
 obtain ⟨j, rfl⟩ : ∃ i, j = i + 1 := ⟨j - 1, by omega⟩
 rw [zho, hc]; clear hc
 rw [zlb] at h
 replace h := br h; rcases h with ⟨h1, h⟩ | ⟨h1, h⟩
 ·replace h := bn h; obtain ⟨h2, h⟩ := h
  replace h := ob h; obtain ⟨e1, h3, h⟩ := h
  replace h := ob h; obtain ⟨r2, h4, h⟩ := h
  replace h4 := zbl5 q (M + 5) (by omega) _ _ h4
  replace h := bb h; rcases h with ⟨h5', h5, h⟩ | ⟨h5', h5, h⟩
  ·cases h; subst hR; simp only [zbl7, simprocAttr, *]
  ·replace h := zbn1 M (by omega) j (by omega) _ _ _ _ _ h R hR
   simp only [zbl7, simprocAttr, *]
 ·cases h; subst hR; simp only [zbl7, simprocAttr, *]
theorem zbl9 : ∀ q, zbl6 q
 | 0 => by intro M hM j hj; intros; rename_i h _ _ _ _ _; cases h
 | q + 1 => by have i0 := zbl9 q; exact zbl8 q i0
theorem zbma : ∀ (q M : Nat), 8 * q ≤ M → ∀ (v0z : Bool), ∀ (v0l : List Int), ∀ (r : Int), zlc q v0z v0l = some r → (orc T (M + 6)).inl F.zn9 [(.sl v0z (List.map (V.int .u8) v0l)), (.fn F.zla [])] [] = (some ([(.int .i64 r)], []) : Option (List V × Hp)) := by
 intro q M hM v0z v0l r h
 rcases q with _ | q
 ·cases h
 have zbn1 := (zbl9 q)
 generalize hR : (some ([(.int .i64 r)], []) : Option (List V × Hp)) = R
 rw [zbgj (n := M + 5)]
 rw [zlc] at h
 replace h := zbn1 M (by omega) (M + 5) (by omega) _ _ _ _ _ h R hR
 simp only [zbl7, simprocAttr, *]
def zbmb := And.intro @kk <| And.intro @ke <| And.intro @kn <| And.intro @zbeh <| And.intro @zbft <| And.intro @zbgi <| And.intro @zbfu <| And.intro @zbfv <| @zbej
theorem zbmc : ∀ (q N : Nat), 8 * q ≤ N → ∀ (a0 : (Sl Int)), ∀ (r : Bool), zld q a0 = some r → (orc T N).deep F.zld [(Sl.enc (V.int .u8)) a0] = some [V.bool r] := by
 intro q N hM a0 r h
 rcases q with _ | q
 ·cases h
 obtain ⟨M, rfl⟩ : ∃ M, N = M + 8 := ⟨N - 8, by omega⟩
 generalize hR : some [V.bool r] = R
 rw [zhy, z9v, y6, zhw zzq rfl]
 rw [zld] at h
 replace h := br h; rcases h with ⟨h1, h⟩ | ⟨h1, h⟩
 ·replace h := ob h; obtain ⟨r1, h2, h⟩ := h
  replace h2 := zbma q M (by omega) _ _ _ h2
  try simp only [kf, simprocAttr] at h2
  cases h; subst hR; simp only [zbmb, simprocAttr, *]
 ·cases h; subst hR; simp only [zbmb, simprocAttr, *]
def zbmd (q : Nat) : Prop := ∀ (M : Nat) (hM : 8 * q ≤ M) (j : Nat) (hj : q ≤ j) (v0z : Bool) (v0l : List Int) (v4 v9 v10 : Int) (r : Int × Int) (_ : zle q v0z v0l v4 v9 v10 = some r) (R : Option (List V)) (_ : some [(V.int .u64) r.1, (V.int .i64) r.2] = R) (fr : Fr) (H : Hp) (_ : canon 0 [0, 4, 9, 10] fr H = ([(0, (.sl v0z (List.map (V.int .u8) v0l))), (4, (.int .u64 v4)), (9, (.int .i64 v9)), (10, (.int .i64 v10))], [])), fin z54 (unw T (orc T (M + 7)) (M + 7) 0 [.blk 0, .code z50] (iter 0 [0, 4, 9, 10] (exec T (orc T (M + 7)) (M + 7) 0 z5x) j fr H)) = R
def zbme := And.intro @kk <| And.intro @ke <| And.intro @kn <| And.intro @zbfz <| @zbf1
theorem zbmf (q : Nat) (zbn2 : zbmd q) : zbmd (q + 1) := by
 intro M hM j hj v0z v0l v4 v9 v10 r h R hR fr H hc
 obtain ⟨j, rfl⟩ : ∃ i, j = i + 1 := ⟨j - 1, by omega⟩
 rw [zho, hc]; clear hc
 rw [zle] at h
 replace h := br h; rcases h with ⟨h1, h⟩ | ⟨h1, h⟩
 ·replace h := bn h; obtain ⟨h2, h⟩ := h
  replace h := ob h; obtain ⟨e1, h3, h⟩ := h
  replace h := bm h; obtain ⟨h4, h⟩ := h
  replace h := br h; rcases h with ⟨h5, h⟩ | ⟨h5, h⟩
  ·replace h := br h; rcases h with ⟨h6, h⟩ | ⟨h6, h⟩
   ·cases h; subst hR; simp only [zbme, simprocAttr, *]
   ·replace h := br h; rcases h with ⟨h7, h⟩ | ⟨h7, h⟩
    ·replace h := br h; rcases h with ⟨h8, h⟩ | ⟨h8, h⟩
     ·cases h; subst hR; simp only [zbme, simprocAttr, *]
     ·replace h := br h; rcases h with ⟨h9, h⟩ | ⟨h9, h⟩
      ·cases h; subst hR; simp only [zbme, simprocAttr, *]
      ·replace h := zbn2 M (by omega) j (by omega) _ _ _ _ _ _ h R hR
       simp only [zbme, simprocAttr, *]
    ·replace h := br h; rcases h with ⟨h10, h⟩ | ⟨h10, h⟩
     ·cases h; subst hR; simp only [zbme, simprocAttr, *]
     ·replace h := zbn2 M (by omega) j (by omega) _ _ _ _ _ _ h R hR
      simp only [zbme, simprocAttr, *]
  ·replace h := br h; rcases h with ⟨h11, h⟩ | ⟨h11, h⟩
   ·replace h := br h; rcases h with ⟨h12, h⟩ | ⟨h12, h⟩
    ·cases h; subst hR; simp only [zbme, simprocAttr, *]
    ·replace h := br h; rcases h with ⟨h13, h⟩ | ⟨h13, h⟩
     ·cases h; subst hR; simp only [zbme, simprocAttr, *]
     ·replace h := zbn2 M (by omega) j (by omega) _ _ _ _ _ _ h R hR
      simp only [zbme, simprocAttr, *]
   ·replace h := br h; rcases h with ⟨h14, h⟩ | ⟨h14, h⟩
    ·cases h; subst hR; simp only [zbme, simprocAttr, *]
    ·replace h := zbn2 M (by omega) j (by omega) _ _ _ _ _ _ h R hR
     simp only [zbme, simprocAttr, *]
 ·cases h; subst hR; simp only [zbme, simprocAttr, *]
theorem zbmg : ∀ q, zbmd q
 | 0 => by intro M hM j hj; intros; rename_i h _ _ _ _ _; cases h
 | q + 1 => by have i0 := zbmg q; exact zbmf q i0
theorem zbmh : ∀ (q N : Nat), 8 * q ≤ N → ∀ (a0 : (Sl Int)), ∀ (r : Int × Int), zlf q a0 = some r → (orc T N).deep F.zlf [(Sl.enc (V.int .u8)) a0] = some [(V.int .u64) r.1, (V.int .i64) r.2] := by
 intro q N hM a0 r h
 rcases q with _ | q
 ·cases h
 obtain ⟨M, rfl⟩ : ∃ M, N = M + 8 := ⟨N - 8, by omega⟩
 have zbn2 := (zbmg q)
 generalize hR : some [(V.int .u64) r.1, (V.int .i64) r.2] = R
 rw [zhy, zbad, y6, zhw z54 rfl]
 rw [zlf] at h
 replace h := zbn2 M (by omega) (M + 7) (by omega) _ _ _ _ _ _ h R hR
 simp only [zbme, simprocAttr, *]
def zbmi := And.intro @kk <| And.intro @ke <| And.intro @kn <| And.intro @zbek <| And.intro @zbf0 <| @zbem
theorem zbmj : ∀ (q N : Nat), 8 * q ≤ N → ∀ (a0 : (Sl Int)), ∀ (r : Int × Int), zlg q a0 = some r → (orc T N).deep F.zlg [(Sl.enc (V.int .u8)) a0] = some [(V.int .i64) r.1, (V.int .i64) r.2] := by
 intro q N hM a0 r h
 rcases q with _ | q
 ·cases h
 obtain ⟨M, rfl⟩ : ∃ M, N = M + 8 := ⟨N - 8, by omega⟩
 generalize hR : some [(V.int .i64) r.1, (V.int .i64) r.2] = R
 rw [zhy, z9w, y6, zhw zz1 rfl]
 rw [zlg] at h
 replace h := ob h; obtain ⟨r1, h1, h⟩ := h
 replace h1 := zbmh q (M + 7) (by omega) _ _ h1
 try simp only [kf, simprocAttr] at h1
 replace h := br h; rcases h with ⟨h2, h⟩ | ⟨h2, h⟩
 ·cases h; subst hR; simp only [zbmi, simprocAttr, *]
 ·cases h; subst hR; simp only [zbmi, simprocAttr, *]
def zbmk (q : Nat) : Prop := ∀ (M : Nat) (hM : 8 * q ≤ M) (j : Nat) (hj : q ≤ j) (v5 : Int) (h0_0 h1_0 : List Int) (r : (List Int)) (_ : zlh q v5 h0_0 h1_0 = some r) (R : Option (List V)) (_ : some [(arrEnc (V.int .u32)) r] = R) (fr : Fr) (H : Hp) (_ : canon 0 [0, 1, 5] fr H = ([(0, (.ptr 0 0)), (1, (.ptr 1 0)), (5, (.int .i64 v5))], [(.box (List.map (V.int .u32) h0_0)), (.box (List.map (V.int .u32) h1_0))])), fin z7v (unw T (orc T (M + 7)) (M + 7) 0 [.blk 0, .code z7r] (iter 0 [0, 1, 5] (exec T (orc T (M + 7)) (M + 7) 0 z7o) j fr H)) = R
def zbml (q : Nat) : Prop := ∀ (M : Nat) (hM : 8 * q ≤ M) (j : Nat) (hj : q ≤ j) (j1 : Nat) (hj1 : q ≤ j1) (v2 v3 v5 v10 : Int) (h0_0 h1_0 : List Int) (r : (List Int)) (_ : zli q v2 v3 v5 v10 h0_0 h1_0 = some r) (R : Option (List V)) (_ : some [(arrEnc (V.int .u32)) r] = R) (fr : Fr) (H : Hp) (_ : canon 0 [0, 1, 2, 3, 5, 10] fr H = ([(0, (.ptr 0 0)), (1, (.ptr 1 0)), (2, (.int .i64 v2)), (3, (.int .u32 v3)), (5, (.int .i64 v5)), (10, (.int .i64 v10))], [(.box (List.map (V.int .u32) h0_0)), (.box (List.map (V.int .u32) h1_0))])), fin z7v (unw T (orc T (M + 7)) (M + 7) 0 [.blk 2, .code z7h, .blk 1, .code z7l, .rounds [0, 1, 5] z7o j1, .blk 0, .code z7r] (iter 0 [0, 1, 2, 3, 5, 10] (exec T (orc T (M + 7)) (M + 7) 0 z7e) j fr H)) = R
def zbmm := And.intro @kk <| And.intro @ke <| And.intro @kn <| And.intro @zbge <| @zbgg
theorem zbmn (q : Nat) (zbn3 : zbml q) : zbmk (q + 1) := by
 intro M hM j hj v5 h0_0 h1_0 r h R hR fr H hc
 obtain ⟨j, rfl⟩ : ∃ i, j = i + 1 := ⟨j - 1, by omega⟩
 rw [zho, hc]; clear hc
 rw [zlh] at h
 replace h := br h; rcases h with ⟨h1, h⟩ | ⟨h1, h⟩
 ·replace h := zbn3 M (by omega) (M + 7) (by omega) j (by omega) _ _ _ _ _ _ _ h R hR
  simp (maxDischargeDepth := 12) only [zbmm, simprocAttr, arrEnc, *]
 ·replace h := bn h; obtain ⟨h2, h⟩ := h
  replace h := bc h; rcases h with ⟨h3, h⟩ | ⟨h3, h⟩
  ·replace h := bn h; obtain ⟨h4, h⟩ := h
   replace h := bn h; obtain ⟨h5, h⟩ := h
   cases h; subst hR; simp (maxDischargeDepth := 12) only [zbmm, simprocAttr, arrEnc, *]
  ·cases h
theorem zbmo (q : Nat) (zbn4 : zbmk q) (zbn3 : zbml q) : zbml (q + 1) := by
 intro M hM j hj j1 hj1 v2 v3 v5 v10 h0_0 h1_0 r h R hR fr H hc
 obtain ⟨j, rfl⟩ : ∃ i, j = i + 1 := ⟨j - 1, by omega⟩
 rw [zho, hc]; clear hc
 rw [zli] at h
 replace h := br h; rcases h with ⟨h1, h⟩ | ⟨h1, h⟩
 ·replace h := zbn3 M (by omega) j (by omega) j1 (by omega) _ _ _ _ _ _ _ h R hR
  simp (maxDischargeDepth := 12) only [zbmm, simprocAttr, arrEnc, *]
 ·replace h := bn h; obtain ⟨h2, h⟩ := h
  replace h := bn h; obtain ⟨h3, h⟩ := h
  replace h := bn h; obtain ⟨h4, h⟩ := h
  replace h := zbn4 M (by omega) j1 (by omega) _ _ _ _ h R hR
  simp (maxDischargeDepth := 12) only [zbmm, simprocAttr, arrEnc, *]
theorem zbmp : ∀ q, zbmk q ∧ zbml q
 | 0 => by refine ⟨?_, ?_⟩ <;> (intro M hM j hj; intros; rename_i h _ _ _ _ _; cases h)
 | q + 1 => by have ⟨i0, i1⟩ := zbmp q; exact ⟨zbmn q i1, zbmo q i0 i1⟩
theorem zbmq : ∀ (q N : Nat), 8 * q ≤ N → ∀ (r : (List Int)), zlj q = some r → (orc T N).deep F.zlj [] = some [(arrEnc (V.int .u32)) r] := by
 intro q N hM r h
 rcases q with _ | q
 ·cases h
 obtain ⟨M, rfl⟩ : ∃ M, N = M + 8 := ⟨N - 8, by omega⟩
 have zbn4 := (zbmp q).1
 generalize hR : some [(arrEnc (V.int .u32)) r] = R
 rw [zhy, zbai, y6, zhw z7v rfl]
 rw [zlj] at h
 replace h := zbn4 M (by omega) (M + 7) (by omega) _ _ _ _ h R hR
 simp (maxDischargeDepth := 12) only [zbmm, simprocAttr, arrEnc, *]
def zbmr (q : Nat) : Prop := ∀ (M : Nat) (hM : 8 * q ≤ M) (j : Nat) (hj : q ≤ j) (v6 : Int) (v12z : Bool) (v12l : List Int) (v13 v14 : Int) (h0_0 : List Int) (r : Int) (_ : zlk q v6 v12z v12l v13 v14 h0_0 = some r) (R : Option (List V)) (_ : some [(V.int .u32) r] = R) (fr : Fr) (H : Hp) (_ : canon 0 [5, 6, 12, 13, 14] fr H = ([(5, (.ptr 0 0)), (6, (.int .u32 v6)), (12, (.sl v12z (List.map (V.int .u8) v12l))), (13, (.int .i64 v13)), (14, (.int .i64 v14))], [(.box (List.map (V.int .u32) h0_0))])), fin z3z (unw T (orc T (M + 7)) (M + 7) 0 [.blk 0, .code z3u] (iter 0 [5, 6, 12, 13, 14] (exec T (orc T (M + 7)) (M + 7) 0 z3r) j fr H)) = R
def zbms := And.intro @kk <| And.intro @ke <| And.intro @kn <| And.intro @zbfk <| And.intro @zbgf <| @zbfm
theorem zbmt (q : Nat) (zbn5 : zbmr q) : zbmr (q + 1) := by
 intro M hM j hj v6 v12z v12l v13 v14 h0_0 r h R hR fr H hc
 obtain ⟨j, rfl⟩ : ∃ i, j = i + 1 := ⟨j - 1, by omega⟩
 rw [zho, hc]; clear hc
 rw [zlk] at h
 replace h := br h; rcases h with ⟨h1, h⟩ | ⟨h1, h⟩
 ·replace h := bn h; obtain ⟨h2, h⟩ := h
  replace h := ob h; obtain ⟨e2, h3, h⟩ := h
  replace h := bn h; obtain ⟨h4, h⟩ := h
  replace h := bn h; obtain ⟨h5, h⟩ := h
  replace h := ob h; obtain ⟨e3, h6, h⟩ := h
  replace h := zbn5 M (by omega) j (by omega) _ _ _ _ _ _ _ h R hR
  simp only [zbms, simprocAttr, arrEnc, *]
 ·cases h; subst hR; simp only [zbms, simprocAttr, arrEnc, *]
theorem zbmu : ∀ q, zbmr q
 | 0 => by intro M hM j hj; intros; rename_i h _ _ _ _ _; cases h
 | q + 1 => by have i0 := zbmu q; exact zbmt q i0
theorem zbmv : ∀ (q N : Nat), 8 * q ≤ N → ∀ (a0 : Int) (a1 : (Sl Int)), ∀ (r : Int), zll q a0 a1 = some r → (orc T N).deep F.zll [(V.int .u32) a0, (Sl.enc (V.int .u8)) a1] = some [(V.int .u32) r] := by
 intro q N hM a0 a1 r h
 rcases q with _ | q
 ·cases h
 obtain ⟨M, rfl⟩ : ∃ M, N = M + 8 := ⟨N - 8, by omega⟩
 have zbn5 := (zbmu q)
 generalize hR : some [(V.int .u32) r] = R
 rw [zhy, z98, y6, zhw z3z rfl]
 rw [zll] at h
 replace h := ob h; obtain ⟨r1, h1, h⟩ := h
 replace h1 := zbmq q (M + 7) (by omega)  _ h1
 try simp only [kf, simprocAttr] at h1
 replace h := bc h; rcases h with ⟨h2, h⟩ | ⟨h2, h⟩
 ·replace h := zbn5 M (by omega) (M + 7) (by omega) _ _ _ _ _ _ _ h R hR
  simp only [zbms, simprocAttr, arrEnc, *]
 ·cases h
def zbmw := And.intro @kk <| And.intro @ke <| And.intro @kn <| And.intro @zbdq <| And.intro @zbfl <| @zbds
theorem zbmx : ∀ (q N : Nat), 8 * q ≤ N → ∀ (a0 : (Sl Int)), ∀ (r : Int), zlm q a0 = some r → (orc T N).deep F.zlm [(Sl.enc (V.int .u8)) a0] = some [(V.int .u32) r] := by
 intro q N hM a0 r h
 rcases q with _ | q
 ·cases h
 obtain ⟨M, rfl⟩ : ∃ M, N = M + 8 := ⟨N - 8, by omega⟩
 generalize hR : some [(V.int .u32) r] = R
 rw [zhy, z9m, y6, zhw zxu rfl]
 rw [zlm] at h
 replace h := ob h; obtain ⟨r1, h1, h⟩ := h
 replace h1 := zbmv q (M + 7) (by omega) _ _ _ h1
 try simp only [kf, simprocAttr] at h1
 cases h; subst hR; simp only [zbmw, simprocAttr, *]
def zbmy (q : Nat) : Prop := ∀ (M : Nat) (hM : 8 * q ≤ M) (j : Nat) (hj : q ≤ j) (v0 v7 v8 : Int) (h0z : Bool) (h0l : List Int) (r : (Ow Int)) (_ : zln q v0 v7 v8 h0z h0l = some r) (R : Option (List V)) (_ : some [(Ow.enc 1 (V.int .u8)) r] = R) (fr : Fr) (H : Hp) (_ : canon 0 [0, 5, 7, 8] fr H = ([(0, (.int .u64 v0)), (5, (.vw 0 0 0 h0l.length 1)), (7, (.int .i64 v7)), (8, (.int .i64 v8))], [(.row 0 h0z 1 (List.map (V.int .u8) h0l) true)])), fin z3e (unw T (orc T (M + 7)) (M + 7) 0 [.blk 0, .code z3a] (iter 0 [0, 5, 7, 8] (exec T (orc T (M + 7)) (M + 7) 0 z27) j fr H)) = R
def zbmz := And.intro @kk <| And.intro @ke <| And.intro @kn <| And.intro @zbfh <| @zbfj
theorem zbm0 (q : Nat) (zbn6 : zbmy q) : zbmy (q + 1) := by
 intro M hM j hj v0 v7 v8 h0z h0l r h R hR fr H hc
 obtain ⟨j, rfl⟩ : ∃ i, j = i + 1 := ⟨j - 1, by omega⟩
 rw [zho, hc]; clear hc
 rw [zln] at h
 replace h := br h; rcases h with ⟨h1, h⟩ | ⟨h1, h⟩
 ·replace h := bm h; obtain ⟨h2, h⟩ := h
  replace h := bn h; obtain ⟨h3, h⟩ := h
  replace h := zbn6 M (by omega) j (by omega) _ _ _ _ _ _ h R hR
  simp only [zbmz, simprocAttr, *]
 ·cases h; subst hR; simp only [zbmz, simprocAttr, *]
theorem zbm1 : ∀ q, zbmy q
 | 0 => by intro M hM j hj; intros; rename_i h _ _ _ _ _; cases h
 | q + 1 => by have i0 := zbm1 q; exact zbm0 q i0
theorem zbm2 : ∀ (q N : Nat), 8 * q ≤ N → ∀ (a0 a1 : Int), ∀ (r : (Ow Int)), zlo q a0 a1 = some r → (orc T N).deep F.zlo [(V.int .u64) a0, (V.int .i64) a1] = some [(Ow.enc 1 (V.int .u8)) r] := by
 intro q N hM a0 a1 r h
 rcases q with _ | q
 ·cases h
 obtain ⟨M, rfl⟩ : ∃ M, N = M + 8 := ⟨N - 8, by omega⟩
 have zbn6 := (zbm1 q)
 generalize hR : some [(Ow.enc 1 (V.int .u8)) r] = R
 rw [zhy, z97, y6, zhw z3e rfl]
 rw [zlo] at h
 replace h := zbn6 M (by omega) (M + 7) (by omega) _ _ _ _ _ _ h R hR
 simp only [zbmz, simprocAttr, *]
def zbm3 := And.intro @kk <| And.intro @ke <| And.intro @kn <| And.intro @zbdn <| And.intro @zbfi <| @zbdp
theorem zbm4 : ∀ (q N : Nat), 8 * q ≤ N → ∀ (a0 : Int), ∀ (r : (Ow Int)), zlp q a0 = some r → (orc T N).deep F.zlp [(V.int .u32) a0] = some [(Ow.enc 1 (V.int .u8)) r] := by
 intro q N hM a0 r h
 rcases q with _ | q
 ·cases h
 obtain ⟨M, rfl⟩ : ∃ M, N = M + 8 := ⟨N - 8, by omega⟩
 generalize hR : some [(Ow.enc 1 (V.int .u8)) r] = R
 rw [zhy, z9l, y6, zhw zxs rfl]
 rw [zlp] at h
 replace h := ob h; obtain ⟨r1, h1, h⟩ := h
 replace h1 := zbm2 q (M + 7) (by omega) _ _ _ h1
 try simp only [kf, simprocAttr] at h1
 cases h; subst hR; simp only [zbm3, simprocAttr, *]
def zbm5 := And.intro @kk <| And.intro @ke <| And.intro @kn <| And.intro @zbeq <| And.intro @zbdo <| And.intro @zbdr <| And.intro @zbfl <| @zbes
theorem zbm6 : ∀ (q N : Nat), 8 * q ≤ N → ∀ (a0 a1 : (Sl Int)), ∀ (r : (Ow Int)), zlq q a0 a1 = some r → (orc T N).deep F.zlq [(Sl.enc (V.int .u8)) a0, (Sl.enc (V.int .u8)) a1] = some [(Ow.enc 1 (V.int .u8)) r] := by
 intro q N hM a0 a1 r h
 rcases q with _ | q
 ·cases h
 obtain ⟨M, rfl⟩ : ∃ M, N = M + 8 := ⟨N - 8, by omega⟩
 generalize hR : some [(Ow.enc 1 (V.int .u8)) r] = R
 rw [zhy, z9y, y6, zhw z0t rfl]
 rw [zlq] at h
 replace h := ob h; obtain ⟨r1, h1, h⟩ := h
 replace h1 := zbmx q (M + 7) (by omega) _ _ h1
 try simp only [kf, simprocAttr] at h1
 replace h := ob h; obtain ⟨r2, h2, h⟩ := h
 replace h2 := zbmv q (M + 7) (by omega) _ _ _ h2
 try simp only [kf, simprocAttr] at h2
 replace h := ob h; obtain ⟨r3, h3, h⟩ := h
 replace h3 := zbm4 q (M + 7) (by omega) _ _ h3
 try simp only [kf, simprocAttr] at h3
 cases h; subst hR; simp only [zbm5, simprocAttr, *]
def zbm7 (q : Nat) : Prop := ∀ (M : Nat) (hM : 8 * q ≤ M) (j : Nat) (hj : q ≤ j) (v0z : Bool) (v0l : List Int) (v1z : Bool) (v1l : List Int) (v12 v13 : Int) (r : Bool) (_ : zlr q v0z v0l v1z v1l v12 v13 = some r) (R : Option (List V)) (_ : some [V.bool r] = R) (fr : Fr) (H : Hp) (_ : canon 0 [0, 1, 12, 13] fr H = ([(0, (.sl v0z (List.map (V.int .u8) v0l))), (1, (.sl v1z (List.map (V.int .u8) v1l))), (12, (.int .i64 v12)), (13, (.int .i64 v13))], [])), fin z0o (unw T (orc T (M + 7)) (M + 7) 0 [.blk 0, .code z0k] (iter 0 [0, 1, 12, 13] (exec T (orc T (M + 7)) (M + 7) 0 z0h) j fr H)) = R
def zbm8 := And.intro @kk <| And.intro @ke <| And.intro @kn <| And.intro @zben <| @zbep
theorem zbm9 (q : Nat) (zbn7 : zbm7 q) : zbm7 (q + 1) := by
 intro M hM j hj v0z v0l v1z v1l v12 v13 r h R hR fr H hc
 obtain ⟨j, rfl⟩ : ∃ i, j = i + 1 := ⟨j - 1, by omega⟩
 rw [zho, hc]; clear hc
 rw [zlr] at h
 replace h := br h; rcases h with ⟨h1, h⟩ | ⟨h1, h⟩
 ·replace h := bn h; obtain ⟨h2, h⟩ := h
  replace h := ob h; obtain ⟨e1, h3, h⟩ := h
  replace h := ob h; obtain ⟨e2, h4, h⟩ := h
  replace h := br h; rcases h with ⟨h5, h⟩ | ⟨h5, h⟩
  ·replace h := zbn7 M (by omega) j (by omega) _ _ _ _ _ _ _ h R hR
   simp only [zbm8, simprocAttr, *]
  ·cases h; subst hR; simp only [zbm8, simprocAttr, *]
 ·cases h; subst hR; simp only [zbm8, simprocAttr, *]
theorem zbna : ∀ q, zbm7 q
 | 0 => by intro M hM j hj; intros; rename_i h _ _ _ _ _; cases h
 | q + 1 => by have i0 := zbna q; exact zbm9 q i0
theorem zbnb : ∀ (q N : Nat), 8 * q ≤ N → ∀ (a0 a1 : (Sl Int)), ∀ (r : Bool), zls q a0 a1 = some r → (orc T N).deep F.zls [(Sl.enc (V.int .u8)) a0, (Sl.enc (V.int .u8)) a1] = some [V.bool r] := by
 intro q N hM a0 a1 r h
 rcases q with _ | q
 ·cases h
 obtain ⟨M, rfl⟩ : ∃ M, N = M + 8 := ⟨N - 8, by omega⟩
 have zbn7 := (zbna q)
 generalize hR : some [V.bool r] = R
 rw [zhy, z9x, y6, zhw z0o rfl]
 rw [zls] at h
 replace h := br h; rcases h with ⟨h1, h⟩ | ⟨h1, h⟩
 ·replace h := zbn7 M (by omega) (M + 7) (by omega) _ _ _ _ _ _ _ h R hR
  simp only [zbm8, simprocAttr, *]
 ·cases h; subst hR; simp only [zbm8, simprocAttr, *]
def zbnc := And.intro @kk <| And.intro @ke <| And.intro @kn <| And.intro @zbet <| @zbev
theorem zbnd : ∀ (q N : Nat), 8 * q ≤ N → ∀ (a0 : (Sl Int)), ∀ (r : (Ow Int)), zlt q a0 = some r → (orc T N).deep F.zlt [(Sl.enc (V.int .u8)) a0] = some [(Ow.enc 1 (V.int .u8)) r] := by
 intro q N hM a0 r h
 rcases q with _ | q
 ·cases h
 obtain ⟨M, rfl⟩ : ∃ M, N = M + 8 := ⟨N - 8, by omega⟩
 generalize hR : some [(Ow.enc 1 (V.int .u8)) r] = R
 rw [zhy, z9z, y6, zhw z02 rfl]
 rw [zlt] at h
 replace h := bb h; rcases h with ⟨h1', h1, h⟩ | ⟨h1', h1, h⟩
 ·cases h; subst hR; simp only [zbnc, simprocAttr, *]
 ·replace h := bn h; obtain ⟨h2, h⟩ := h
  cases h; subst hR; simp only [zbnc, simprocAttr, *]
def zbne := And.intro @kk <| And.intro @ke <| And.intro @kn <| And.intro @zbci <| And.intro @zbei <| And.intro @zbel <| And.intro @zbeo <| And.intro @zber <| And.intro @zbeu <| @zbck
theorem zbnf : ∀ (q N : Nat), 8 * q ≤ N → ∀ (a0 : (Sl Int)), ∀ (r : (Ow Int) × Int × Int), zlu q a0 = some r → (orc T N).deep F.zlu [(Sl.enc (V.int .u8)) a0] = some [(Ow.enc 1 (V.int .u8)) r.1, (V.int .i64) r.2.1, (V.int .i64) r.2.2] := by
 intro q N hM a0 r h
 rcases q with _ | q
 ·cases h
 obtain ⟨M, rfl⟩ : ∃ M, N = M + 8 := ⟨N - 8, by omega⟩
 generalize hR : some [(Ow.enc 1 (V.int .u8)) r.1, (V.int .i64) r.2.1, (V.int .i64) r.2.2] = R
 rw [zhy, z87, y6, zhw zur rfl]
 rw [zlu] at h
 replace h := ob h; obtain ⟨r1, h1, h⟩ := h
 replace h1 := zbmc q (M + 7) (by omega) _ _ h1
 try simp only [kf, simprocAttr] at h1
 replace h := bb h; rcases h with ⟨h2', h2, h⟩ | ⟨h2', h2, h⟩
 ·cases h; subst hR; simp only [zbne, simprocAttr, *]
 ·replace h := ob h; obtain ⟨r2, h3, h⟩ := h
  replace h3 := zbmj q (M + 7) (by omega) _ _ h3
  try simp only [kf, simprocAttr] at h3
  replace h := br h; rcases h with ⟨h4, h⟩ | ⟨h4, h⟩
  ·cases h; subst hR; simp only [zbne, simprocAttr, *]
  ·replace h := br h; rcases h with ⟨h5, h⟩ | ⟨h5, h⟩
   ·cases h; subst hR; simp only [zbne, simprocAttr, *]
   ·replace h := br h; rcases h with ⟨h6, h⟩ | ⟨h6, h⟩
    ·cases h; subst hR; simp only [zbne, simprocAttr, *]
    ·replace h := bn h; obtain ⟨h7, h⟩ := h
     replace h := bn h; obtain ⟨h8, h⟩ := h
     replace h := bn h; obtain ⟨h9, h⟩ := h
     replace h := bn h; obtain ⟨h10, h⟩ := h
     replace h := bn h; obtain ⟨h11, h⟩ := h
     replace h := bn h; obtain ⟨h12, h⟩ := h
     replace h := bn h; obtain ⟨h13, h⟩ := h
     replace h := bn h; obtain ⟨h14, h⟩ := h
     replace h := bn h; obtain ⟨h15, h⟩ := h
     replace h := ob h; obtain ⟨r3, h16, h⟩ := h
     replace h16 := zbm6 q (M + 7) (by omega) _ _ _ h16
     try simp only [kf, simprocAttr] at h16
     replace h := ob h; obtain ⟨r4, h17, h⟩ := h
     replace h17 := zbnb q (M + 7) (by omega) _ _ _ h17
     try simp only [kf, simprocAttr] at h17
     replace h := bb h; rcases h with ⟨h18', h18, h⟩ | ⟨h18', h18, h⟩
     ·replace h := ob h; obtain ⟨r5, h19, h⟩ := h
      replace h19 := zbnd q (M + 7) (by omega) _ _ h19
      try simp only [kf, simprocAttr] at h19
      cases h; subst hR; simp only [zbne, simprocAttr, *]
     ·cases h; subst hR; simp only [zbne, simprocAttr, *]
def zbng := And.intro @kk <| And.intro @ke <| And.intro @kn <| And.intro @zbgk <| @zbgm
theorem zbnh : ∀ (q N : Nat), 8 * q ≤ N → ∀ (a0 r : Int), zlv q a0 = some r → (orc T N).deep F.zlv [(V.int .u64) a0] = some [(V.int .i64) r] := by
 intro q N hM a0 r h
 rcases q with _ | q
 ·cases h
 obtain ⟨M, rfl⟩ : ∃ M, N = M + 8 := ⟨N - 8, by omega⟩
 generalize hR : some [(V.int .i64) r] = R
 rw [zhy, zbak, y6, zhw z8j rfl]
 rw [zlv] at h
 cases h; subst hR; simp only [zbng, simprocAttr, *]
end Go.Dvm.C
