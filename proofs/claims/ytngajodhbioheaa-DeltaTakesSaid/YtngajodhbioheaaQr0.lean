/- The machine comes to these answers: part 1. -/
import Derived.Test.YtngajodhbioheaaQl0
set_option linter.all false
set_option maxRecDepth 100000
set_option maxHeartbeats 4000000
namespace Go.Dvm.C
open Go Go.Dvm Go.Dvm.I
def z72 := And.intro @kk <| And.intro @ke <| And.intro @kn <| And.intro @z40 <| @z42
theorem z73 : ∀ (q N : Nat), 8 * q ≤ N → ∀ (a0 r : Int), zjx q a0 = some r → (orc T N).deep F.zjx [(V.int .i64) a0] = some [(V.int .i64) r] := by
 intro q N hM a0 r h
 rcases q with _ | q
 ·cases h
 obtain ⟨M, rfl⟩ : ∃ M, N = M + 8 := ⟨N - 8, by omega⟩
 generalize hR : some [(V.int .i64) r] = R
 rw [zhy, z1u, y6, zhw ztm rfl]
 rw [zjx] at h
 cases h; subst hR; simp only [z72, simprocAttr, *]
def z74 := And.intro @kk <| And.intro @ke <| And.intro @kn <| And.intro @z4x <| And.intro @z41 <| @z4z
theorem z75 : ∀ (q N : Nat), 8 * q ≤ N → ∀ (a0 : Int), ∀ (r : Bool), zjy q a0 = some r → (orc T N).deep F.zjy [(V.int .i64) a0] = some [V.bool r] := by
 intro q N hM a0 r h
 rcases q with _ | q
 ·cases h
 obtain ⟨M, rfl⟩ : ∃ M, N = M + 8 := ⟨N - 8, by omega⟩
 generalize hR : some [V.bool r] = R
 rw [zhy, z1t, y6, zhw ztk rfl]
 rw [zjy] at h
 replace h := ob h; obtain ⟨r1, h1, h⟩ := h
 replace h1 := z73 q (M + 7) (by omega) _ _ h1
 cases h; subst hR; simp only [z74, simprocAttr, *]
def z76 (q : Nat) : Prop := ∀ (M : Nat) (hM : 8 * q ≤ M) (j : Nat) (hj : q ≤ j) (v0z : Bool) (v0l : List Int) (v1 v5 v6 : Int) (r : Bool) (_ : zjz q v0z v0l v1 v5 v6 = some r) (R : Option (List V)) (_ : some [V.bool r] = R) (fr : Fr) (H : Hp) (_ : canon 0 [0, 1, 5, 6] fr H = ([(0, (.sl v0z (List.map (V.int .i64) v0l))), (1, (.int .i64 v1)), (5, (.int .i64 v5)), (6, (.int .i64 v6))], [])), fin zty (unw T (orc T (M + 7)) (M + 7) 0 [.blk 0, .code ztu] (iter 0 [0, 1, 5, 6] (exec T (orc T (M + 7)) (M + 7) 0 ztr) j fr H)) = R
def z77 := And.intro @kk <| And.intro @ke <| And.intro @kn <| And.intro @z43 <| @z45
theorem z78 (q : Nat) (zbbw : z76 q) : z76 (q + 1) := by
 intro M hM j hj v0z v0l v1 v5 v6 r h R hR fr H hc
 obtain ⟨j, rfl⟩ : ∃ i, j = i + 1 := ⟨j - 1, by omega⟩
 rw [zho, hc]; clear hc
 rw [zjz] at h
 replace h := br h; rcases h with ⟨h1, h⟩ | ⟨h1, h⟩
 ·replace h := bn h; obtain ⟨h2, h⟩ := h
  replace h := ob h; obtain ⟨e1, h3, h⟩ := h
  replace h := br h; rcases h with ⟨h4, h⟩ | ⟨h4, h⟩
  ·cases h; subst hR; simp only [z77, simprocAttr, *]
  ·replace h := br h; rcases h with ⟨h5, h⟩ | ⟨h5, h⟩
   ·cases h; subst hR; simp only [z77, simprocAttr, *]
   ·replace h := bn h; obtain ⟨h6, h⟩ := h
    replace h := ob h; obtain ⟨e2, h7, h⟩ := h
    replace h := br h; rcases h with ⟨h8, h⟩ | ⟨h8, h⟩
    ·cases h; subst hR; simp only [z77, simprocAttr, *]
    ·replace h := br h; rcases h with ⟨h9, h⟩ | ⟨h9, h⟩
     ·cases h; subst hR; simp only [z77, simprocAttr, *]
     ·replace h := zbbw M (by omega) j (by omega) _ _ _ _ _ _ h R hR
      simp only [z77, simprocAttr, *]
 ·replace h := br h; rcases h with ⟨h10, h⟩ | ⟨h10, h⟩
  ·cases h; subst hR; simp only [z77, simprocAttr, *]
  ·cases h; subst hR; simp only [z77, simprocAttr, *]
theorem z79 : ∀ q, z76 q
 | 0 => by intro M hM j hj; intros; rename_i h _ _ _ _ _; cases h
 | q + 1 => by have i0 := z79 q; exact z78 q i0
theorem z8a : ∀ (q N : Nat), 8 * q ≤ N → ∀ (a0 : (Sl Int)) (a1 : Int), ∀ (r : Bool), zj0 q a0 a1 = some r → (orc T N).deep F.zj0 [(Sl.enc (V.int .i64)) a0, (V.int .i64) a1] = some [V.bool r] := by
 intro q N hM a0 a1 r h
 rcases q with _ | q
 ·cases h
 obtain ⟨M, rfl⟩ : ∃ M, N = M + 8 := ⟨N - 8, by omega⟩
 have zbbw := (z79 q)
 generalize hR : some [V.bool r] = R
 rw [zhy, z1v, y6, zhw zty rfl]
 rw [zj0] at h
 replace h := zbbw M (by omega) (M + 7) (by omega) _ _ _ _ _ _ h R hR
 simp only [z77, simprocAttr, *]
def z8b (q : Nat) : Prop := ∀ (M : Nat) (hM : 8 * q ≤ M) (j : Nat) (hj : q ≤ j) (v0z : Bool) (v0l : List Int) (v7 v8 h0_0 : Int) (h0_1z : Bool) (h0_1l : List Int) (h0_2 : Bool) (h0_3 r : Int) (_ : zj1 q v0z v0l v7 v8 h0_0 h0_1z h0_1l h0_2 h0_3 = some r) (R : Option (List V × Hp)) (_ : (some ([(.int .i64 r)], [(.box [(.int .i64 h0_0), (.sl h0_1z (List.map (V.int .i64) h0_1l)), (.bool h0_2), (.int .i64 h0_3)])]) : Option (List V × Hp)) = R) (fr : Fr) (H : Hp) (_ : canon 1 [0, 1, 7, 8] fr H = ([(0, (.sl v0z (List.map (V.int .i64) v0l))), (1, (.fn F.zjy [])), (7, (.int .i64 v7)), (8, (.int .i64 v8))], [(.box [(.int .i64 h0_0), (.sl h0_1z (List.map (V.int .i64) h0_1l)), (.bool h0_2), (.int .i64 h0_3)])])), finI 1 false [.tmp 4] (unw T (orc T (M + 5)) (M + 5) 1 [.blk 0, .code zyd] (iter 1 [0, 1, 7, 8] (exec T (orc T (M + 5)) (M + 5) 1 zya) j fr H)) = R
def z8c := And.intro @kk <| And.intro @ke <| And.intro @kn <| And.intro @z5r <| @z4y
theorem z8d (q : Nat) (zbbx : z8b q) : z8b (q + 1) := by
 intro M hM j hj v0z v0l v7 v8 h0_0 h0_1z h0_1l h0_2 h0_3 r h R hR fr H hc
 obtain ⟨j, rfl⟩ : ∃ i, j = i + 1 := ⟨j - 1, by omega⟩
 rw [zho, hc]; clear hc
 rw [zj1] at h
 replace h := br h; rcases h with ⟨h1, h⟩ | ⟨h1, h⟩
 ·replace h := bn h; obtain ⟨h2, h⟩ := h
  replace h := ob h; obtain ⟨e1, h3, h⟩ := h
  replace h := ob h; obtain ⟨r2, h4, h⟩ := h
  replace h4 := z75 q (M + 5) (by omega) _ _ h4
  replace h := bb h; rcases h with ⟨h5', h5, h⟩ | ⟨h5', h5, h⟩
  ·cases h; subst hR; simp only [z8c, simprocAttr, *]
  ·replace h := zbbx M (by omega) j (by omega) _ _ _ _ _ _ _ _ _ _ h R hR
   simp only [z8c, simprocAttr, *]
 ·cases h; subst hR; simp only [z8c, simprocAttr, *]
theorem z8e : ∀ q, z8b q
 | 0 => by intro M hM j hj; intros; rename_i h _ _ _ _ _; cases h
 | q + 1 => by have i0 := z8e q; exact z8d q i0
theorem z8f : ∀ (q M : Nat), 8 * q ≤ M → ∀ (v0z : Bool), ∀ (v0l : List Int), ∀ (h0_0 : Int), ∀ (h0_1z : Bool), ∀ (h0_1l : List Int), ∀ (h0_2 : Bool), ∀ (h0_3 r : Int), zj2 q v0z v0l h0_0 h0_1z h0_1l h0_2 h0_3 = some r → (orc T (M + 6)).inl F.zl2 [(.sl v0z (List.map (V.int .i64) v0l)), (.fn F.zjy [])] [(.box [(.int .i64 h0_0), (.sl h0_1z (List.map (V.int .i64) h0_1l)), (.bool h0_2), (.int .i64 h0_3)])] = (some ([(.int .i64 r)], [(.box [(.int .i64 h0_0), (.sl h0_1z (List.map (V.int .i64) h0_1l)), (.bool h0_2), (.int .i64 h0_3)])]) : Option (List V × Hp)) := by
 intro q M hM v0z v0l h0_0 h0_1z h0_1l h0_2 h0_3 r h
 rcases q with _ | q
 ·cases h
 have zbbx := (z8e q)
 generalize hR : (some ([(.int .i64 r)], [(.box [(.int .i64 h0_0), (.sl h0_1z (List.map (V.int .i64) h0_1l)), (.bool h0_2), (.int .i64 h0_3)])]) : Option (List V × Hp)) = R
 rw [z5t (n := M + 5)]
 rw [zj2] at h
 replace h := zbbx M (by omega) (M + 5) (by omega) _ _ _ _ _ _ _ _ _ _ h R hR
 simp only [z8c, simprocAttr, *]
def z8g := And.intro @kk <| And.intro @ke <| And.intro @kn <| And.intro @z3p <| And.intro @z4u <| And.intro @z44 <| And.intro @z5s <| And.intro @z4v <| And.intro @z4w <| @z3r
theorem z8h : ∀ (q N : Nat), 8 * q ≤ N → ∀ (a0 : zjq), ∀ (r : Bool), zj3 q a0 = some r → (orc T N).deep F.zj3 [zjq.enc a0] = some [V.bool r] := by
 intro q N hM a0 r h
 rcases q with _ | q
 ·cases h
 obtain ⟨M, rfl⟩ : ∃ M, N = M + 8 := ⟨N - 8, by omega⟩
 generalize hR : some [V.bool r] = R
 rw [zhy, z1e, y6, zhw zpq rfl]
 rw [zj3] at h
 replace h := br h; rcases h with ⟨h1, h⟩ | ⟨h1, h⟩
 ·cases h; subst hR; simp only [z8g, simprocAttr, *]
 ·replace h := br h; rcases h with ⟨h2, h⟩ | ⟨h2, h⟩
  ·cases h; subst hR; simp only [z8g, simprocAttr, *]
  ·replace h := bb h; rcases h with ⟨h3', h3, h⟩ | ⟨h3', h3, h⟩
   ·replace h := ob h; obtain ⟨r1, h4, h⟩ := h
    replace h4 := z8f q M (by omega) _ _ _ _ _ _ _ _ h4
    try simp only [kf, simprocAttr] at h4
    replace h := br h; rcases h with ⟨h5, h⟩ | ⟨h5, h⟩
    ·replace h := br h; rcases h with ⟨h6, h⟩ | ⟨h6, h⟩
     ·cases h; subst hR; simp only [z8g, simprocAttr, *]
     ·cases h; subst hR; simp only [z8g, simprocAttr, *]
    ·replace h := br h; rcases h with ⟨h7, h⟩ | ⟨h7, h⟩
     ·replace h := br h; rcases h with ⟨h8, h⟩ | ⟨h8, h⟩
      ·cases h; subst hR; simp only [z8g, simprocAttr, *]
      ·cases h; subst hR; simp only [z8g, simprocAttr, *]
     ·replace h := br h; rcases h with ⟨h9, h⟩ | ⟨h9, h⟩
      ·replace h := br h; rcases h with ⟨h10, h⟩ | ⟨h10, h⟩
       ·cases h; subst hR; simp only [z8g, simprocAttr, *]
       ·cases h; subst hR; simp only [z8g, simprocAttr, *]
      ·replace h := br h; rcases h with ⟨h11, h⟩ | ⟨h11, h⟩
       ·replace h := br h; rcases h with ⟨h12, h⟩ | ⟨h12, h⟩
        ·cases h; subst hR; simp only [z8g, simprocAttr, *]
        ·cases h; subst hR; simp only [z8g, simprocAttr, *]
       ·replace h := br h; rcases h with ⟨h13, h⟩ | ⟨h13, h⟩
        ·replace h := ob h; obtain ⟨r2, h14, h⟩ := h
         replace h14 := z8a q (M + 7) (by omega) _ _ _ h14
         try simp only [kf, simprocAttr] at h14
         cases h; subst hR; simp only [z8g, simprocAttr, *]
        ·replace h := br h; rcases h with ⟨h15, h⟩ | ⟨h15, h⟩
         ·replace h := ob h; obtain ⟨r3, h16, h⟩ := h
          replace h16 := z8a q (M + 7) (by omega) _ _ _ h16
          try simp only [kf, simprocAttr] at h16
          cases h; subst hR; simp only [z8g, simprocAttr, *]
         ·cases h; subst hR; simp only [z8g, simprocAttr, *]
   ·replace h := br h; rcases h with ⟨h17, h⟩ | ⟨h17, h⟩
    ·replace h := ob h; obtain ⟨r4, h18, h⟩ := h
     replace h18 := z8f q M (by omega) _ _ _ _ _ _ _ _ h18
     try simp only [kf, simprocAttr] at h18
     replace h := br h; rcases h with ⟨h19, h⟩ | ⟨h19, h⟩
     ·replace h := br h; rcases h with ⟨h20, h⟩ | ⟨h20, h⟩
      ·cases h; subst hR; simp only [z8g, simprocAttr, *]
      ·cases h; subst hR; simp only [z8g, simprocAttr, *]
     ·replace h := br h; rcases h with ⟨h21, h⟩ | ⟨h21, h⟩
      ·replace h := br h; rcases h with ⟨h22, h⟩ | ⟨h22, h⟩
       ·cases h; subst hR; simp only [z8g, simprocAttr, *]
       ·cases h; subst hR; simp only [z8g, simprocAttr, *]
      ·replace h := br h; rcases h with ⟨h23, h⟩ | ⟨h23, h⟩
       ·replace h := br h; rcases h with ⟨h24, h⟩ | ⟨h24, h⟩
        ·cases h; subst hR; simp only [z8g, simprocAttr, *]
        ·cases h; subst hR; simp only [z8g, simprocAttr, *]
       ·replace h := br h; rcases h with ⟨h25, h⟩ | ⟨h25, h⟩
        ·replace h := br h; rcases h with ⟨h26, h⟩ | ⟨h26, h⟩
         ·cases h; subst hR; simp only [z8g, simprocAttr, *]
         ·cases h; subst hR; simp only [z8g, simprocAttr, *]
        ·replace h := br h; rcases h with ⟨h27, h⟩ | ⟨h27, h⟩
         ·replace h := ob h; obtain ⟨r5, h28, h⟩ := h
          replace h28 := z8a q (M + 7) (by omega) _ _ _ h28
          try simp only [kf, simprocAttr] at h28
          cases h; subst hR; simp only [z8g, simprocAttr, *]
         ·replace h := br h; rcases h with ⟨h29, h⟩ | ⟨h29, h⟩
          ·replace h := ob h; obtain ⟨r6, h30, h⟩ := h
           replace h30 := z8a q (M + 7) (by omega) _ _ _ h30
           try simp only [kf, simprocAttr] at h30
           cases h; subst hR; simp only [z8g, simprocAttr, *]
          ·cases h; subst hR; simp only [z8g, simprocAttr, *]
    ·cases h; subst hR; simp only [z8g, simprocAttr, *]
def z8i := And.intro @kk <| And.intro @ke <| And.intro @kn <| And.intro @z46 <| @z48
theorem z8j : ∀ (q N : Nat), 8 * q ≤ N → ∀ (a0 : zjr), ∀ (r : Bool), zj4 q a0 = some r → (orc T N).deep F.zj4 [zjr.enc a0] = some [V.bool r] := by
 intro q N hM a0 r h
 rcases q with _ | q
 ·cases h
 obtain ⟨M, rfl⟩ : ∃ M, N = M + 8 := ⟨N - 8, by omega⟩
 generalize hR : some [V.bool r] = R
 rw [zhy, z1w, y6, zhw zt0 rfl]
 rw [zj4] at h
 replace h := br h; rcases h with ⟨h1, h⟩ | ⟨h1, h⟩
 ·replace h := br h; rcases h with ⟨h2, h⟩ | ⟨h2, h⟩
  ·replace h := br h; rcases h with ⟨h3, h⟩ | ⟨h3, h⟩
   ·replace h := br h; rcases h with ⟨h4, h⟩ | ⟨h4, h⟩
    ·replace h := br h; rcases h with ⟨h5, h⟩ | ⟨h5, h⟩
     ·cases h; subst hR; simp only [z8i, simprocAttr, *]
     ·cases h; subst hR; simp only [z8i, simprocAttr, *]
    ·cases h; subst hR; simp only [z8i, simprocAttr, *]
   ·cases h; subst hR; simp only [z8i, simprocAttr, *]
  ·cases h; subst hR; simp only [z8i, simprocAttr, *]
 ·cases h; subst hR; simp only [z8i, simprocAttr, *]
def z8k (q : Nat) : Prop := ∀ (M : Nat) (hM : 8 * q ≤ M) (j : Nat) (hj : q ≤ j) (v0z : Bool) (v0l : List zjr) (v5z : Bool) (v5l : List zjr) (v6 v7 : Int) (r : Bool) (_ : zj5 q v0z v0l v5z v5l v6 v7 = some r) (R : Option (List V)) (_ : some [V.bool r] = R) (fr : Fr) (H : Hp) (_ : canon 0 [0, 5, 6, 7] fr H = ([(0, (.sl v0z (List.map zjr.enc v0l))), (5, (.sl v5z (List.map zjr.enc v5l))), (6, (.int .i64 v6)), (7, (.int .i64 v7))], [])), fin zp0 (unw T (orc T (M + 7)) (M + 7) 0 [.blk 0, .code zpx] (iter 0 [0, 5, 6, 7] (exec T (orc T (M + 7)) (M + 7) 0 zpu) j fr H)) = R
def z8l := And.intro @kk <| And.intro @ke <| And.intro @kn <| And.intro @z3s <| And.intro @z47 <| @z3u
theorem z8m (q : Nat) (zbby : z8k q) : z8k (q + 1) := by
 intro M hM j hj v0z v0l v5z v5l v6 v7 r h R hR fr H hc
 obtain ⟨j, rfl⟩ : ∃ i, j = i + 1 := ⟨j - 1, by omega⟩
 rw [zho, hc]; clear hc
 rw [zj5] at h
 replace h := br h; rcases h with ⟨h1, h⟩ | ⟨h1, h⟩
 ·replace h := bn h; obtain ⟨h2, h⟩ := h
  replace h := ob h; obtain ⟨e1, h3, h⟩ := h
  replace h := ob h; obtain ⟨r2, h4, h⟩ := h
  replace h4 := z8j q (M + 7) (by omega) _ _ h4
  try simp only [kf, simprocAttr] at h4
  replace h := bb h; rcases h with ⟨h5', h5, h⟩ | ⟨h5', h5, h⟩
  ·replace h := br h; rcases h with ⟨h6, h⟩ | ⟨h6, h⟩
   ·replace h := bn h; obtain ⟨h7, h⟩ := h
    replace h := ob h; obtain ⟨e3, h8, h⟩ := h
    replace h := br h; rcases h with ⟨h9, h⟩ | ⟨h9, h⟩
    ·cases h; subst hR; simp only [z8l, simprocAttr, *]
    ·replace h := zbby M (by omega) j (by omega) _ _ _ _ _ _ _ h R hR
     simp only [z8l, simprocAttr, *]
   ·replace h := zbby M (by omega) j (by omega) _ _ _ _ _ _ _ h R hR
    simp only [z8l, simprocAttr, *]
  ·cases h; subst hR; simp only [z8l, simprocAttr, *]
 ·cases h; subst hR; simp only [z8l, simprocAttr, *]
theorem z8n : ∀ q, z8k q
 | 0 => by intro M hM j hj; intros; rename_i h _ _ _ _ _; cases h
 | q + 1 => by have i0 := z8n q; exact z8m q i0
theorem z8o : ∀ (q N : Nat), 8 * q ≤ N → ∀ (a0 : (Sl zjr)), ∀ (r : Bool), zj6 q a0 = some r → (orc T N).deep F.zj6 [(Sl.enc zjr.enc) a0] = some [V.bool r] := by
 intro q N hM a0 r h
 rcases q with _ | q
 ·cases h
 obtain ⟨M, rfl⟩ : ∃ M, N = M + 8 := ⟨N - 8, by omega⟩
 have zbby := (z8n q)
 generalize hR : some [V.bool r] = R
 rw [zhy, z1f, y6, zhw zp0 rfl]
 rw [zj6] at h
 replace h := zbby M (by omega) (M + 7) (by omega) _ _ _ _ _ _ _ h R hR
 simp only [z8l, simprocAttr, *]
def z8p := And.intro @kk <| And.intro @ke <| And.intro @kn <| And.intro @z2m <| And.intro @z3q <| And.intro @z3t <| @z2o
theorem z8q : ∀ (q N : Nat), 8 * q ≤ N → ∀ (a0 : zjs), ∀ (r : Bool), zj7 q a0 = some r → (orc T N).deep F.zj7 [zjs.enc a0] = some [V.bool r] := by
 intro q N hM a0 r h
 rcases q with _ | q
 ·cases h
 obtain ⟨M, rfl⟩ : ∃ M, N = M + 8 := ⟨N - 8, by omega⟩
 generalize hR : some [V.bool r] = R
 rw [zhy, z01, y6, zhw zm9 rfl]
 rw [zj7] at h
 replace h := br h; rcases h with ⟨h1, h⟩ | ⟨h1, h⟩
 ·replace h := br h; rcases h with ⟨h2, h⟩ | ⟨h2, h⟩
  ·replace h := ob h; obtain ⟨r1, h3, h⟩ := h
   replace h3 := z8h q (M + 7) (by omega) _ _ h3
   try simp only [kf, simprocAttr] at h3
   replace h := bb h; rcases h with ⟨h4', h4, h⟩ | ⟨h4', h4, h⟩
   ·replace h := ob h; obtain ⟨r2, h5, h⟩ := h
    replace h5 := z8o q (M + 7) (by omega) _ _ h5
    try simp only [kf, simprocAttr] at h5
    cases h; subst hR; simp only [z8p, simprocAttr, *]
   ·cases h; subst hR; simp only [z8p, simprocAttr, *]
  ·cases h; subst hR; simp only [z8p, simprocAttr, *]
 ·cases h; subst hR; simp only [z8p, simprocAttr, *]
def z8r (q : Nat) : Prop := ∀ (M : Nat) (hM : 8 * q ≤ M) (j : Nat) (hj : q ≤ j) (v0z : Bool) (v0l : List zjr) (v7 v8 h0_0 r : Int) (_ : zj8 q v0z v0l v7 v8 h0_0 = some r) (R : Option (List V × Hp)) (_ : (some ([(.int .i64 r)], [(.box [(.int .i64 h0_0)])]) : Option (List V × Hp)) = R) (fr : Fr) (H : Hp) (_ : canon 1 [0, 1, 7, 8] fr H = ([(0, (.sl v0z (List.map zjr.enc v0l))), (1, (.fn F.zlz [(.ptr 0 0)])), (7, (.int .i64 v7)), (8, (.int .i64 v8))], [(.box [(.int .i64 h0_0)])])), finI 1 false [.tmp 4] (unw T (orc T (M + 6)) (M + 6) 1 [.blk 0, .code zsu] (iter 1 [0, 1, 7, 8] (exec T (orc T (M + 6)) (M + 6) 1 zsr) j fr H)) = R
def z8s := And.intro @kk <| And.intro @ke <| And.intro @kn <| And.intro @z4g <| And.intro @z4r <| And.intro @z4s <| @z4t
theorem z8t (q : Nat) (zbbz : z8r q) : z8r (q + 1) := by
 intro M hM j hj v0z v0l v7 v8 h0_0 r h R hR fr H hc
 obtain ⟨j, rfl⟩ : ∃ i, j = i + 1 := ⟨j - 1, by omega⟩
 rw [zho, hc]; clear hc
 rw [zj8] at h
 replace h := br h; rcases h with ⟨h1, h⟩ | ⟨h1, h⟩
 ·replace h := bn h; obtain ⟨h2, h⟩ := h
  replace h := ob h; obtain ⟨e1, h3, h⟩ := h
  replace h := br h; rcases h with ⟨h4, h⟩ | ⟨h4, h⟩
  ·cases h; subst hR; simp only [z8s, simprocAttr, *]
  ·replace h := zbbz M (by omega) j (by omega) _ _ _ _ _ _ h R hR
   simp only [z8s, simprocAttr, *]
 ·cases h; subst hR; simp only [z8s, simprocAttr, *]
theorem z8u : ∀ q, z8r q
 | 0 => by intro M hM j hj; intros; rename_i h _ _ _ _ _; cases h
 | q + 1 => by have i0 := z8u q; exact z8t q i0
theorem z8v : ∀ (q M : Nat), 8 * q ≤ M → ∀ (v0z : Bool), ∀ (v0l : List zjr), ∀ (h0_0 r : Int), zj9 q v0z v0l h0_0 = some r → (orc T (M + 7)).inl F.zlx [(.sl v0z (List.map zjr.enc v0l)), (.fn F.zlz [(.ptr 0 0)])] [(.box [(.int .i64 h0_0)])] = (some ([(.int .i64 r)], [(.box [(.int .i64 h0_0)])]) : Option (List V × Hp)) := by
 intro q M hM v0z v0l h0_0 r h
 rcases q with _ | q
 ·cases h
 have zbbz := (z8u q)
 generalize hR : (some ([(.int .i64 r)], [(.box [(.int .i64 h0_0)])]) : Option (List V × Hp)) = R
 rw [z4i (n := M + 6)]
 rw [zj9] at h
 replace h := zbbz M (by omega) (M + 6) (by omega) _ _ _ _ _ _ h R hR
 simp only [z8s, simprocAttr, *]
def z8w := And.intro @kk <| And.intro @ke <| And.intro @kn <| And.intro @z3a <| And.intro @z4h <| @z3c
theorem z8x : ∀ (q N : Nat), 8 * q ≤ N → ∀ (a0 : (Sl zjr)) (a1 : Int), ∀ (r : Int), zka q a0 a1 = some r → (orc T N).deep F.zka [(Sl.enc zjr.enc) a0, (V.int .i64) a1] = some [(V.int .i64) r] := by
 intro q N hM a0 a1 r h
 rcases q with _ | q
 ·cases h
 obtain ⟨M, rfl⟩ : ∃ M, N = M + 8 := ⟨N - 8, by omega⟩
 generalize hR : some [(V.int .i64) r] = R
 rw [zhy, z09, y6, zhw zot rfl]
 rw [zka] at h
 replace h := ob h; obtain ⟨r1, h1, h⟩ := h
 replace h1 := z8v q M (by omega) _ _ _ _ h1
 try simp only [kf, simprocAttr] at h1
 cases h; subst hR; simp only [z8w, simprocAttr, *]
def z8y (q : Nat) : Prop := ∀ (M : Nat) (hM : 8 * q ≤ M) (j : Nat) (hj : q ≤ j) (v0z : Bool) (v0l : List Int) (v1z : Bool) (v1l : List Int) (v5 r : Int) (_ : zkb q v0z v0l v1z v1l v5 = some r) (R : Option (List V)) (_ : some [(V.int .i64) r] = R) (fr : Fr) (H : Hp) (_ : canon 0 [0, 1, 5] fr H = ([(0, (.sl v0z (List.map (V.int .i64) v0l))), (1, (.sl v1z (List.map (V.int .i64) v1l))), (5, (.int .i64 v5))], [])), fin zoz (unw T (orc T (M + 7)) (M + 7) 0 [.blk 0, .code c_48_9] (iter 0 [0, 1, 5] (exec T (orc T (M + 7)) (M + 7) 0 c_48_7) j fr H)) = R
def z8z := And.intro @kk <| And.intro @ke <| And.intro @kn <| And.intro @z3g <| @z3i
theorem z80 (q : Nat) (zbb0 : z8y q) : z8y (q + 1) := by
 intro M hM j hj v0z v0l v1z v1l v5 r h R hR fr H hc
 obtain ⟨j, rfl⟩ : ∃ i, j = i + 1 := ⟨j - 1, by omega⟩
 rw [zho, hc]; clear hc
 rw [zkb] at h
 replace h := br h; rcases h with ⟨h1, h⟩ | ⟨h1, h⟩
 ·replace h := br h; rcases h with ⟨h2, h⟩ | ⟨h2, h⟩
  ·replace h := bn h; obtain ⟨h3, h⟩ := h
   replace h := ob h; obtain ⟨e1, h4, h⟩ := h
   replace h := ob h; obtain ⟨e2, h5, h⟩ := h
   replace h := br h; rcases h with ⟨h6, h⟩ | ⟨h6, h⟩
   ·replace h := zbb0 M (by omega) j (by omega) _ _ _ _ _ _ h R hR
    simp only [z8z, simprocAttr, *]
   ·cases h; subst hR; simp only [z8z, simprocAttr, *]
  ·cases h; subst hR; simp only [z8z, simprocAttr, *]
 ·cases h; subst hR; simp only [z8z, simprocAttr, *]
theorem z81 : ∀ q, z8y q
 | 0 => by intro M hM j hj; intros; rename_i h _ _ _ _ _; cases h
 | q + 1 => by have i0 := z81 q; exact z80 q i0
theorem z82 : ∀ (q N : Nat), 8 * q ≤ N → ∀ (a0 a1 : (Sl Int)), ∀ (r : Int), zkc q a0 a1 = some r → (orc T N).deep F.zkc [(Sl.enc (V.int .i64)) a0, (Sl.enc (V.int .i64)) a1] = some [(V.int .i64) r] := by
 intro q N hM a0 a1 r h
 rcases q with _ | q
 ·cases h
 obtain ⟨M, rfl⟩ : ∃ M, N = M + 8 := ⟨N - 8, by omega⟩
 have zbb0 := (z81 q)
 generalize hR : some [(V.int .i64) r] = R
 rw [zhy, z1b, y6, zhw zoz rfl]
 rw [zkc] at h
 replace h := zbb0 M (by omega) (M + 7) (by omega) _ _ _ _ _ _ h R hR
 simp only [z8z, simprocAttr, *]
def z83 (q : Nat) : Prop := ∀ (M : Nat) (hM : 8 * q ≤ M) (j : Nat) (hj : q ≤ j) (v0z : Bool) (v0l : List Int) (v1z : Bool) (v1l : List Int) (v5 r : Int) (_ : zkd q v0z v0l v1z v1l v5 = some r) (R : Option (List V)) (_ : some [(V.int .i64) r] = R) (fr : Fr) (H : Hp) (_ : canon 0 [0, 1, 5] fr H = ([(0, (.sl v0z (List.map (V.int .i64) v0l))), (1, (.sl v1z (List.map (V.int .i64) v1l))), (5, (.int .i64 v5))], [])), fin zo3 (unw T (orc T (M + 7)) (M + 7) 0 [.blk 0, .code c_49_9] (iter 0 [0, 1, 5] (exec T (orc T (M + 7)) (M + 7) 0 c_49_7) j fr H)) = R
def z84 := And.intro @kk <| And.intro @ke <| And.intro @kn <| And.intro @z3j <| @z3l
theorem z85 (q : Nat) (zbb1 : z83 q) : z83 (q + 1) := by
 intro M hM j hj v0z v0l v1z v1l v5 r h R hR fr H hc
 obtain ⟨j, rfl⟩ : ∃ i, j = i + 1 := ⟨j - 1, by omega⟩
 rw [zho, hc]; clear hc
 rw [zkd] at h
 replace h := br h; rcases h with ⟨h1, h⟩ | ⟨h1, h⟩
 ·replace h := br h; rcases h with ⟨h2, h⟩ | ⟨h2, h⟩
  ·replace h := bn h; obtain ⟨h3, h⟩ := h
   replace h := ob h; obtain ⟨e1, h4, h⟩ := h
   replace h := bn h; obtain ⟨h5, h⟩ := h
   replace h := ob h; obtain ⟨e2, h6, h⟩ := h
   replace h := br h; rcases h with ⟨h7, h⟩ | ⟨h7, h⟩
   ·replace h := zbb1 M (by omega) j (by omega) _ _ _ _ _ _ h R hR
    simp only [z84, simprocAttr, *]
   ·cases h; subst hR; simp only [z84, simprocAttr, *]
  ·cases h; subst hR; simp only [z84, simprocAttr, *]
 ·cases h; subst hR; simp only [z84, simprocAttr, *]
theorem z86 : ∀ q, z83 q
 | 0 => by intro M hM j hj; intros; rename_i h _ _ _ _ _; cases h
 | q + 1 => by have i0 := z86 q; exact z85 q i0
theorem z87 : ∀ (q N : Nat), 8 * q ≤ N → ∀ (a0 a1 : (Sl Int)), ∀ (r : Int), zke q a0 a1 = some r → (orc T N).deep F.zke [(Sl.enc (V.int .i64)) a0, (Sl.enc (V.int .i64)) a1] = some [(V.int .i64) r] := by
 intro q N hM a0 a1 r h
 rcases q with _ | q
 ·cases h
 obtain ⟨M, rfl⟩ : ∃ M, N = M + 8 := ⟨N - 8, by omega⟩
 have zbb1 := (z86 q)
 generalize hR : some [(V.int .i64) r] = R
 rw [zhy, z1c, y6, zhw zo3 rfl]
 rw [zke] at h
 replace h := zbb1 M (by omega) (M + 7) (by omega) _ _ _ _ _ _ h R hR
 simp only [z84, simprocAttr, *]
def z88 := And.intro @kk <| And.intro @ke <| And.intro @kn <| And.intro @z3m <| @z3o
theorem z89 : ∀ (q N : Nat), 8 * q ≤ N → ∀ (a0 : (Sl Int)), ∀ (r : (Ow Int)), zkf q a0 = some r → (orc T N).deep F.zkf [(Sl.enc (V.int .i64)) a0] = some [(Ow.enc 1 (V.int .i64)) r] := by
 intro q N hM a0 r h
 rcases q with _ | q
 ·cases h
 obtain ⟨M, rfl⟩ : ∃ M, N = M + 8 := ⟨N - 8, by omega⟩
 generalize hR : some [(Ow.enc 1 (V.int .i64)) r] = R
 rw [zhy, z1d, y6, zhw zo5 rfl]
 rw [zkf] at h
 replace h := bb h; rcases h with ⟨h1', h1, h⟩ | ⟨h1', h1, h⟩
 ·cases h; subst hR; simp only [z88, simprocAttr, *]
 ·replace h := bn h; obtain ⟨h2, h⟩ := h
  cases h; subst hR; simp only [z88, simprocAttr, *]
def z9a (q : Nat) : Prop := ∀ (M : Nat) (hM : 8 * q ≤ M) (j : Nat) (hj : q ≤ j) (v0z : Bool) (v0l : List zjr) (v7 v8 h0_0 h0_1 : Int) (h0_2z : Bool) (h0_2l : List Int) (h0_3 : Bool) (h0_4 : Int) (h0_5z : Bool) (h0_5l : List zjr) (h1_0 h1_1 : Int) (h1_2z : Bool) (h1_2l : List Int) (h1_3 : Bool) (h1_4 : Int) (h1_5z : Bool) (h1_5l : List zjr) (r : Int) (_ : zkg q v0z v0l v7 v8 h0_0 h0_1 h0_2z h0_2l h0_3 h0_4 h0_5z h0_5l h1_0 h1_1 h1_2z h1_2l h1_3 h1_4 h1_5z h1_5l = some r) (R : Option (List V × Hp)) (_ : (some ([(.int .i64 r)], [(.box [(.int .i64 h0_0), (.int .i64 h0_1), (.sl h0_2z (List.map (V.int .i64) h0_2l)), (.bool h0_3), (.int .i64 h0_4), (.sl h0_5z (List.map zjr.enc h0_5l))]), (.box [(.int .i64 h1_0), (.int .i64 h1_1), (.sl h1_2z (List.map (V.int .i64) h1_2l)), (.bool h1_3), (.int .i64 h1_4), (.sl h1_5z (List.map zjr.enc h1_5l))]), (.box [(.int .i64 0), (.int .i64 0), (.int .i64 0), (.int .i64 0), (.sl true []), (.bool false), (.int .i64 0), (.sl true [])])]) : Option (List V × Hp)) = R) (fr : Fr) (H : Hp) (_ : canon 3 [0, 1, 7, 8] fr H = ([(0, (.sl v0z (List.map zjr.enc v0l))), (1, (.fn F.zlt [(.ptr 1 0)])), (7, (.int .i64 v7)), (8, (.int .i64 v8))], [(.box [(.int .i64 h0_0), (.int .i64 h0_1), (.sl h0_2z (List.map (V.int .i64) h0_2l)), (.bool h0_3), (.int .i64 h0_4), (.sl h0_5z (List.map zjr.enc h0_5l))]), (.box [(.int .i64 h1_0), (.int .i64 h1_1), (.sl h1_2z (List.map (V.int .i64) h1_2l)), (.bool h1_3), (.int .i64 h1_4), (.sl h1_5z (List.map zjr.enc h1_5l))]), (.box [(.int .i64 0), (.int .i64 0), (.int .i64 0), (.int .i64 0), (.sl true []), (.bool false), (.int .i64 0), (.sl true [])])])), finI 3 false [.tmp 4] (unw T (orc T (M + 5)) (M + 5) 3 [.blk 0, .code zsu] (iter 3 [0, 1, 7, 8] (exec T (orc T (M + 5)) (M + 5) 3 zsr) j fr H)) = R
def z9b := And.intro @kk <| And.intro @ke <| And.intro @kn <| And.intro @z27 <| And.intro @z4g <| And.intro @z3b <| And.intro @z28 <| @z29
theorem z9c (q : Nat) (zbb2 : z9a q) : z9a (q + 1) := by
 intro M hM j hj v0z v0l v7 v8 h0_0 h0_1 h0_2z h0_2l h0_3 h0_4 h0_5z h0_5l h1_0 h1_1 h1_2z h1_2l h1_3 h1_4 h1_5z h1_5l r h R hR fr H hc
 obtain ⟨j, rfl⟩ : ∃ i, j = i + 1 := ⟨j - 1, by omega⟩
 rw [zho, hc]; clear hc
 rw [zkg] at h
 replace h := br h; rcases h with ⟨h1, h⟩ | ⟨h1, h⟩
 ·replace h := bn h; obtain ⟨h2, h⟩ := h
  replace h := ob h; obtain ⟨e1, h3, h⟩ := h
  replace h := ob h; obtain ⟨r2, h4, h⟩ := h
  replace h4 := z8x q (M + 4) (by omega) _ _ _ h4
  try simp only [kf, simprocAttr] at h4
  replace h := br h; rcases h with ⟨h5, h⟩ | ⟨h5, h⟩
  ·cases h; subst hR; simp only [z9b, simprocAttr, *]
  ·replace h := zbb2 M (by omega) j (by omega) _ _ _ _ _ _ _ _ _ _ _ _ _ _ _ _ _ _ _ _ _ h R hR
   simp only [z9b, simprocAttr, *]
 ·cases h; subst hR; simp only [z9b, simprocAttr, *]
theorem z9d : ∀ q, z9a q
 | 0 => by intro M hM j hj; intros; rename_i h _ _ _ _ _; cases h
 | q + 1 => by have i0 := z9d q; exact z9c q i0
theorem z9e : ∀ (q M : Nat), 8 * q ≤ M → ∀ (v0z : Bool), ∀ (v0l : List zjr), ∀ (h0_0 h0_1 : Int), ∀ (h0_2z : Bool), ∀ (h0_2l : List Int), ∀ (h0_3 : Bool), ∀ (h0_4 : Int), ∀ (h0_5z : Bool), ∀ (h0_5l : List zjr), ∀ (h1_0 h1_1 : Int), ∀ (h1_2z : Bool), ∀ (h1_2l : List Int), ∀ (h1_3 : Bool), ∀ (h1_4 : Int), ∀ (h1_5z : Bool), ∀ (h1_5l : List zjr), ∀ (r : Int), zkh q v0z v0l h0_0 h0_1 h0_2z h0_2l h0_3 h0_4 h0_5z h0_5l h1_0 h1_1 h1_2z h1_2l h1_3 h1_4 h1_5z h1_5l = some r → (orc T (M + 6)).inl F.zlx [(.sl v0z (List.map zjr.enc v0l)), (.fn F.zlt [(.ptr 1 0)])] [(.box [(.int .i64 h0_0), (.int .i64 h0_1), (.sl h0_2z (List.map (V.int .i64) h0_2l)), (.bool h0_3), (.int .i64 h0_4), (.sl h0_5z (List.map zjr.enc h0_5l))]), (.box [(.int .i64 h1_0), (.int .i64 h1_1), (.sl h1_2z (List.map (V.int .i64) h1_2l)), (.bool h1_3), (.int .i64 h1_4), (.sl h1_5z (List.map zjr.enc h1_5l))]), (.box [(.int .i64 0), (.int .i64 0), (.int .i64 0), (.int .i64 0), (.sl true []), (.bool false), (.int .i64 0), (.sl true [])])] = (some ([(.int .i64 r)], [(.box [(.int .i64 h0_0), (.int .i64 h0_1), (.sl h0_2z (List.map (V.int .i64) h0_2l)), (.bool h0_3), (.int .i64 h0_4), (.sl h0_5z (List.map zjr.enc h0_5l))]), (.box [(.int .i64 h1_0), (.int .i64 h1_1), (.sl h1_2z (List.map (V.int .i64) h1_2l)), (.bool h1_3), (.int .i64 h1_4), (.sl h1_5z (List.map zjr.enc h1_5l))]), (.box [(.int .i64 0), (.int .i64 0), (.int .i64 0), (.int .i64 0), (.sl true []), (.bool false), (.int .i64 0), (.sl true [])])]) : Option (List V × Hp)) := by
 intro q M hM v0z v0l h0_0 h0_1 h0_2z h0_2l h0_3 h0_4 h0_5z h0_5l h1_0 h1_1 h1_2z h1_2l h1_3 h1_4 h1_5z h1_5l r h
 rcases q with _ | q
 ·cases h
 have zbb2 := (z9d q)
 generalize hR : (some ([(.int .i64 r)], [(.box [(.int .i64 h0_0), (.int .i64 h0_1), (.sl h0_2z (List.map (V.int .i64) h0_2l)), (.bool h0_3), (.int .i64 h0_4), (.sl h0_5z (List.map zjr.enc h0_5l))]), (.box [(.int .i64 h1_0), (.int .i64 h1_1), (.sl h1_2z (List.map (V.int .i64) h1_2l)), (.bool h1_3), (.int .i64 h1_4), (.sl h1_5z (List.map zjr.enc h1_5l))]), (.box [(.int .i64 0), (.int .i64 0), (.int .i64 0), (.int .i64 0), (.sl true []), (.bool false), (.int .i64 0), (.sl true [])])]) : Option (List V × Hp)) = R
 rw [z4i (n := M + 5)]
 rw [zkh] at h
 replace h := zbb2 M (by omega) (M + 5) (by omega) _ _ _ _ _ _ _ _ _ _ _ _ _ _ _ _ _ _ _ _ _ h R hR
 simp only [z9b, simprocAttr, *]
def z9f (q : Nat) : Prop := ∀ (M : Nat) (hM : 8 * q ≤ M) (j : Nat) (hj : q ≤ j) (v89z : Bool) (v89l : List zjr) (v90 v91 h0_0 h0_1 : Int) (h0_2z : Bool) (h0_2l : List Int) (h0_3 : Bool) (h0_4 : Int) (h0_5z : Bool) (h0_5l : List zjr) (h2_0 h2_1 h2_2 h2_3 : Int) (h2_5 : Bool) (h2_6 : Int) (h3z : Bool) (h3l : List Int) (h3x : Bool) (r : zjt × Int) (_ : zkj q v89z v89l v90 v91 h0_0 h0_1 h0_2z h0_2l h0_3 h0_4 h0_5z h0_5l h2_0 h2_1 h2_2 h2_3 h2_5 h2_6 h3z h3l h3x = some r) (R : Option (List V)) (_ : some [zjt.enc r.1, (V.int .i64) r.2] = R) (fr : Fr) (H : Hp) (_ : canon 0 [2, 4, 7, 89, 90, 91] fr H = ([(2, (.ptr 0 0)), (4, (.ptr 1 0)), (7, (.ptr 2 0)), (89, (.sl v89z (List.map zjr.enc v89l))), (90, (.int .i64 v90)), (91, (.int .i64 v91))], [(.box [(.int .i64 h0_0), (.int .i64 h0_1), (.sl h0_2z (List.map (V.int .i64) h0_2l)), (.bool h0_3), (.int .i64 h0_4), (.sl h0_5z (List.map zjr.enc h0_5l))]), (.box [(.int .i64 0), (.int .i64 0), (.int .i64 0), (.int .i64 0), (.sl true []), (.bool false), (.int .i64 0), (.sl true [])]), (.box [(.int .i64 h2_0), (.int .i64 h2_1), (.int .i64 h2_2), (.int .i64 h2_3), (.vw 3 0 0 h3l.length 1), (.bool h2_5), (.int .i64 h2_6), (.sl true [])]), (.row 0 h3z 1 (List.map (V.int .i64) h3l) h3x)])), fin zm7 (unw T (orc T (M + 7)) (M + 7) 0 [.blk 1, .code zmw] (iter 0 [2, 4, 7, 89, 90, 91] (exec T (orc T (M + 7)) (M + 7) 0 zmt) j fr H)) = R
def z9g (q : Nat) : Prop := ∀ (M : Nat) (hM : 8 * q ≤ M) (j : Nat) (hj : q ≤ j) (v89z : Bool) (v89l : List zjr) (v90 v91 h0_0 h0_1 : Int) (h0_2z : Bool) (h0_2l : List Int) (h0_3 : Bool) (h0_4 : Int) (h0_5z : Bool) (h0_5l : List zjr) (h2_0 h2_1 h2_2 h2_3 : Int) (h2_5 : Bool) (h2_6 : Int) (h3z : Bool) (h3l : List Int) (h3x : Bool) (h4l : List zjr) (r : zjt × Int) (_ : zki q v89z v89l v90 v91 h0_0 h0_1 h0_2z h0_2l h0_3 h0_4 h0_5z h0_5l h2_0 h2_1 h2_2 h2_3 h2_5 h2_6 h3z h3l h3x h4l = some r) (R : Option (List V)) (_ : some [zjt.enc r.1, (V.int .i64) r.2] = R) (fr : Fr) (H : Hp) (_ : canon 0 [2, 4, 7, 89, 90, 91] fr H = ([(2, (.ptr 0 0)), (4, (.ptr 1 0)), (7, (.ptr 2 0)), (89, (.sl v89z (List.map zjr.enc v89l))), (90, (.int .i64 v90)), (91, (.int .i64 v91))], [(.box [(.int .i64 h0_0), (.int .i64 h0_1), (.sl h0_2z (List.map (V.int .i64) h0_2l)), (.bool h0_3), (.int .i64 h0_4), (.sl h0_5z (List.map zjr.enc h0_5l))]), (.box [(.int .i64 0), (.int .i64 0), (.int .i64 0), (.int .i64 0), (.sl true []), (.bool false), (.int .i64 0), (.sl true [])]), (.box [(.int .i64 h2_0), (.int .i64 h2_1), (.int .i64 h2_2), (.int .i64 h2_3), (.vw 3 0 0 h3l.length 1), (.bool h2_5), (.int .i64 h2_6), (.vw 4 0 0 h4l.length 1)]), (.row 0 h3z 1 (List.map (V.int .i64) h3l) h3x), (.row 0 false 3 (List.map zjr.enc h4l) true)])), fin zm7 (unw T (orc T (M + 7)) (M + 7) 0 [.blk 1, .code zmw] (iter 0 [2, 4, 7, 89, 90, 91] (exec T (orc T (M + 7)) (M + 7) 0 zmt) j fr H)) = R
def z9h := And.intro @kk <| And.intro @ke <| And.intro @kn <| And.intro @z2j <| And.intro @z3d <| And.intro @z2n <| And.intro @z3b <| And.intro @z3h <| And.intro @z3k <| And.intro @z3n <| And.intro @z4h <| And.intro @z3e <| And.intro @z3f <| @z2l
theorem z9i (q : Nat) (zbb3 : z9f q) (zbb4 : z9g q) : z9f (q + 1) := by
 intro M hM j hj v89z v89l v90 v91 h0_0 h0_1 h0_2z h0_2l h0_3 h0_4 h0_5z h0_5l h2_0 h2_1 h2_2 h2_3 h2_5 h2_6 h3z h3l h3x r h R hR fr H hc
 obtain ⟨j, rfl⟩ : ∃ i, j = i + 1 := ⟨j - 1, by omega⟩
 rw [zho, hc]; clear hc
 rw [zkj] at h
 replace h := br h; rcases h with ⟨h1, h⟩ | ⟨h1, h⟩
 ·replace h := bn h; obtain ⟨h2, h⟩ := h
  replace h := ob h; obtain ⟨e7, h3, h⟩ := h
  replace h := ob h; obtain ⟨r8, h4, h⟩ := h
  replace h4 := z8x q (M + 7) (by omega) _ _ _ h4
  try simp only [kf, simprocAttr] at h4
  replace h := br h; rcases h with ⟨h5, h⟩ | ⟨h5, h⟩
  ·replace h := zbb4 M (by omega) j (by omega) _ _ _ _ _ _ _ _ _ _ _ _ _ _ _ _ _ _ _ _ _ _ _ h R hR
   simp only [z9h, simprocAttr, *]
  ·replace h := bn h; obtain ⟨h6, h⟩ := h
   replace h := ob h; obtain ⟨e9, h7, h⟩ := h
   replace h := br h; rcases h with ⟨h8, h⟩ | ⟨h8, h⟩
   ·replace h := br h; rcases h with ⟨h9, h⟩ | ⟨h9, h⟩
    ·replace h := br h; rcases h with ⟨h10, h⟩ | ⟨h10, h⟩
     ·replace h := zbb3 M (by omega) j (by omega) _ _ _ _ _ _ _ _ _ _ _ _ _ _ _ _ _ _ _ _ _ _ h R hR
      simp only [z9h, simprocAttr, *]
     ·replace h := zbb4 M (by omega) j (by omega) _ _ _ _ _ _ _ _ _ _ _ _ _ _ _ _ _ _ _ _ _ _ _ h R hR
      simp only [z9h, simprocAttr, *]
    ·replace h := zbb4 M (by omega) j (by omega) _ _ _ _ _ _ _ _ _ _ _ _ _ _ _ _ _ _ _ _ _ _ _ h R hR
     simp only [z9h, simprocAttr, *]
   ·replace h := zbb4 M (by omega) j (by omega) _ _ _ _ _ _ _ _ _ _ _ _ _ _ _ _ _ _ _ _ _ _ _ h R hR
    simp only [z9h, simprocAttr, *]
 ·cases h; subst hR; simp only [z9h, simprocAttr, *]
theorem z9j (q : Nat) (zbb4 : z9g q) : z9g (q + 1) := by
 intro M hM j hj v89z v89l v90 v91 h0_0 h0_1 h0_2z h0_2l h0_3 h0_4 h0_5z h0_5l h2_0 h2_1 h2_2 h2_3 h2_5 h2_6 h3z h3l h3x h4l r h R hR fr H hc
 obtain ⟨j, rfl⟩ : ∃ i, j = i + 1 := ⟨j - 1, by omega⟩
 rw [zho, hc]; clear hc
 rw [zki] at h
 replace h := br h; rcases h with ⟨h1, h⟩ | ⟨h1, h⟩
 ·replace h := bn h; obtain ⟨h2, h⟩ := h
  replace h := ob h; obtain ⟨e10, h3, h⟩ := h
  replace h := ob h; obtain ⟨r11, h4, h⟩ := h
  replace h4 := z8x q (M + 7) (by omega) _ _ _ h4
  try simp only [kf, simprocAttr] at h4
  replace h := br h; rcases h with ⟨h5, h⟩ | ⟨h5, h⟩
  ·replace h := bn h; obtain ⟨h6, h⟩ := h
   replace h := zbb4 M (by omega) j (by omega) _ _ _ _ _ _ _ _ _ _ _ _ _ _ _ _ _ _ _ _ _ _ _ h R hR
   simp only [z9h, simprocAttr, *]
  ·replace h := bn h; obtain ⟨h7, h⟩ := h
   replace h := ob h; obtain ⟨e12, h8, h⟩ := h
   replace h := br h; rcases h with ⟨h9, h⟩ | ⟨h9, h⟩
   ·replace h := br h; rcases h with ⟨h10, h⟩ | ⟨h10, h⟩
    ·replace h := br h; rcases h with ⟨h11, h⟩ | ⟨h11, h⟩
     ·replace h := zbb4 M (by omega) j (by omega) _ _ _ _ _ _ _ _ _ _ _ _ _ _ _ _ _ _ _ _ _ _ _ h R hR
      simp only [z9h, simprocAttr, *]
     ·replace h := bn h; obtain ⟨h12, h⟩ := h
      replace h := zbb4 M (by omega) j (by omega) _ _ _ _ _ _ _ _ _ _ _ _ _ _ _ _ _ _ _ _ _ _ _ h R hR
      simp only [z9h, simprocAttr, *]
    ·replace h := bn h; obtain ⟨h13, h⟩ := h
     replace h := zbb4 M (by omega) j (by omega) _ _ _ _ _ _ _ _ _ _ _ _ _ _ _ _ _ _ _ _ _ _ _ h R hR
     simp only [z9h, simprocAttr, *]
   ·replace h := bn h; obtain ⟨h14, h⟩ := h
    replace h := zbb4 M (by omega) j (by omega) _ _ _ _ _ _ _ _ _ _ _ _ _ _ _ _ _ _ _ _ _ _ _ h R hR
    simp only [z9h, simprocAttr, *]
 ·cases h; subst hR; simp only [z9h, simprocAttr, *]
theorem z9k : ∀ q, z9f q ∧ z9g q
 | 0 => by refine ⟨?_, ?_⟩ <;> (intro M hM j hj; intros; rename_i h _ _ _ _ _; cases h)
 | q + 1 => by have ⟨i0, i1⟩ := z9k q; exact ⟨z9i q i0 i1, z9j q i1⟩
theorem z9l : ∀ (q N : Nat), 8 * q ≤ N → ∀ (a0 a1 : zjs), ∀ (r : zjt × Int), zkk q a0 a1 = some r → (orc T N).deep F.zkk [zjs.enc a0, zjs.enc a1] = some [zjt.enc r.1, (V.int .i64) r.2] := by
 intro q N hM a0 a1 r h
 rcases q with _ | q
 ·cases h
 obtain ⟨M, rfl⟩ : ∃ M, N = M + 8 := ⟨N - 8, by omega⟩
 have zbb3 := (z9k q).1
 generalize hR : some [zjt.enc r.1, (V.int .i64) r.2] = R
 rw [zhy, z00, y6, zhw zm7 rfl]
 rw [zkk] at h
 replace h := ob h; obtain ⟨r1, h1, h⟩ := h
 replace h1 := z8q q (M + 7) (by omega) _ _ h1
 try simp only [kf, simprocAttr] at h1
 replace h := bb h; rcases h with ⟨h2', h2, h⟩ | ⟨h2', h2, h⟩
 ·replace h := ob h; obtain ⟨r2, h3, h⟩ := h
  replace h3 := z8q q (M + 7) (by omega) _ _ h3
  try simp only [kf, simprocAttr] at h3
  replace h := bb h; rcases h with ⟨h4', h4, h⟩ | ⟨h4', h4, h⟩
  ·replace h := br h; rcases h with ⟨h5, h⟩ | ⟨h5, h⟩
   ·replace h := br h; rcases h with ⟨h6, h⟩ | ⟨h6, h⟩
    ·cases h; subst hR; simp only [z9h, simprocAttr, *]
    ·replace h := ob h; obtain ⟨r3, h7, h⟩ := h
     replace h7 := z9e q M (by omega) _ _ _ _ _ _ _ _ _ _ _ _ _ _ _ _ _ _ _ h7
     try simp only [kf, simprocAttr] at h7
     replace h := br h; rcases h with ⟨h8, h⟩ | ⟨h8, h⟩
     ·cases h; subst hR; simp only [z9h, simprocAttr, *]
     ·replace h := ob h; obtain ⟨r4, h9, h⟩ := h
      replace h9 := z82 q (M + 7) (by omega) _ _ _ h9
      try simp only [kf, simprocAttr] at h9
      replace h := bn h; obtain ⟨h10, h⟩ := h
      replace h := bn h; obtain ⟨h11, h⟩ := h
      replace h := bn h; obtain ⟨h12, h⟩ := h
      replace h := ob h; obtain ⟨r5, h13, h⟩ := h
      replace h13 := z87 q (M + 7) (by omega) _ _ _ h13
      try simp only [kf, simprocAttr] at h13
      replace h := bn h; obtain ⟨h14, h⟩ := h
      replace h := bn h; obtain ⟨h15, h⟩ := h
      replace h := ob h; obtain ⟨r6, h16, h⟩ := h
      replace h16 := z89 q (M + 7) (by omega) _ _ h16
      try simp only [kf, simprocAttr] at h16
      replace h := zbb3 M (by omega) (M + 7) (by omega) _ _ _ _ _ _ _ _ _ _ _ _ _ _ _ _ _ _ _ _ _ _ h R hR
      simp only [z9h, simprocAttr, *]
   ·cases h; subst hR; simp only [z9h, simprocAttr, *]
  ·cases h; subst hR; simp only [z9h, simprocAttr, *]
 ·cases h; subst hR; simp only [z9h, simprocAttr, *]
def z9m (q : Nat) : Prop := ∀ (M : Nat) (hM : 8 * q ≤ M) (j : Nat) (hj : q ≤ j) (v0z : Bool) (v0l : List (Sl Int)) (v3 : Int) (v9z : Bool) (v9l : List (Sl Int)) (v10 v11 : Int) (r : (Ow Int)) (_ : zko q v0z v0l v3 v9z v9l v10 v11 = some r) (R : Option (List V)) (_ : some [(Ow.enc 1 (V.int .i64)) r] = R) (fr : Fr) (H : Hp) (_ : canon 0 [0, 3, 9, 10, 11] fr H = ([(0, (.sl v0z (List.map (Sl.enc (V.int .i64)) v0l))), (3, (.int .i64 v3)), (9, (.sl v9z (List.map (Sl.enc (V.int .i64)) v9l))), (10, (.int .i64 v10)), (11, (.int .i64 v11))], [])), fin zrl (unw T (orc T (M + 7)) (M + 7) 0 [.blk 0, .code zrh] (iter 0 [0, 3, 9, 10, 11] (exec T (orc T (M + 7)) (M + 7) 0 zq0) j fr H)) = R
def z9n (q : Nat) : Prop := ∀ (M : Nat) (hM : 8 * q ≤ M) (j : Nat) (hj : q ≤ j) (v6len : Nat) (v25z : Bool) (v25l : List (Sl Int)) (v26 v27 : Int) (h0z : Bool) (h0l : List Int) (r : (Ow Int)) (_ : zkl q v6len v25z v25l v26 v27 h0z h0l = some r) (R : Option (List V)) (_ : some [(Ow.enc 1 (V.int .i64)) r] = R) (fr : Fr) (H : Hp) (_ : canon 0 [6, 25, 26, 27] fr H = ([(6, (.vw 0 0 0 v6len 0)), (25, (.sl v25z (List.map (Sl.enc (V.int .i64)) v25l))), (26, (.int .i64 v26)), (27, (.int .i64 v27))], [(.row 0 h0z 1 (List.map (V.int .i64) h0l) true)])), fin zrl (unw T (orc T (M + 7)) (M + 7) 0 [.blk 2, .code zrf] (iter 0 [6, 25, 26, 27] (exec T (orc T (M + 7)) (M + 7) 0 zrc) j fr H)) = R
def z9o (q : Nat) : Prop := ∀ (M : Nat) (hM : 8 * q ≤ M) (j : Nat) (hj : q ≤ j) (v25z : Bool) (v25l : List (Sl Int)) (v26 : Int) (r : (Ow Int)) (_ : zkn q v25z v25l v26 = some r) (R : Option (List V)) (_ : some [(Ow.enc 1 (V.int .i64)) r] = R) (fr : Fr) (H : Hp) (_ : canon 0 [6, 25, 26, 27] fr H = ([(6, (.sl true [])), (25, (.sl v25z (List.map (Sl.enc (V.int .i64)) v25l))), (26, (.int .i64 v26)), (27, (.int .i64 0))], [])), fin zrl (unw T (orc T (M + 7)) (M + 7) 0 [.blk 2, .code zrf] (iter 0 [6, 25, 26, 27] (exec T (orc T (M + 7)) (M + 7) 0 zrc) j fr H)) = R
def z9p (q : Nat) : Prop := ∀ (M : Nat) (hM : 8 * q ≤ M) (j : Nat) (hj : q ≤ j) (v25z : Bool) (v25l : List (Sl Int)) (v26 v27 : Int) (h0z : Bool) (h0l : List Int) (r : (Ow Int)) (_ : zkm q v25z v25l v26 v27 h0z h0l = some r) (R : Option (List V)) (_ : some [(Ow.enc 1 (V.int .i64)) r] = R) (fr : Fr) (H : Hp) (_ : canon 0 [6, 25, 26, 27] fr H = ([(6, (.vw 0 0 0 h0l.length 1)), (25, (.sl v25z (List.map (Sl.enc (V.int .i64)) v25l))), (26, (.int .i64 v26)), (27, (.int .i64 v27))], [(.row 0 h0z 1 (List.map (V.int .i64) h0l) true)])), fin zrl (unw T (orc T (M + 7)) (M + 7) 0 [.blk 2, .code zrf] (iter 0 [6, 25, 26, 27] (exec T (orc T (M + 7)) (M + 7) 0 zrc) j fr H)) = R
def z9q := And.intro @kk <| And.intro @ke <| And.intro @kn <| And.intro @z31 <| And.intro @z5o <| And.intro @z5p <| And.intro @z5q <| @z33
theorem z9r (q : Nat) (zbb5 : z9m q) (zbb6 : z9n q) (zbb7 : z9o q) : z9m (q + 1) := by
 intro M hM j hj v0z v0l v3 v9z v9l v10 v11 r h R hR fr H hc
 obtain ⟨j, rfl⟩ : ∃ i, j = i + 1 := ⟨j - 1, by omega⟩
 rw [zho, hc]; clear hc
 rw [zko] at h
 replace h := br h; rcases h with ⟨h1, h⟩ | ⟨h1, h⟩
 ·replace h := bn h; obtain ⟨h2, h⟩ := h
  replace h := ob h; obtain ⟨e1, h3, h⟩ := h
  replace h := bm h; obtain ⟨h4, h⟩ := h
  replace h := zbb5 M (by omega) j (by omega) _ _ _ _ _ _ _ _ h R hR
  simp only [z9q, simprocAttr, *]
 ·replace h := bm h; obtain ⟨h5, h⟩ := h
  replace h := br h; rcases h with ⟨h6, h⟩ | ⟨h6, h⟩
  ·replace h := bn h; obtain ⟨h7, h⟩ := h
   replace h := bn h; obtain ⟨h8, h⟩ := h
   replace h := bm h; obtain ⟨h9, h⟩ := h
   replace h := zbb6 M (by omega) (M + 7) (by omega) _ _ _ _ _ _ _ _ h R hR
   simp only [z9q, simprocAttr, *]
  ·replace h := zbb7 M (by omega) (M + 7) (by omega) _ _ _ _ h R hR
   simp only [z9q, simprocAttr, *]
theorem z9s (q : Nat) (zbb6 : z9n q) : z9n (q + 1) := by
 intro M hM j hj v6len v25z v25l v26 v27 h0z h0l r h R hR fr H hc
 obtain ⟨j, rfl⟩ : ∃ i, j = i + 1 := ⟨j - 1, by omega⟩
 rw [zho, hc]; clear hc
 rw [zkl] at h
 replace h := br h; rcases h with ⟨h1, h⟩ | ⟨h1, h⟩
 ·replace h := bn h; obtain ⟨h2, h⟩ := h
  replace h := ob h; obtain ⟨e2, h3, h⟩ := h
  replace h := bn h; obtain ⟨h4, h⟩ := h
  replace h := zbb6 M (by omega) j (by omega) _ _ _ _ _ _ _ _ h R hR
  simp only [z9q, simprocAttr, *]
 ·cases h; subst hR; simp only [z9q, simprocAttr, *]
theorem z9t (q : Nat) (zbb8 : z9p q) : z9o (q + 1) := by
 intro M hM j hj v25z v25l v26 r h R hR fr H hc
 obtain ⟨j, rfl⟩ : ∃ i, j = i + 1 := ⟨j - 1, by omega⟩
 rw [zho, hc]; clear hc
 rw [zkn] at h
 replace h := br h; rcases h with ⟨h1, h⟩ | ⟨h1, h⟩
 ·replace h := ob h; obtain ⟨e3, h2, h⟩ := h
  replace h := bn h; obtain ⟨h3, h⟩ := h
  replace h := zbb8 M (by omega) j (by omega) _ _ _ _ _ _ _ h R hR
  simp only [z9q, simprocAttr, *]
 ·cases h; subst hR; simp only [z9q, simprocAttr, *]
theorem z9u (q : Nat) (zbb8 : z9p q) : z9p (q + 1) := by
 intro M hM j hj v25z v25l v26 v27 h0z h0l r h R hR fr H hc
 obtain ⟨j, rfl⟩ : ∃ i, j = i + 1 := ⟨j - 1, by omega⟩
 rw [zho, hc]; clear hc
 rw [zkm] at h
 replace h := br h; rcases h with ⟨h1, h⟩ | ⟨h1, h⟩
 ·replace h := bn h; obtain ⟨h2, h⟩ := h
  replace h := ob h; obtain ⟨e4, h3, h⟩ := h
  replace h := bn h; obtain ⟨h4, h⟩ := h
  replace h := zbb8 M (by omega) j (by omega) _ _ _ _ _ _ _ h R hR
  simp only [z9q, simprocAttr, *]
 ·cases h; subst hR; simp only [z9q, simprocAttr, *]
theorem z9v : ∀ q, z9m q ∧ z9n q ∧ z9o q ∧ z9p q
 | 0 => by refine ⟨?_, ?_, ?_, ?_⟩ <;> (intro M hM j hj; intros; rename_i h _ _ _ _ _; cases h)
 | q + 1 => by have ⟨i0, i1, i2, i3⟩ := z9v q; exact ⟨z9r q i0 i1 i2, z9s q i1, z9t q i3, z9u q i3⟩
theorem z9w : ∀ (q N : Nat), 8 * q ≤ N → ∀ (a0 : (Sl (Sl Int))), ∀ (r : (Ow Int)), zkp q a0 = some r → (orc T N).deep F.zkp [(Sl.enc (Sl.enc (V.int .i64))) a0] = some [(Ow.enc 1 (V.int .i64)) r] := by
 intro q N hM a0 r h
 rcases q with _ | q
 ·cases h
 obtain ⟨M, rfl⟩ : ∃ M, N = M + 8 := ⟨N - 8, by omega⟩
 have zbb5 := (z9v q).1
 generalize hR : some [(Ow.enc 1 (V.int .i64)) r] = R
 rw [zhy, z1i, y6, zhw zrl rfl]
 rw [zkp] at h
 replace h := zbb5 M (by omega) (M + 7) (by omega) _ _ _ _ _ _ _ _ h R hR
 simp only [z9q, simprocAttr, *]
def z9x := And.intro @kk <| And.intro @ke <| And.intro @kn <| And.intro @z4a <| @z4c
theorem z9y : ∀ (q N : Nat), 8 * q ≤ N → ∀ (a0 : (Sl zjr)), ∀ (r : (Ow zjr)), zkq q a0 = some r → (orc T N).deep F.zkq [(Sl.enc zjr.enc) a0] = some [(Ow.enc 3 zjr.enc) r] := by
 intro q N hM a0 r h
 rcases q with _ | q
 ·cases h
 obtain ⟨M, rfl⟩ : ∃ M, N = M + 8 := ⟨N - 8, by omega⟩
 generalize hR : some [(Ow.enc 3 zjr.enc) r] = R
 rw [zhy, z1l, y6, zhw zsl rfl]
 rw [zkq] at h
 replace h := bb h; rcases h with ⟨h1', h1, h⟩ | ⟨h1', h1, h⟩
 ·cases h; subst hR; simp only [z9x, simprocAttr, *]
 ·replace h := bn h; obtain ⟨h2, h⟩ := h
  cases h; subst hR; simp only [z9x, simprocAttr, *]
theorem z9z : ∀ (q N : Nat), 8 * q ≤ N → ∀ (a0 : (Ow zjr)) (a1 : Int) (a2 : (Ow zjr)), ∀ (r : (Ow zjr)), zkr q a0 a1 a2 = some r → (orc T N).deep F.zkr [(Ow.enc 3 zjr.enc) a0, (V.int .i64) a1, (Ow.enc 3 zjr.enc) a2] = some [(Ow.enc 3 zjr.enc) r] := by
 intro q N hM a0 a1 a2 r h
 rcases q with _ | q
 ·cases h
 obtain ⟨M, rfl⟩ : ∃ M, N = M + 8 := ⟨N - 8, by omega⟩
 rw [zhy, z1p, y6, zhv zs0 rfl]
 rw [zkr] at h
 by_cases c : insOk a0 a1 a2
 ·rw [if_pos c] at h; cases h; exact zi4 zjr.enc 3 c
 ·rw [if_neg c] at h; cases h
def z90 (q : Nat) : Prop := ∀ (M : Nat) (hM : 8 * q ≤ M) (j : Nat) (hj : q ≤ j) (w1 : Nat) (v7 v8 h0_0 h0_1 h0_2 h0_3 h0_4 h0_5 h0_6 : Int) (h1z : Bool) (h1l : List zjr) (h1x : Bool) (r : Int) (_ : zks q v7 v8 h0_0 h0_1 h0_2 h0_3 h0_4 h0_5 h0_6 h1z h1l h1x = some r) (R : Option (List V × Hp)) (_ : (some ([(.int .i64 r)], [(.box [(.int .i64 h0_0), (.int .i64 h0_1), (.int .i64 h0_2), (.int .i64 h0_3), (.int .i64 h0_4), (.int .i64 h0_5), (.int .i64 h0_6)]), (.row w1 h1z 3 (List.map zjr.enc h1l) h1x)]) : Option (List V × Hp)) = R) (fr : Fr) (H : Hp) (_ : canon 2 [0, 1, 7, 8] fr H = ([(0, (.vw 1 w1 0 h1l.length 1)), (1, (.fn F.zlw [(.ptr 0 0)])), (7, (.int .i64 v7)), (8, (.int .i64 v8))], [(.box [(.int .i64 h0_0), (.int .i64 h0_1), (.int .i64 h0_2), (.int .i64 h0_3), (.int .i64 h0_4), (.int .i64 h0_5), (.int .i64 h0_6)]), (.row w1 h1z 3 (List.map zjr.enc h1l) h1x)])), finI 2 false [.tmp 4] (unw T (orc T (M + 5)) (M + 5) 2 [.blk 0, .code zsu] (iter 2 [0, 1, 7, 8] (exec T (orc T (M + 5)) (M + 5) 2 zsr) j fr H)) = R
def z91 := And.intro @kk <| And.intro @ke <| And.intro @kn <| And.intro @z4d <| And.intro @z4g <| And.intro @z4e <| @z4f
theorem z92 (q : Nat) (zbb9 : z90 q) : z90 (q + 1) := by
 intro M hM j hj w1 v7 v8 h0_0 h0_1 h0_2 h0_3 h0_4 h0_5 h0_6 h1z h1l h1x r h R hR fr H hc
 obtain ⟨j, rfl⟩ : ∃ i, j = i + 1 := ⟨j - 1, by omega⟩
 rw [zho, hc]; clear hc
 rw [zks] at h
 replace h := br h; rcases h with ⟨h1, h⟩ | ⟨h1, h⟩
 ·replace h := bn h; obtain ⟨h2, h⟩ := h
  replace h := bn h; obtain ⟨h3, h⟩ := h
  replace h := ob h; obtain ⟨e1, h4, h⟩ := h
  replace h := br h; rcases h with ⟨h5, h⟩ | ⟨h5, h⟩
  ·cases h; subst hR; simp only [z91, simprocAttr, *]
  ·replace h := zbb9 M (by omega) j (by omega) w1 _ _ _ _ _ _ _ _ _ _ _ _ _ h R hR
   simp only [z91, simprocAttr, *]
 ·cases h; subst hR; simp only [z91, simprocAttr, *]
theorem z93 : ∀ q, z90 q
 | 0 => by intro M hM j hj; intros; rename_i h _ _ _ _ _; cases h
 | q + 1 => by have i0 := z93 q; exact z92 q i0
theorem z94 : ∀ (q M : Nat), 8 * q ≤ M → ∀ (w1 : Nat), ∀ (h0_0 h0_1 h0_2 h0_3 h0_4 h0_5 h0_6 : Int), ∀ (h1z : Bool), ∀ (h1l : List zjr), ∀ (h1x : Bool), ∀ (r : Int), zkt q h0_0 h0_1 h0_2 h0_3 h0_4 h0_5 h0_6 h1z h1l h1x = some r → (orc T (M + 6)).inl F.zlx [(.vw 1 w1 0 h1l.length 1), (.fn F.zlw [(.ptr 0 0)])] [(.box [(.int .i64 h0_0), (.int .i64 h0_1), (.int .i64 h0_2), (.int .i64 h0_3), (.int .i64 h0_4), (.int .i64 h0_5), (.int .i64 h0_6)]), (.row w1 h1z 3 (List.map zjr.enc h1l) h1x)] = (some ([(.int .i64 r)], [(.box [(.int .i64 h0_0), (.int .i64 h0_1), (.int .i64 h0_2), (.int .i64 h0_3), (.int .i64 h0_4), (.int .i64 h0_5), (.int .i64 h0_6)]), (.row w1 h1z 3 (List.map zjr.enc h1l) h1x)]) : Option (List V × Hp)) := by
 intro q M hM w1 h0_0 h0_1 h0_2 h0_3 h0_4 h0_5 h0_6 h1z h1l h1x r h
 rcases q with _ | q
 ·cases h
 have zbb9 := (z93 q)
 generalize hR : (some ([(.int .i64 r)], [(.box [(.int .i64 h0_0), (.int .i64 h0_1), (.int .i64 h0_2), (.int .i64 h0_3), (.int .i64 h0_4), (.int .i64 h0_5), (.int .i64 h0_6)]), (.row w1 h1z 3 (List.map zjr.enc h1l) h1x)]) : Option (List V × Hp)) = R
 rw [z4i (n := M + 5)]
 rw [zkt] at h
 replace h := zbb9 M (by omega) (M + 5) (by omega) w1 _ _ _ _ _ _ _ _ _ _ _ _ _ h R hR
 simp only [z91, simprocAttr, *]
def z95 (q : Nat) : Prop := ∀ (M : Nat) (hM : 8 * q ≤ M) (j : Nat) (hj : q ≤ j) (w1 : Nat) (v5 v6 h0_0 h0_1 h0_2 h0_3 h0_4 h0_5 h0_6 : Int) (h1z : Bool) (h1l : List zjr) (h1x : Bool) (r : Nat × (List zjr) × Bool) (_ : zku q v5 v6 h0_0 h0_1 h0_2 h0_3 h0_4 h0_5 h0_6 h1z h1l h1x = some r) (R : Option (List V × Hp)) (_ : (some ([(.vw 1 w1 0 r.1 0)], [(.box [(.int .i64 h0_0), (.int .i64 h0_1), (.int .i64 h0_2), (.int .i64 h0_3), (.int .i64 h0_4), (.int .i64 h0_5), (.int .i64 h0_6)]), (.row w1 h1z 3 (List.map zjr.enc r.2.1) r.2.2)]) : Option (List V × Hp)) = R) (fr : Fr) (H : Hp) (_ : canon 2 [0, 1, 5, 6] fr H = ([(0, (.vw 1 w1 0 h1l.length 1)), (1, (.fn F.zlw [(.ptr 0 0)])), (5, (.int .i64 v5)), (6, (.int .i64 v6))], [(.box [(.int .i64 h0_0), (.int .i64 h0_1), (.int .i64 h0_2), (.int .i64 h0_3), (.int .i64 h0_4), (.int .i64 h0_5), (.int .i64 h0_6)]), (.row w1 h1z 3 (List.map zjr.enc h1l) h1x)])), finI 2 true [.tmp 4] (unw T (orc T (M + 6)) (M + 6) 2 [.blk 0, .code zse] (iter 2 [0, 1, 5, 6] (exec T (orc T (M + 6)) (M + 6) 2 zr9) j fr H)) = R
def z96 := And.intro @kk <| And.intro @ke <| And.intro @kn <| And.intro @z37 <| And.intro @z4d <| And.intro @z4h <| And.intro @z4e <| @z4f
theorem z97 (q : Nat) (zbca : z95 q) : z95 (q + 1) := by
 intro M hM j hj w1 v5 v6 h0_0 h0_1 h0_2 h0_3 h0_4 h0_5 h0_6 h1z h1l h1x r h R hR fr H hc
 obtain ⟨j, rfl⟩ : ∃ i, j = i + 1 := ⟨j - 1, by omega⟩
 rw [zho, hc]; clear hc
 rw [zku] at h
 replace h := br h; rcases h with ⟨h1, h⟩ | ⟨h1, h⟩
 ·replace h := bn h; obtain ⟨h2, h⟩ := h
  replace h := bn h; obtain ⟨h3, h⟩ := h
  replace h := ob h; obtain ⟨e2, h4, h⟩ := h
  replace h := br h; rcases h with ⟨h5, h⟩ | ⟨h5, h⟩
  ·replace h := zbca M (by omega) j (by omega) w1 _ _ _ _ _ _ _ _ _ _ _ _ _ h R hR
   simp only [z96, simprocAttr, *]
  ·replace h := bn h; obtain ⟨h6, h⟩ := h
   replace h := bn h; obtain ⟨h7, h⟩ := h
   replace h := ob h; obtain ⟨e3, h8, h⟩ := h
   replace h := bb h; rcases h with ⟨h9', h9, h⟩ | ⟨h9', h9, h⟩
   ·replace h := zbca M (by omega) j (by omega) w1 _ _ _ _ _ _ _ _ _ _ _ _ _ h R hR
    simp only [z96, simprocAttr, *]
   ·cases h
 ·replace h := bn h; obtain ⟨h10, h⟩ := h
  replace h := bn h; obtain ⟨h11, h⟩ := h
  replace h := bb h; rcases h with ⟨h12', h12, h⟩ | ⟨h12', h12, h⟩
  ·replace h := bn h; obtain ⟨h13, h⟩ := h
   replace h := bb h; rcases h with ⟨h14', h14, h⟩ | ⟨h14', h14, h⟩
   ·cases h; subst hR; simp only [z96, simprocAttr, *]
   ·cases h; subst hR; simp only [z96, simprocAttr, *]
  ·cases h
theorem z98 : ∀ q, z95 q
 | 0 => by intro M hM j hj; intros; rename_i h _ _ _ _ _; cases h
 | q + 1 => by have i0 := z98 q; exact z97 q i0
theorem z99 : ∀ (q M : Nat), 8 * q ≤ M → ∀ (w1 : Nat), ∀ (h0_0 h0_1 h0_2 h0_3 h0_4 h0_5 h0_6 : Int), ∀ (h1z : Bool), ∀ (h1l : List zjr), ∀ (h1x : Bool), ∀ (r : Nat × (List zjr) × Bool), zkv q h0_0 h0_1 h0_2 h0_3 h0_4 h0_5 h0_6 h1z h1l h1x = some r → (orc T (M + 7)).inl F.zlv [(.vw 1 w1 0 h1l.length 1), (.fn F.zlw [(.ptr 0 0)])] [(.box [(.int .i64 h0_0), (.int .i64 h0_1), (.int .i64 h0_2), (.int .i64 h0_3), (.int .i64 h0_4), (.int .i64 h0_5), (.int .i64 h0_6)]), (.row w1 h1z 3 (List.map zjr.enc h1l) h1x)] = (some ([(.vw 1 w1 0 r.1 0)], [(.box [(.int .i64 h0_0), (.int .i64 h0_1), (.int .i64 h0_2), (.int .i64 h0_3), (.int .i64 h0_4), (.int .i64 h0_5), (.int .i64 h0_6)]), (.row w1 h1z 3 (List.map zjr.enc r.2.1) r.2.2)]) : Option (List V × Hp)) := by
 intro q M hM w1 h0_0 h0_1 h0_2 h0_3 h0_4 h0_5 h0_6 h1z h1l h1x r h
 rcases q with _ | q
 ·cases h
 have zbca := (z98 q)
 generalize hR : (some ([(.vw 1 w1 0 r.1 0)], [(.box [(.int .i64 h0_0), (.int .i64 h0_1), (.int .i64 h0_2), (.int .i64 h0_3), (.int .i64 h0_4), (.int .i64 h0_5), (.int .i64 h0_6)]), (.row w1 h1z 3 (List.map zjr.enc r.2.1) r.2.2)]) : Option (List V × Hp)) = R
 rw [z39 (n := M + 6)]
 rw [zkv] at h
 replace h := ob h; obtain ⟨r1, h1, h⟩ := h
 replace h1 := z94 q M (by omega) w1 _ _ _ _ _ _ _ _ _ _ _ h1
 try simp only [kf, simprocAttr] at h1
 replace h := br h; rcases h with ⟨h2, h⟩ | ⟨h2, h⟩
 ·cases h; subst hR; simp only [z96, simprocAttr, *]
 ·replace h := zbca M (by omega) (M + 6) (by omega) w1 _ _ _ _ _ _ _ _ _ _ _ _ _ h R hR
  simp only [z96, simprocAttr, *]
def zbaa (q : Nat) : Prop := ∀ (M : Nat) (hM : 8 * q ≤ M) (j : Nat) (hj : q ≤ j) (w1 v0len : Nat) (v7 v8 h0_0 h0_1 h0_2 h0_3 h0_4 h0_5 h0_6 : Int) (h1z : Bool) (h1l : List zjr) (h1x : Bool) (r : Int) (_ : zkw q v0len v7 v8 h0_0 h0_1 h0_2 h0_3 h0_4 h0_5 h0_6 h1z h1l h1x = some r) (R : Option (List V × Hp)) (_ : (some ([(.int .i64 r)], [(.box [(.int .i64 h0_0), (.int .i64 h0_1), (.int .i64 h0_2), (.int .i64 h0_3), (.int .i64 h0_4), (.int .i64 h0_5), (.int .i64 h0_6)]), (.row w1 h1z 3 (List.map zjr.enc h1l) h1x)]) : Option (List V × Hp)) = R) (fr : Fr) (H : Hp) (_ : canon 2 [0, 1, 7, 8] fr H = ([(0, (.vw 1 w1 0 v0len 0)), (1, (.fn F.zly [(.ptr 0 0)])), (7, (.int .i64 v7)), (8, (.int .i64 v8))], [(.box [(.int .i64 h0_0), (.int .i64 h0_1), (.int .i64 h0_2), (.int .i64 h0_3), (.int .i64 h0_4), (.int .i64 h0_5), (.int .i64 h0_6)]), (.row w1 h1z 3 (List.map zjr.enc h1l) h1x)])), finI 2 false [.tmp 4] (unw T (orc T (M + 6)) (M + 6) 2 [.blk 0, .code zsu] (iter 2 [0, 1, 7, 8] (exec T (orc T (M + 6)) (M + 6) 2 zsr) j fr H)) = R
def zbab := And.intro @kk <| And.intro @ke <| And.intro @kn <| And.intro @z4g <| And.intro @z4j <| And.intro @z4k <| @z4l
theorem zbac (q : Nat) (zbcb : zbaa q) : zbaa (q + 1) := by
 intro M hM j hj w1 v0len v7 v8 h0_0 h0_1 h0_2 h0_3 h0_4 h0_5 h0_6 h1z h1l h1x r h R hR fr H hc
 obtain ⟨j, rfl⟩ : ∃ i, j = i + 1 := ⟨j - 1, by omega⟩
 rw [zho, hc]; clear hc
 rw [zkw] at h
 replace h := br h; rcases h with ⟨h1, h⟩ | ⟨h1, h⟩
 ·replace h := bn h; obtain ⟨h2, h⟩ := h
  replace h := bn h; obtain ⟨h3, h⟩ := h
  replace h := ob h; obtain ⟨e1, h4, h⟩ := h
  replace h := br h; rcases h with ⟨h5, h⟩ | ⟨h5, h⟩
  ·cases h; subst hR; simp only [zbab, simprocAttr, *]
  ·replace h := zbcb M (by omega) j (by omega) w1 _ _ _ _ _ _ _ _ _ _ _ _ _ _ h R hR
   simp only [zbab, simprocAttr, *]
 ·cases h; subst hR; simp only [zbab, simprocAttr, *]
theorem zbad : ∀ q, zbaa q
 | 0 => by intro M hM j hj; intros; rename_i h _ _ _ _ _; cases h
 | q + 1 => by have i0 := zbad q; exact zbac q i0
theorem zbae : ∀ (q M : Nat), 8 * q ≤ M → ∀ (w1 v0len : Nat), ∀ (h0_0 h0_1 h0_2 h0_3 h0_4 h0_5 h0_6 : Int), ∀ (h1z : Bool), ∀ (h1l : List zjr), ∀ (h1x : Bool), ∀ (r : Int), zkx q v0len h0_0 h0_1 h0_2 h0_3 h0_4 h0_5 h0_6 h1z h1l h1x = some r → (orc T (M + 7)).inl F.zlx [(.vw 1 w1 0 v0len 0), (.fn F.zly [(.ptr 0 0)])] [(.box [(.int .i64 h0_0), (.int .i64 h0_1), (.int .i64 h0_2), (.int .i64 h0_3), (.int .i64 h0_4), (.int .i64 h0_5), (.int .i64 h0_6)]), (.row w1 h1z 3 (List.map zjr.enc h1l) h1x)] = (some ([(.int .i64 r)], [(.box [(.int .i64 h0_0), (.int .i64 h0_1), (.int .i64 h0_2), (.int .i64 h0_3), (.int .i64 h0_4), (.int .i64 h0_5), (.int .i64 h0_6)]), (.row w1 h1z 3 (List.map zjr.enc h1l) h1x)]) : Option (List V × Hp)) := by
 intro q M hM w1 v0len h0_0 h0_1 h0_2 h0_3 h0_4 h0_5 h0_6 h1z h1l h1x r h
 rcases q with _ | q
 ·cases h
 have zbcb := (zbad q)
 generalize hR : (some ([(.int .i64 r)], [(.box [(.int .i64 h0_0), (.int .i64 h0_1), (.int .i64 h0_2), (.int .i64 h0_3), (.int .i64 h0_4), (.int .i64 h0_5), (.int .i64 h0_6)]), (.row w1 h1z 3 (List.map zjr.enc h1l) h1x)]) : Option (List V × Hp)) = R
 rw [z4i (n := M + 6)]
 rw [zkx] at h
 replace h := zbcb M (by omega) (M + 6) (by omega) w1 _ _ _ _ _ _ _ _ _ _ _ _ _ _ h R hR
 simp only [zbab, simprocAttr, *]
def zbaf := And.intro @kk <| And.intro @ke <| And.intro @kn <| And.intro @z2y <| And.intro @z38 <| And.intro @z4b <| And.intro @z4h <| And.intro @z4m <| @z20
theorem zbag : ∀ (q N : Nat), 8 * q ≤ N → ∀ (a0 : (Sl zjr)) (a1 : zjv), ∀ (r : (Ow zjr)), zky q a0 a1 = some r → (orc T N).deep F.zky [(Sl.enc zjr.enc) a0, zjv.enc a1] = some [(Ow.enc 3 zjr.enc) r] := by
 intro q N hM a0 a1 r h
 rcases q with _ | q
 ·cases h
 obtain ⟨M, rfl⟩ : ∃ M, N = M + 8 := ⟨N - 8, by omega⟩
 generalize hR : some [(Ow.enc 3 zjr.enc) r] = R
 rw [zhy, z05, y6, zhw zol rfl]
 rw [zky] at h
 replace h := ob h; obtain ⟨r1, h1, h⟩ := h
 replace h1 := z9y q (M + 7) (by omega) _ _ h1
 try simp only [kf, simprocAttr] at h1
 replace h := ob h; obtain ⟨r2, h2, h⟩ := h
 replace h2 := z99 q M (by omega) 0 _ _ _ _ _ _ _ _ _ _ _ h2
 try simp only [kf, simprocAttr] at h2
 replace h := ob h; obtain ⟨r3, h3, h⟩ := h
 replace h3 := zbae q M (by omega) 0 _ _ _ _ _ _ _ _ _ _ _ _ h3
 try simp only [kf, simprocAttr] at h3
 replace h := br h; rcases h with ⟨h4, h⟩ | ⟨h4, h⟩
 ·replace h := bb h; rcases h with ⟨h5', h5, h⟩ | ⟨h5', h5, h⟩
  ·replace h := ob h; obtain ⟨r4, h6, h⟩ := h
   replace h6 := z9z q (M + 7) (by omega) _ _ _ _ h6
   try simp only [kf, simprocAttr] at h6
   cases h; subst hR; simp only [zbaf, simprocAttr, *]
  ·cases h
 ·replace h := bb h; rcases h with ⟨h7', h7, h⟩ | ⟨h7', h7, h⟩
  ·replace h := ob h; obtain ⟨r5, h8, h⟩ := h
   replace h8 := z9z q (M + 7) (by omega) _ _ _ _ h8
   try simp only [kf, simprocAttr] at h8
   cases h; subst hR; simp only [zbaf, simprocAttr, *]
  ·cases h
def zbah (q : Nat) : Prop := ∀ (M : Nat) (hM : 8 * q ≤ M) (j : Nat) (hj : q ≤ j) (v89z : Bool) (v89l : List zjr) (v90 h1_0 h1_1 : Int) (h1_3 : Bool) (h1_4 : Int) (h1_5z : Bool) (h1_5l : List zjr) (h2z : Bool) (h2l : List Int) (h2x : Bool) (r : zjs × Int) (_ : zk0 q v89z v89l v90 h1_0 h1_1 h1_3 h1_4 h1_5z h1_5l h2z h2l h2x = some r) (R : Option (List V)) (_ : some [zjs.enc r.1, (V.int .i64) r.2] = R) (fr : Fr) (H : Hp) (_ : canon 0 [4, 7, 89, 90, 91] fr H = ([(4, (.ptr 0 0)), (7, (.ptr 1 0)), (89, (.sl v89z (List.map zjr.enc v89l))), (90, (.int .i64 v90)), (91, (.int .i64 0))], [(.box [(.int .i64 0), (.int .i64 0), (.sl true []), (.bool false), (.int .i64 0), (.sl true [])]), (.box [(.int .i64 h1_0), (.int .i64 h1_1), (.vw 2 0 0 h2l.length 1), (.bool h1_3), (.int .i64 h1_4), (.sl h1_5z (List.map zjr.enc h1_5l))]), (.row 0 h2z 1 (List.map (V.int .i64) h2l) h2x)])), fin zof (unw T (orc T (M + 7)) (M + 7) 0 [.blk 1, .code zn8] (iter 0 [4, 7, 89, 90, 91] (exec T (orc T (M + 7)) (M + 7) 0 zn1) j fr H)) = R
def zbai (q : Nat) : Prop := ∀ (M : Nat) (hM : 8 * q ≤ M) (j : Nat) (hj : q ≤ j) (v89z : Bool) (v89l : List zjr) (v90 v91 h1_0 h1_1 : Int) (h1_3 : Bool) (h1_4 : Int) (h2z : Bool) (h2l : List Int) (h2x h3z : Bool) (h3l : List zjr) (h3x : Bool) (r : zjs × Int) (_ : zkz q v89z v89l v90 v91 h1_0 h1_1 h1_3 h1_4 h2z h2l h2x h3z h3l h3x = some r) (R : Option (List V)) (_ : some [zjs.enc r.1, (V.int .i64) r.2] = R) (fr : Fr) (H : Hp) (_ : canon 0 [4, 7, 89, 90, 91] fr H = ([(4, (.ptr 0 0)), (7, (.ptr 1 0)), (89, (.sl v89z (List.map zjr.enc v89l))), (90, (.int .i64 v90)), (91, (.int .i64 v91))], [(.box [(.int .i64 0), (.int .i64 0), (.sl true []), (.bool false), (.int .i64 0), (.sl true [])]), (.box [(.int .i64 h1_0), (.int .i64 h1_1), (.vw 2 0 0 h2l.length 1), (.bool h1_3), (.int .i64 h1_4), (.vw 3 0 0 h3l.length 1)]), (.row 0 h2z 1 (List.map (V.int .i64) h2l) h2x), (.row 0 h3z 3 (List.map zjr.enc h3l) h3x)])), fin zof (unw T (orc T (M + 7)) (M + 7) 0 [.blk 1, .code zn8] (iter 0 [4, 7, 89, 90, 91] (exec T (orc T (M + 7)) (M + 7) 0 zn1) j fr H)) = R
def zbaj := And.intro @kk <| And.intro @ke <| And.intro @kn <| And.intro @z2s <| And.intro @z2n <| And.intro @z2z <| And.intro @z32 <| @z2u
theorem zbak (q : Nat) (zbcc : zbai q) : zbah (q + 1) := by
 intro M hM j hj v89z v89l v90 h1_0 h1_1 h1_3 h1_4 h1_5z h1_5l h2z h2l h2x r h R hR fr H hc
 obtain ⟨j, rfl⟩ : ∃ i, j = i + 1 := ⟨j - 1, by omega⟩
 rw [zho, hc]; clear hc
 rw [zk0] at h
 replace h := br h; rcases h with ⟨h1, h⟩ | ⟨h1, h⟩
 ·replace h := ob h; obtain ⟨e3, h2, h⟩ := h
  replace h := ob h; obtain ⟨r4, h3, h⟩ := h
  replace h3 := zbag q (M + 7) (by omega) _ _ _ h3
  try simp only [kf, simprocAttr] at h3
  replace h := zbcc M (by omega) j (by omega) _ _ _ _ _ _ _ _ _ _ _ _ _ _ _ h R hR
  simp only [zbaj, simprocAttr, *]
 ·replace h := ob h; obtain ⟨r5, h4, h⟩ := h
  replace h4 := z8q q (M + 7) (by omega) _ _ h4
  try simp only [kf, simprocAttr] at h4
  replace h := bb h; rcases h with ⟨h5', h5, h⟩ | ⟨h5', h5, h⟩
  ·cases h; subst hR; simp only [zbaj, simprocAttr, *]
  ·cases h; subst hR; simp only [zbaj, simprocAttr, *]
theorem zbal (q : Nat) (zbcc : zbai q) : zbai (q + 1) := by
 intro M hM j hj v89z v89l v90 v91 h1_0 h1_1 h1_3 h1_4 h2z h2l h2x h3z h3l h3x r h R hR fr H hc
 obtain ⟨j, rfl⟩ : ∃ i, j = i + 1 := ⟨j - 1, by omega⟩
 rw [zho, hc]; clear hc
 rw [zkz] at h
 replace h := br h; rcases h with ⟨h1, h⟩ | ⟨h1, h⟩
 ·replace h := bn h; obtain ⟨h2, h⟩ := h
  replace h := ob h; obtain ⟨e6, h3, h⟩ := h
  replace h := ob h; obtain ⟨r7, h4, h⟩ := h
  replace h4 := zbag q (M + 7) (by omega) _ _ _ h4
  try simp only [kf, simprocAttr] at h4
  replace h := zbcc M (by omega) j (by omega) _ _ _ _ _ _ _ _ _ _ _ _ _ _ _ h R hR
  simp only [zbaj, simprocAttr, *]
 ·replace h := ob h; obtain ⟨r8, h5, h⟩ := h
  replace h5 := z8q q (M + 7) (by omega) _ _ h5
  try simp only [kf, simprocAttr] at h5
  replace h := bb h; rcases h with ⟨h6', h6, h⟩ | ⟨h6', h6, h⟩
  ·cases h; subst hR; simp only [zbaj, simprocAttr, *]
  ·cases h; subst hR; simp only [zbaj, simprocAttr, *]
theorem zbam : ∀ q, zbah q ∧ zbai q
 | 0 => by refine ⟨?_, ?_⟩ <;> (intro M hM j hj; intros; rename_i h _ _ _ _ _; cases h)
 | q + 1 => by have ⟨i0, i1⟩ := zbam q; exact ⟨zbak q i1, zbal q i1⟩
theorem zban : ∀ (q N : Nat), 8 * q ≤ N → ∀ (a0 : zjs) (a1 : zjt), ∀ (r : zjs × Int), zk1 q a0 a1 = some r → (orc T N).deep F.zk1 [zjs.enc a0, zjt.enc a1] = some [zjs.enc r.1, (V.int .i64) r.2] := by
 intro q N hM a0 a1 r h
 rcases q with _ | q
 ·cases h
 obtain ⟨M, rfl⟩ : ∃ M, N = M + 8 := ⟨N - 8, by omega⟩
 have ih_delta_Apply_l0 := (zbam q).1
 generalize hR : some [zjs.enc r.1, (V.int .i64) r.2] = R
 rw [zhy, z03, y6, zhw zof rfl]
 rw [zk1] at h
 replace h := ob h; obtain ⟨r1, h1, h⟩ := h
 replace h1 := z8q q (M + 7) (by omega) _ _ h1
 try simp only [kf, simprocAttr] at h1
 replace h := bb h; rcases h with ⟨h2', h2, h⟩ | ⟨h2', h2, h⟩
 ·replace h := br h; rcases h with ⟨h3, h⟩ | ⟨h3, h⟩
  ·cases h; subst hR; simp only [zbaj, simprocAttr, *]
  ·replace h := br h; rcases h with ⟨h4, h⟩ | ⟨h4, h⟩
   ·cases h; subst hR; simp only [zbaj, simprocAttr, *]
   ·replace h := br h; rcases h with ⟨h5, h⟩ | ⟨h5, h⟩
    ·cases h; subst hR; simp only [zbaj, simprocAttr, *]
    ·replace h := br h; rcases h with ⟨h6, h⟩ | ⟨h6, h⟩
     ·cases h; subst hR; simp only [zbaj, simprocAttr, *]
     ·replace h := br h; rcases h with ⟨h7, h⟩ | ⟨h7, h⟩
      ·replace h := br h; rcases h with ⟨h8, h⟩ | ⟨h8, h⟩
       ·cases h; subst hR; simp only [zbaj, simprocAttr, *]
       ·replace h := bn h; obtain ⟨h9, h⟩ := h
        replace h := bn h; obtain ⟨h10, h⟩ := h
        replace h := bn h; obtain ⟨h11, h⟩ := h
        replace h := bn h; obtain ⟨h12, h⟩ := h
        replace h := ob h; obtain ⟨r2, h13, h⟩ := h
        replace h13 := z9w q (M + 7) (by omega) _ _ h13
        try simp only [kf, simprocAttr] at h13
        replace h := ih_delta_Apply_l0 M (by omega) (M + 7) (by omega) _ _ _ _ _ _ _ _ _ _ _ _ _ h R hR
        simp only [zbaj, simprocAttr, *]
      ·cases h; subst hR; simp only [zbaj, simprocAttr, *]
 ·cases h; subst hR; simp only [zbaj, simprocAttr, *]
def zbao (q : Nat) : Prop := ∀ (M : Nat) (hM : 8 * q ≤ M) (j : Nat) (hj : q ≤ j) (v0z : Bool) (v0l : List Int) (v1z : Bool) (v1l : List Int) (v12 v13 : Int) (r : Bool) (_ : zk2 q v0z v0l v1z v1l v12 v13 = some r) (R : Option (List V)) (_ : some [V.bool r] = R) (fr : Fr) (H : Hp) (_ : canon 0 [0, 1, 12, 13] fr H = ([(0, (.sl v0z (List.map (V.int .i64) v0l))), (1, (.sl v1z (List.map (V.int .i64) v1l))), (12, (.int .i64 v12)), (13, (.int .i64 v13))], [])), fin zte (unw T (orc T (M + 7)) (M + 7) 0 [.blk 0, .code zta] (iter 0 [0, 1, 12, 13] (exec T (orc T (M + 7)) (M + 7) 0 zs7) j fr H)) = R
def zbap := And.intro @kk <| And.intro @ke <| And.intro @kn <| And.intro @z4o <| @z4q
theorem zbaq (q : Nat) (zbcd : zbao q) : zbao (q + 1) := by
 intro M hM j hj v0z v0l v1z v1l v12 v13 r h R hR fr H hc
 obtain ⟨j, rfl⟩ : ∃ i, j = i + 1 := ⟨j - 1, by omega⟩
 rw [zho, hc]; clear hc
 rw [zk2] at h
 replace h := br h; rcases h with ⟨h1, h⟩ | ⟨h1, h⟩
 ·replace h := bn h; obtain ⟨h2, h⟩ := h
  replace h := ob h; obtain ⟨e1, h3, h⟩ := h
  replace h := ob h; obtain ⟨e2, h4, h⟩ := h
  replace h := br h; rcases h with ⟨h5, h⟩ | ⟨h5, h⟩
  ·replace h := zbcd M (by omega) j (by omega) _ _ _ _ _ _ _ h R hR
   simp only [zbap, simprocAttr, *]
  ·cases h; subst hR; simp only [zbap, simprocAttr, *]
 ·cases h; subst hR; simp only [zbap, simprocAttr, *]
theorem zbar : ∀ q, zbao q
 | 0 => by intro M hM j hj; intros; rename_i h _ _ _ _ _; cases h
 | q + 1 => by have i0 := zbar q; exact zbaq q i0
theorem zbas : ∀ (q N : Nat), 8 * q ≤ N → ∀ (a0 a1 : (Sl Int)), ∀ (r : Bool), zk3 q a0 a1 = some r → (orc T N).deep F.zk3 [(Sl.enc (V.int .i64)) a0, (Sl.enc (V.int .i64)) a1] = some [V.bool r] := by
 intro q N hM a0 a1 r h
 rcases q with _ | q
 ·cases h
 obtain ⟨M, rfl⟩ : ∃ M, N = M + 8 := ⟨N - 8, by omega⟩
 have zbcd := (zbar q)
 generalize hR : some [V.bool r] = R
 rw [zhy, z1q, y6, zhw zte rfl]
 rw [zk3] at h
 replace h := br h; rcases h with ⟨h1, h⟩ | ⟨h1, h⟩
 ·replace h := zbcd M (by omega) (M + 7) (by omega) _ _ _ _ _ _ _ h R hR
  simp only [zbap, simprocAttr, *]
 ·cases h; subst hR; simp only [zbap, simprocAttr, *]
def zbat := And.intro @kk <| And.intro @ke <| And.intro @kn <| And.intro @z21 <| And.intro @z4p <| @z23
theorem zbau : ∀ (q N : Nat), 8 * q ≤ N → ∀ (a0 a1 : zjq), ∀ (r : Bool), zk4 q a0 a1 = some r → (orc T N).deep F.zk4 [zjq.enc a0, zjq.enc a1] = some [V.bool r] := by
 intro q N hM a0 a1 r h
 rcases q with _ | q
 ·cases h
 obtain ⟨M, rfl⟩ : ∃ M, N = M + 8 := ⟨N - 8, by omega⟩
 generalize hR : some [V.bool r] = R
 rw [zhy, z06, y6, zhw zon rfl]
 rw [zk4] at h
 replace h := br h; rcases h with ⟨h1, h⟩ | ⟨h1, h⟩
 ·replace h := bb h; rcases h with ⟨h2', h2, h⟩ | ⟨h2', h2, h⟩
  ·replace h := br h; rcases h with ⟨h3, h⟩ | ⟨h3, h⟩
   ·replace h := ob h; obtain ⟨r1, h4, h⟩ := h
    replace h4 := zbas q (M + 7) (by omega) _ _ _ h4
    try simp only [kf, simprocAttr] at h4
    cases h; subst hR; simp only [zbat, simprocAttr, *]
   ·cases h; subst hR; simp only [zbat, simprocAttr, *]
  ·cases h; subst hR; simp only [zbat, simprocAttr, *]
 ·cases h; subst hR; simp only [zbat, simprocAttr, *]
def zbav (q : Nat) : Prop := ∀ (M : Nat) (hM : 8 * q ≤ M) (j : Nat) (hj : q ≤ j) (v0z : Bool) (v0l : List zjr) (v1z : Bool) (v1l : List zjr) (v12 v13 : Int) (r : Bool) (_ : zk5 q v0z v0l v1z v1l v12 v13 = some r) (R : Option (List V)) (_ : some [V.bool r] = R) (fr : Fr) (H : Hp) (_ : canon 0 [0, 1, 12, 13] fr H = ([(0, (.sl v0z (List.map zjr.enc v0l))), (1, (.sl v1z (List.map zjr.enc v1l))), (12, (.int .i64 v12)), (13, (.int .i64 v13))], [])), fin zrz (unw T (orc T (M + 7)) (M + 7) 0 [.blk 0, .code zrv] (iter 0 [0, 1, 12, 13] (exec T (orc T (M + 7)) (M + 7) 0 zrs) j fr H)) = R
def zbaw := And.intro @kk <| And.intro @ke <| And.intro @kn <| And.intro @z34 <| @z36
theorem zbax (q : Nat) (zbce : zbav q) : zbav (q + 1) := by
 intro M hM j hj v0z v0l v1z v1l v12 v13 r h R hR fr H hc
 obtain ⟨j, rfl⟩ : ∃ i, j = i + 1 := ⟨j - 1, by omega⟩
 rw [zho, hc]; clear hc
 rw [zk5] at h
 replace h := br h; rcases h with ⟨h1, h⟩ | ⟨h1, h⟩
 ·replace h := bn h; obtain ⟨h2, h⟩ := h
  replace h := ob h; obtain ⟨e1, h3, h⟩ := h
  replace h := ob h; obtain ⟨e2, h4, h⟩ := h
  replace h := br h; rcases h with ⟨h5, h⟩ | ⟨h5, h⟩
  ·replace h := br h; rcases h with ⟨h6, h⟩ | ⟨h6, h⟩
   ·replace h := br h; rcases h with ⟨h7, h⟩ | ⟨h7, h⟩
    ·replace h := zbce M (by omega) j (by omega) _ _ _ _ _ _ _ h R hR
     simp only [zbaw, simprocAttr, *]
    ·cases h; subst hR; simp only [zbaw, simprocAttr, *]
   ·cases h; subst hR; simp only [zbaw, simprocAttr, *]
  ·cases h; subst hR; simp only [zbaw, simprocAttr, *]
 ·cases h; subst hR; simp only [zbaw, simprocAttr, *]
theorem zbay : ∀ q, zbav q
 | 0 => by intro M hM j hj; intros; rename_i h _ _ _ _ _; cases h
 | q + 1 => by have i0 := zbay q; exact zbax q i0
theorem zbaz : ∀ (q N : Nat), 8 * q ≤ N → ∀ (a0 a1 : (Sl zjr)), ∀ (r : Bool), zk6 q a0 a1 = some r → (orc T N).deep F.zk6 [(Sl.enc zjr.enc) a0, (Sl.enc zjr.enc) a1] = some [V.bool r] := by
 intro q N hM a0 a1 r h
 rcases q with _ | q
 ·cases h
 obtain ⟨M, rfl⟩ : ∃ M, N = M + 8 := ⟨N - 8, by omega⟩
 have zbce := (zbay q)
 generalize hR : some [V.bool r] = R
 rw [zhy, z1j, y6, zhw zrz rfl]
 rw [zk6] at h
 replace h := br h; rcases h with ⟨h1, h⟩ | ⟨h1, h⟩
 ·replace h := zbce M (by omega) (M + 7) (by omega) _ _ _ _ _ _ _ h R hR
  simp only [zbaw, simprocAttr, *]
 ·cases h; subst hR; simp only [zbaw, simprocAttr, *]
def zba0 := And.intro @kk <| And.intro @ke <| And.intro @kn <| And.intro @z2v <| And.intro @z22 <| And.intro @z35 <| @z2x
theorem zba1 : ∀ (q N : Nat), 8 * q ≤ N → ∀ (a0 a1 : zjs), ∀ (r : Bool), zk7 q a0 a1 = some r → (orc T N).deep F.zk7 [zjs.enc a0, zjs.enc a1] = some [V.bool r] := by
 intro q N hM a0 a1 r h
 rcases q with _ | q
 ·cases h
 obtain ⟨M, rfl⟩ : ∃ M, N = M + 8 := ⟨N - 8, by omega⟩
 generalize hR : some [V.bool r] = R
 rw [zhy, z04, y6, zhw zoh rfl]
 rw [zk7] at h
 replace h := br h; rcases h with ⟨h1, h⟩ | ⟨h1, h⟩
 ·replace h := ob h; obtain ⟨r1, h2, h⟩ := h
  replace h2 := zbau q (M + 7) (by omega) _ _ _ h2
  try simp only [kf, simprocAttr] at h2
  replace h := bb h; rcases h with ⟨h3', h3, h⟩ | ⟨h3', h3, h⟩
  ·replace h := ob h; obtain ⟨r2, h4, h⟩ := h
   replace h4 := zbaz q (M + 7) (by omega) _ _ _ h4
   try simp only [kf, simprocAttr] at h4
   cases h; subst hR; simp only [zba0, simprocAttr, *]
  ·cases h; subst hR; simp only [zba0, simprocAttr, *]
 ·cases h; subst hR; simp only [zba0, simprocAttr, *]
def zba2 := And.intro @kk <| And.intro @ke <| And.intro @kn <| And.intro @z2d <| And.intro @z2k <| And.intro @z2t <| And.intro @z2w <| @z2f
theorem zba3 : ∀ (q N : Nat), 8 * q ≤ N → ∀ (r : Bool), zk8 q = some r → (orc T N).deep F.zk8 [] = some [V.bool r] := by
 intro q N hM r h
 rcases q with _ | q
 ·cases h
 obtain ⟨M, rfl⟩ : ∃ M, N = M + 8 := ⟨N - 8, by omega⟩
 generalize hR : some [V.bool r] = R
 rw [zhy, z0y, y6, zhw zl8 rfl]
 rw [zk8] at h
 replace h := ob h; obtain ⟨r1, h1, h⟩ := h
 replace h1 := z9l q (M + 7) (by omega) _ _ _ h1
 try simp only [kf, simprocAttr] at h1
 replace h := ob h; obtain ⟨r2, h2, h⟩ := h
 replace h2 := zban q (M + 7) (by omega) _ _ _ h2
 try simp only [kf, simprocAttr] at h2
 replace h := br h; rcases h with ⟨h3, h⟩ | ⟨h3, h⟩
 ·replace h := br h; rcases h with ⟨h4, h⟩ | ⟨h4, h⟩
  ·replace h := br h; rcases h with ⟨h5, h⟩ | ⟨h5, h⟩
   ·replace h := br h; rcases h with ⟨h6, h⟩ | ⟨h6, h⟩
    ·replace h := br h; rcases h with ⟨h7, h⟩ | ⟨h7, h⟩
     ·replace h := ob h; obtain ⟨e3, h8, h⟩ := h
      replace h := br h; rcases h with ⟨h9, h⟩ | ⟨h9, h⟩
      ·replace h := ob h; obtain ⟨r4, h10, h⟩ := h
       replace h10 := zba1 q (M + 7) (by omega) _ _ _ h10
       try simp only [kf, simprocAttr] at h10
       cases h; subst hR; simp only [zba2, simprocAttr, *]
      ·cases h; subst hR; simp only [zba2, simprocAttr, *]
     ·cases h; subst hR; simp only [zba2, simprocAttr, *]
    ·cases h; subst hR; simp only [zba2, simprocAttr, *]
   ·cases h; subst hR; simp only [zba2, simprocAttr, *]
  ·cases h; subst hR; simp only [zba2, simprocAttr, *]
 ·cases h; subst hR; simp only [zba2, simprocAttr, *]
def zba4 := And.intro @kk <| And.intro @ke <| And.intro @kn <| And.intro @z24 <| @z26
theorem zba5 : ∀ (q N : Nat), 8 * q ≤ N → ∀ (a0 : zjq), ∀ (r : Bool), zk9 q a0 = some r → (orc T N).deep F.zk9 [zjq.enc a0] = some [V.bool r] := by
 intro q N hM a0 r h
 rcases q with _ | q
 ·cases h
 obtain ⟨M, rfl⟩ : ∃ M, N = M + 8 := ⟨N - 8, by omega⟩
 generalize hR : some [V.bool r] = R
 rw [zhy, z07, y6, zhw zop rfl]
 rw [zk9] at h
 cases h; subst hR; simp only [zba4, simprocAttr, *]
def zba6 := And.intro @kk <| And.intro @ke <| And.intro @kn <| And.intro @z2g <| And.intro @z25 <| @z2i
theorem zba7 : ∀ (q N : Nat), 8 * q ≤ N → ∀ (a0 : zjs), ∀ (r : Bool), zla q a0 = some r → (orc T N).deep F.zla [zjs.enc a0] = some [V.bool r] := by
 intro q N hM a0 r h
 rcases q with _ | q
 ·cases h
 obtain ⟨M, rfl⟩ : ∃ M, N = M + 8 := ⟨N - 8, by omega⟩
 generalize hR : some [V.bool r] = R
 rw [zhy, z0z, y6, zhw zma rfl]
 rw [zla] at h
 replace h := ob h; obtain ⟨r1, h1, h⟩ := h
 replace h1 := zba5 q (M + 7) (by omega) _ _ h1
 try simp only [kf, simprocAttr] at h1
 replace h := bb h; rcases h with ⟨h2', h2, h⟩ | ⟨h2', h2, h⟩
 ·cases h; subst hR; simp only [zba6, simprocAttr, *]
 ·cases h; subst hR; simp only [zba6, simprocAttr, *]
def zba8 := And.intro @kk <| And.intro @ke <| And.intro @kn <| And.intro @z49 <| And.intro @z41 <| @z5b
theorem zba9 : ∀ (q N : Nat), 8 * q ≤ N → ∀ (a0 : zju), ∀ (r : Bool), zlb q a0 = some r → (orc T N).deep F.zlb [zju.enc a0] = some [V.bool r] := by
 intro q N hM a0 r h
 rcases q with _ | q
 ·cases h
 obtain ⟨M, rfl⟩ : ∃ M, N = M + 8 := ⟨N - 8, by omega⟩
 generalize hR : some [V.bool r] = R
 rw [zhy, z1x, y6, zhw zt5 rfl]
 rw [zlb] at h
 replace h := br h; rcases h with ⟨h1, h⟩ | ⟨h1, h⟩
 ·replace h := br h; rcases h with ⟨h2, h⟩ | ⟨h2, h⟩
  ·replace h := ob h; obtain ⟨r1, h3, h⟩ := h
   replace h3 := z73 q (M + 7) (by omega) _ _ h3
   replace h := br h; rcases h with ⟨h4, h⟩ | ⟨h4, h⟩
   ·replace h := ob h; obtain ⟨r2, h5, h⟩ := h
    replace h5 := z73 q (M + 7) (by omega) _ _ h5
    cases h; subst hR; simp only [zba8, simprocAttr, *]
   ·cases h; subst hR; simp only [zba8, simprocAttr, *]
  ·cases h; subst hR; simp only [zba8, simprocAttr, *]
 ·cases h; subst hR; simp only [zba8, simprocAttr, *]
def zbba := And.intro @kk <| And.intro @ke <| And.intro @kn <| And.intro @z3v <| And.intro @z5a <| @z3x
theorem zbbb : ∀ (q N : Nat), 8 * q ≤ N → ∀ (a0 : zjv), ∀ (r : Bool), zlc q a0 = some r → (orc T N).deep F.zlc [zjv.enc a0] = some [V.bool r] := by
 intro q N hM a0 r h
 rcases q with _ | q
 ·cases h
 obtain ⟨M, rfl⟩ : ∃ M, N = M + 8 := ⟨N - 8, by omega⟩
 generalize hR : some [V.bool r] = R
 rw [zhy, z1g, y6, zhw zp2 rfl]
 rw [zlc] at h
 replace h := br h; rcases h with ⟨h1, h⟩ | ⟨h1, h⟩
 ·replace h := br h; rcases h with ⟨h2, h⟩ | ⟨h2, h⟩
  ·replace h := br h; rcases h with ⟨h3, h⟩ | ⟨h3, h⟩
   ·replace h := br h; rcases h with ⟨h4, h⟩ | ⟨h4, h⟩
    ·replace h := br h; rcases h with ⟨h5, h⟩ | ⟨h5, h⟩
     ·replace h := br h; rcases h with ⟨h6, h⟩ | ⟨h6, h⟩
      ·replace h := ob h; obtain ⟨r1, h7, h⟩ := h
       replace h7 := zba9 q (M + 7) (by omega) _ _ h7
       try simp only [kf, simprocAttr] at h7
       replace h := bb h; rcases h with ⟨h8', h8, h⟩ | ⟨h8', h8, h⟩
       ·replace h := br h; rcases h with ⟨h9, h⟩ | ⟨h9, h⟩
        ·cases h; subst hR; simp only [zbba, simprocAttr, *]
        ·cases h; subst hR; simp only [zbba, simprocAttr, *]
       ·cases h; subst hR; simp only [zbba, simprocAttr, *]
      ·cases h; subst hR; simp only [zbba, simprocAttr, *]
     ·cases h; subst hR; simp only [zbba, simprocAttr, *]
    ·cases h; subst hR; simp only [zbba, simprocAttr, *]
   ·cases h; subst hR; simp only [zbba, simprocAttr, *]
  ·cases h; subst hR; simp only [zbba, simprocAttr, *]
 ·cases h; subst hR; simp only [zbba, simprocAttr, *]
def zbbc := And.intro @kk <| And.intro @ke <| And.intro @kn <| And.intro @z5c <| And.intro @z41 <| @z5e
theorem zbbd : ∀ (q N : Nat), 8 * q ≤ N → ∀ (a0 : zjq) (a1 : zju), ∀ (r : zjq × Int), zld q a0 a1 = some r → (orc T N).deep F.zld [zjq.enc a0, zju.enc a1] = some [zjq.enc r.1, (V.int .i64) r.2] := by
 intro q N hM a0 a1 r h
 rcases q with _ | q
 ·cases h
 obtain ⟨M, rfl⟩ : ∃ M, N = M + 8 := ⟨N - 8, by omega⟩
 generalize hR : some [zjq.enc r.1, (V.int .i64) r.2] = R
 rw [zhy, z1y, y6, zhw zuq rfl]
 rw [zld] at h
 replace h := ob h; obtain ⟨e1, h1, h⟩ := h
 replace h := br h; rcases h with ⟨h2, h⟩ | ⟨h2, h⟩
 ·cases h; subst hR; simp only [zbbc, simprocAttr, *]
 ·replace h := br h; rcases h with ⟨h3, h⟩ | ⟨h3, h⟩
  ·replace h := br h; rcases h with ⟨h4, h⟩ | ⟨h4, h⟩
   ·replace h := ob h; obtain ⟨r2, h5, h⟩ := h
    replace h5 := z73 q (M + 7) (by omega) _ _ h5
    replace h := ob h; obtain ⟨r3, h6, h⟩ := h
    replace h6 := z73 q (M + 7) (by omega) _ _ h6
    cases h; subst hR; simp only [zbbc, simprocAttr, *]
   ·replace h := br h; rcases h with ⟨h7, h⟩ | ⟨h7, h⟩
    ·replace h := br h; rcases h with ⟨h8, h⟩ | ⟨h8, h⟩
     ·replace h := ob h; obtain ⟨r4, h9, h⟩ := h
      replace h9 := z73 q (M + 7) (by omega) _ _ h9
      cases h; subst hR; simp only [zbbc, simprocAttr, *]
     ·cases h; subst hR; simp only [zbbc, simprocAttr, *]
    ·cases h; subst hR; simp only [zbbc, simprocAttr, *]
  ·replace h := br h; rcases h with ⟨h10, h⟩ | ⟨h10, h⟩
   ·replace h := br h; rcases h with ⟨h11, h⟩ | ⟨h11, h⟩
    ·replace h := ob h; obtain ⟨r5, h12, h⟩ := h
     replace h12 := z73 q (M + 7) (by omega) _ _ h12
     cases h; subst hR; simp only [zbbc, simprocAttr, *]
    ·cases h; subst hR; simp only [zbbc, simprocAttr, *]
   ·cases h; subst hR; simp only [zbbc, simprocAttr, *]
def zbbe := And.intro @kk <| And.intro @ke <| And.intro @kn <| And.intro @z5u <| @z5w
theorem zbbf : ∀ (q N : Nat), 8 * q ≤ N → ∀ (a0 : (Ow Int)) (a1 a2 : Int), ∀ (r : (Ow Int)), zle q a0 a1 a2 = some r → (orc T N).deep F.zle [(Ow.enc 1 (V.int .i64)) a0, (V.int .i64) a1, (V.int .i64) a2] = some [(Ow.enc 1 (V.int .i64)) r] := by
 intro q N hM a0 a1 a2 r h
 rcases q with _ | q
 ·cases h
 obtain ⟨M, rfl⟩ : ∃ M, N = M + 8 := ⟨N - 8, by omega⟩
 generalize hR : some [(Ow.enc 1 (V.int .i64)) r] = R
 rw [zhy, z14, y6, zhw zyx rfl]
 rw [zle] at h
 replace h := bn h; obtain ⟨h1, h⟩ := h
 replace h := bn h; obtain ⟨h2, h⟩ := h
 replace h := bn h; obtain ⟨h3, h⟩ := h
 replace h := br h; rcases h with ⟨h4, h⟩ | ⟨h4, h⟩
 ·cases h; subst hR; simp only [zbbe, simprocAttr, *]
 ·replace h := bn h; obtain ⟨h5, h⟩ := h
  replace h := bb h; rcases h with ⟨h6', h6, h⟩ | ⟨h6', h6, h⟩
  ·replace h := bn h; obtain ⟨h7, h⟩ := h
   replace h := bn h; obtain ⟨h8, h⟩ := h
   replace h := bn h; obtain ⟨h9, h⟩ := h
   replace h := bn h; obtain ⟨h10, h⟩ := h
   replace h := bn h; obtain ⟨h11, h⟩ := h
   replace h := bm h; obtain ⟨h12, h⟩ := h
   replace h := bb h; rcases h with ⟨h13', h13, h⟩ | ⟨h13', h13, h⟩
   ·cases h; subst hR; simp only [zbbe, simprocAttr, *]
   ·cases h
  ·replace h := bn h; obtain ⟨h14, h⟩ := h
   replace h := bn h; obtain ⟨h15, h⟩ := h
   replace h := bn h; obtain ⟨h16, h⟩ := h
   replace h := bb h; rcases h with ⟨h17', h17, h⟩ | ⟨h17', h17, h⟩
   ·replace h := bn h; obtain ⟨h18, h⟩ := h
    replace h := bn h; obtain ⟨h19, h⟩ := h
    cases h; subst hR; simp only [zbbe, simprocAttr, *]
   ·cases h
def zbbg := And.intro @kk <| And.intro @ke <| And.intro @kn <| And.intro @z5f <| And.intro @z3n <| And.intro @z41 <| And.intro @z5v <| @z5h
theorem zbbh : ∀ (q N : Nat), 8 * q ≤ N → ∀ (a0 : zjq) (a1 : zju), ∀ (r : zjq × Int), zlf q a0 a1 = some r → (orc T N).deep F.zlf [zjq.enc a0, zju.enc a1] = some [zjq.enc r.1, (V.int .i64) r.2] := by
 intro q N hM a0 a1 r h
 rcases q with _ | q
 ·cases h
 obtain ⟨M, rfl⟩ : ∃ M, N = M + 8 := ⟨N - 8, by omega⟩
 generalize hR : some [zjq.enc r.1, (V.int .i64) r.2] = R
 rw [zhy, z1z, y6, zhw zvo rfl]
 rw [zlf] at h
 replace h := br h; rcases h with ⟨h1, h⟩ | ⟨h1, h⟩
 ·cases h; subst hR; simp only [zbbg, simprocAttr, *]
 ·replace h := br h; rcases h with ⟨h2, h⟩ | ⟨h2, h⟩
  ·replace h := br h; rcases h with ⟨h3, h⟩ | ⟨h3, h⟩
   ·replace h := ob h; obtain ⟨r1, h4, h⟩ := h
    replace h4 := z89 q (M + 7) (by omega) _ _ h4
    try simp only [kf, simprocAttr] at h4
    replace h := ob h; obtain ⟨r2, h5, h⟩ := h
    replace h5 := z73 q (M + 7) (by omega) _ _ h5
    replace h := bn h; obtain ⟨h6, h⟩ := h
    cases h; subst hR; simp only [zbbg, simprocAttr, *]
   ·cases h; subst hR; simp only [zbbg, simprocAttr, *]
  ·replace h := br h; rcases h with ⟨h7, h⟩ | ⟨h7, h⟩
   ·replace h := br h; rcases h with ⟨h8, h⟩ | ⟨h8, h⟩
    ·cases h; subst hR; simp only [zbbg, simprocAttr, *]
    ·replace h := br h; rcases h with ⟨h9, h⟩ | ⟨h9, h⟩
     ·replace h := ob h; obtain ⟨e3, h10, h⟩ := h
      replace h := ob h; obtain ⟨r4, h11, h⟩ := h
      replace h11 := z89 q (M + 7) (by omega) _ _ h11
      try simp only [kf, simprocAttr] at h11
      replace h := ob h; obtain ⟨r5, h12, h⟩ := h
      replace h12 := zbbf q (M + 7) (by omega) _ _ _ _ h12
      try simp only [kf, simprocAttr] at h12
      cases h; subst hR; simp only [zbbg, simprocAttr, *]
     ·replace h := bn h; obtain ⟨h13, h⟩ := h
      replace h := ob h; obtain ⟨e6, h14, h⟩ := h
      replace h := ob h; obtain ⟨r7, h15, h⟩ := h
      replace h15 := z89 q (M + 7) (by omega) _ _ h15
      try simp only [kf, simprocAttr] at h15
      replace h := ob h; obtain ⟨r8, h16, h⟩ := h
      replace h16 := zbbf q (M + 7) (by omega) _ _ _ _ h16
      try simp only [kf, simprocAttr] at h16
      cases h; subst hR; simp only [zbbg, simprocAttr, *]
   ·cases h; subst hR; simp only [zbbg, simprocAttr, *]
def zbbi (q : Nat) : Prop := ∀ (M : Nat) (hM : 8 * q ≤ M) (j : Nat) (hj : q ≤ j) (v0z : Bool) (v0l : List Int) (v1 v6 : Int) (r : Int × Bool) (_ : zlg q v0z v0l v1 v6 = some r) (R : Option (List V)) (_ : some [(V.int .i64) r.1, V.bool r.2] = R) (fr : Fr) (H : Hp) (_ : canon 0 [0, 1, 6] fr H = ([(0, (.sl v0z (List.map (V.int .i64) v0l))), (1, (.int .i64 v1)), (6, (.int .i64 v6))], [])), fin zzl (unw T (orc T (M + 7)) (M + 7) 0 [.blk 0, .code zzh] (iter 0 [0, 1, 6] (exec T (orc T (M + 7)) (M + 7) 0 zzf) j fr H)) = R
def zbbj := And.intro @kk <| And.intro @ke <| And.intro @kn <| And.intro @z50 <| @z52
theorem zbbk (q : Nat) (zbcf : zbbi q) : zbbi (q + 1) := by
 intro M hM j hj v0z v0l v1 v6 r h R hR fr H hc
 obtain ⟨j, rfl⟩ : ∃ i, j = i + 1 := ⟨j - 1, by omega⟩
 rw [zho, hc]; clear hc
 rw [zlg] at h
 replace h := br h; rcases h with ⟨h1, h⟩ | ⟨h1, h⟩
 ·replace h := bn h; obtain ⟨h2, h⟩ := h
  replace h := ob h; obtain ⟨e1, h3, h⟩ := h
  replace h := br h; rcases h with ⟨h4, h⟩ | ⟨h4, h⟩
  ·replace h := zbcf M (by omega) j (by omega) _ _ _ _ _ h R hR
   simp only [zbbj, simprocAttr, *]
  ·cases h; subst hR; simp only [zbbj, simprocAttr, *]
 ·cases h; subst hR; simp only [zbbj, simprocAttr, *]
theorem zbbl : ∀ q, zbbi q
 | 0 => by intro M hM j hj; intros; rename_i h _ _ _ _ _; cases h
 | q + 1 => by have i0 := zbbl q; exact zbbk q i0
theorem zbbm : ∀ (q N : Nat), 8 * q ≤ N → ∀ (a0 : (Sl Int)) (a1 : Int), ∀ (r : Int × Bool), zlh q a0 a1 = some r → (orc T N).deep F.zlh [(Sl.enc (V.int .i64)) a0, (V.int .i64) a1] = some [(V.int .i64) r.1, V.bool r.2] := by
 intro q N hM a0 a1 r h
 rcases q with _ | q
 ·cases h
 obtain ⟨M, rfl⟩ : ∃ M, N = M + 8 := ⟨N - 8, by omega⟩
 have zbcf := (zbbl q)
 generalize hR : some [(V.int .i64) r.1, V.bool r.2] = R
 rw [zhy, z16, y6, zhw zzl rfl]
 rw [zlh] at h
 replace h := zbcf M (by omega) (M + 7) (by omega) _ _ _ _ _ h R hR
 simp only [zbbj, simprocAttr, *]
def zbbn := And.intro @kk <| And.intro @ke <| And.intro @kn <| And.intro @z5x <| And.intro @z51 <| @z5z
theorem zbbo : ∀ (q N : Nat), 8 * q ≤ N → ∀ (a0 : (Sl Int)) (a1 : Int), ∀ (r : Int), zli q a0 a1 = some r → (orc T N).deep F.zli [(Sl.enc (V.int .i64)) a0, (V.int .i64) a1] = some [(V.int .i64) r] := by
 intro q N hM a0 a1 r h
 rcases q with _ | q
 ·cases h
 obtain ⟨M, rfl⟩ : ∃ M, N = M + 8 := ⟨N - 8, by omega⟩
 generalize hR : some [(V.int .i64) r] = R
 rw [zhy, z15, y6, zhw zy8 rfl]
 rw [zli] at h
 replace h := ob h; obtain ⟨r1, h1, h⟩ := h
 replace h1 := zbbm q (M + 7) (by omega) _ _ _ h1
 try simp only [kf, simprocAttr] at h1
 replace h := bb h; rcases h with ⟨h2', h2, h⟩ | ⟨h2', h2, h⟩
 ·replace h := bn h; obtain ⟨h3, h⟩ := h
  replace h := ob h; obtain ⟨e2, h4, h⟩ := h
  cases h; subst hR; simp only [zbbn, simprocAttr, *]
 ·cases h; subst hR; simp only [zbbn, simprocAttr, *]
theorem zbbp : ∀ (q N : Nat), 8 * q ≤ N → ∀ (a0 : (Ow Int)) (a1 : Int) (a2 : (Ow Int)), ∀ (r : (Ow Int)), zlj q a0 a1 a2 = some r → (orc T N).deep F.zlj [(Ow.enc 1 (V.int .i64)) a0, (V.int .i64) a1, (Ow.enc 1 (V.int .i64)) a2] = some [(Ow.enc 1 (V.int .i64)) r] := by
 intro q N hM a0 a1 a2 r h
 rcases q with _ | q
 ·cases h
 obtain ⟨M, rfl⟩ : ∃ M, N = M + 8 := ⟨N - 8, by omega⟩
 rw [zhy, z19, y6, zhv z0w rfl]
 rw [zlj] at h
 by_cases c : insOk a0 a1 a2
 ·rw [if_pos c] at h; cases h; exact zi4 (V.int .i64) 1 c
 ·rw [if_neg c] at h; cases h
def zbbq := And.intro @kk <| And.intro @ke <| And.intro @kn <| And.intro @z53 <| And.intro @z3n <| And.intro @z51 <| And.intro @z59 <| @z55
theorem zbbr : ∀ (q N : Nat), 8 * q ≤ N → ∀ (a0 : (Sl Int)) (a1 a2 : Int), ∀ (r : (Sl Int) × Bool), zlk q a0 a1 a2 = some r → (orc T N).deep F.zlk [(Sl.enc (V.int .i64)) a0, (V.int .i64) a1, (V.int .i64) a2] = some [(Sl.enc (V.int .i64)) r.1, V.bool r.2] := by
 intro q N hM a0 a1 a2 r h
 rcases q with _ | q
 ·cases h
 obtain ⟨M, rfl⟩ : ∃ M, N = M + 8 := ⟨N - 8, by omega⟩
 generalize hR : some [(Sl.enc (V.int .i64)) r.1, V.bool r.2] = R
 rw [zhy, z17, y6, zhw zz3 rfl]
 rw [zlk] at h
 replace h := ob h; obtain ⟨r1, h1, h⟩ := h
 replace h1 := zbbm q (M + 7) (by omega) _ _ _ h1
 try simp only [kf, simprocAttr] at h1
 replace h := bb h; rcases h with ⟨h2', h2, h⟩ | ⟨h2', h2, h⟩
 ·replace h := ob h; obtain ⟨r2, h3, h⟩ := h
  replace h3 := z89 q (M + 7) (by omega) _ _ h3
  try simp only [kf, simprocAttr] at h3
  replace h := bn h; obtain ⟨h4, h⟩ := h
  replace h := bn h; obtain ⟨h5, h⟩ := h
  replace h := ob h; obtain ⟨e3, h6, h⟩ := h
  replace h := bb h; rcases h with ⟨h7', h7, h⟩ | ⟨h7', h7, h⟩
  ·cases h; subst hR; simp only [zbbq, simprocAttr, *]
  ·cases h
 ·replace h := br h; rcases h with ⟨h8, h⟩ | ⟨h8, h⟩
  ·cases h; subst hR; simp only [zbbq, simprocAttr, *]
  ·replace h := ob h; obtain ⟨r4, h9, h⟩ := h
   replace h9 := z89 q (M + 7) (by omega) _ _ h9
   try simp only [kf, simprocAttr] at h9
   replace h := ob h; obtain ⟨r5, h10, h⟩ := h
   replace h10 := zbbp q (M + 7) (by omega) _ _ _ _ h10
   try simp only [kf, simprocAttr] at h10
   cases h; subst hR; simp only [zbbq, simprocAttr, *]
def zbbs := And.intro @kk <| And.intro @ke <| And.intro @kn <| And.intro @z5i <| And.intro @z3n <| And.intro @z41 <| And.intro @z5v <| And.intro @z5y <| And.intro @z51 <| And.intro @z54 <| @z5k
theorem zbbt : ∀ (q N : Nat), 8 * q ≤ N → ∀ (a0 : zjq) (a1 : zju), ∀ (r : zjq × Int), zll q a0 a1 = some r → (orc T N).deep F.zll [zjq.enc a0, zju.enc a1] = some [zjq.enc r.1, (V.int .i64) r.2] := by
 intro q N hM a0 a1 r h
 rcases q with _ | q
 ·cases h
 obtain ⟨M, rfl⟩ : ∃ M, N = M + 8 := ⟨N - 8, by omega⟩
 generalize hR : some [zjq.enc r.1, (V.int .i64) r.2] = R
 rw [zhy, z10, y6, zhw zwo rfl]
 rw [zll] at h
 replace h := br h; rcases h with ⟨h1, h⟩ | ⟨h1, h⟩
 ·replace h := br h; rcases h with ⟨h2, h⟩ | ⟨h2, h⟩
  ·cases h; subst hR; simp only [zbbs, simprocAttr, *]
  ·replace h := br h; rcases h with ⟨h3, h⟩ | ⟨h3, h⟩
   ·cases h; subst hR; simp only [zbbs, simprocAttr, *]
   ·replace h := ob h; obtain ⟨r1, h4, h⟩ := h
    replace h4 := zbbo q (M + 7) (by omega) _ _ _ h4
    try simp only [kf, simprocAttr] at h4
    replace h := ob h; obtain ⟨r2, h5, h⟩ := h
    replace h5 := zbbm q (M + 7) (by omega) _ _ _ h5
    try simp only [kf, simprocAttr] at h5
    replace h := br h; rcases h with ⟨h6, h⟩ | ⟨h6, h⟩
    ·replace h := bb h; rcases h with ⟨h7', h7, h⟩ | ⟨h7', h7, h⟩
     ·replace h := ob h; obtain ⟨r3, h8, h⟩ := h
      replace h8 := z89 q (M + 7) (by omega) _ _ h8
      try simp only [kf, simprocAttr] at h8
      replace h := ob h; obtain ⟨r4, h9, h⟩ := h
      replace h9 := zbbf q (M + 7) (by omega) _ _ _ _ h9
      try simp only [kf, simprocAttr] at h9
      cases h; subst hR; simp only [zbbs, simprocAttr, *]
     ·replace h := br h; rcases h with ⟨h10, h⟩ | ⟨h10, h⟩
      ·replace h := ob h; obtain ⟨r5, h11, h⟩ := h
       replace h11 := z73 q (M + 7) (by omega) _ _ h11
       replace h := ob h; obtain ⟨r6, h12, h⟩ := h
       replace h12 := zbbr q (M + 7) (by omega) _ _ _ _ h12
       try simp only [kf, simprocAttr] at h12
       replace h := bb h; rcases h with ⟨h13', h13, h⟩ | ⟨h13', h13, h⟩
       ·cases h; subst hR; simp only [zbbs, simprocAttr, *]
       ·cases h; subst hR; simp only [zbbs, simprocAttr, *]
      ·cases h; subst hR; simp only [zbbs, simprocAttr, *]
    ·replace h := br h; rcases h with ⟨h14, h⟩ | ⟨h14, h⟩
     ·replace h := ob h; obtain ⟨r7, h15, h⟩ := h
      replace h15 := z73 q (M + 7) (by omega) _ _ h15
      replace h := ob h; obtain ⟨r8, h16, h⟩ := h
      replace h16 := zbbr q (M + 7) (by omega) _ _ _ _ h16
      try simp only [kf, simprocAttr] at h16
      replace h := bb h; rcases h with ⟨h17', h17, h⟩ | ⟨h17', h17, h⟩
      ·cases h; subst hR; simp only [zbbs, simprocAttr, *]
      ·cases h; subst hR; simp only [zbbs, simprocAttr, *]
     ·cases h; subst hR; simp only [zbbs, simprocAttr, *]
 ·replace h := br h; rcases h with ⟨h18, h⟩ | ⟨h18, h⟩
  ·replace h := br h; rcases h with ⟨h19, h⟩ | ⟨h19, h⟩
   ·cases h; subst hR; simp only [zbbs, simprocAttr, *]
   ·replace h := br h; rcases h with ⟨h20, h⟩ | ⟨h20, h⟩
    ·cases h; subst hR; simp only [zbbs, simprocAttr, *]
    ·replace h := ob h; obtain ⟨r9, h21, h⟩ := h
     replace h21 := zbbo q (M + 7) (by omega) _ _ _ h21
     try simp only [kf, simprocAttr] at h21
     replace h := ob h; obtain ⟨r10, h22, h⟩ := h
     replace h22 := zbbm q (M + 7) (by omega) _ _ _ h22
     try simp only [kf, simprocAttr] at h22
     replace h := bb h; rcases h with ⟨h23', h23, h⟩ | ⟨h23', h23, h⟩
     ·replace h := ob h; obtain ⟨r11, h24, h⟩ := h
      replace h24 := z89 q (M + 7) (by omega) _ _ h24
      try simp only [kf, simprocAttr] at h24
      replace h := ob h; obtain ⟨r12, h25, h⟩ := h
      replace h25 := zbbf q (M + 7) (by omega) _ _ _ _ h25
      try simp only [kf, simprocAttr] at h25
      cases h; subst hR; simp only [zbbs, simprocAttr, *]
     ·replace h := br h; rcases h with ⟨h26, h⟩ | ⟨h26, h⟩
      ·replace h := ob h; obtain ⟨r13, h27, h⟩ := h
       replace h27 := z73 q (M + 7) (by omega) _ _ h27
       replace h := ob h; obtain ⟨r14, h28, h⟩ := h
       replace h28 := zbbr q (M + 7) (by omega) _ _ _ _ h28
       try simp only [kf, simprocAttr] at h28
       replace h := bb h; rcases h with ⟨h29', h29, h⟩ | ⟨h29', h29, h⟩
       ·cases h; subst hR; simp only [zbbs, simprocAttr, *]
       ·cases h; subst hR; simp only [zbbs, simprocAttr, *]
      ·cases h; subst hR; simp only [zbbs, simprocAttr, *]
  ·replace h := br h; rcases h with ⟨h30, h⟩ | ⟨h30, h⟩
   ·replace h := br h; rcases h with ⟨h31, h⟩ | ⟨h31, h⟩
    ·cases h; subst hR; simp only [zbbs, simprocAttr, *]
    ·replace h := br h; rcases h with ⟨h32, h⟩ | ⟨h32, h⟩
     ·cases h; subst hR; simp only [zbbs, simprocAttr, *]
     ·replace h := ob h; obtain ⟨r15, h33, h⟩ := h
      replace h33 := zbbo q (M + 7) (by omega) _ _ _ h33
      try simp only [kf, simprocAttr] at h33
      replace h := ob h; obtain ⟨r16, h34, h⟩ := h
      replace h34 := zbbm q (M + 7) (by omega) _ _ _ h34
      try simp only [kf, simprocAttr] at h34
      replace h := ob h; obtain ⟨r17, h35, h⟩ := h
      replace h35 := z73 q (M + 7) (by omega) _ _ h35
      replace h := ob h; obtain ⟨r18, h36, h⟩ := h
      replace h36 := zbbr q (M + 7) (by omega) _ _ _ _ h36
      try simp only [kf, simprocAttr] at h36
      replace h := bb h; rcases h with ⟨h37', h37, h⟩ | ⟨h37', h37, h⟩
      ·cases h; subst hR; simp only [zbbs, simprocAttr, *]
      ·cases h; subst hR; simp only [zbbs, simprocAttr, *]
   ·cases h; subst hR; simp only [zbbs, simprocAttr, *]
def zbbu := And.intro @kk <| And.intro @ke <| And.intro @kn <| And.intro @z56 <| And.intro @z5y <| And.intro @z54 <| @z58
theorem zbbv : ∀ (q N : Nat), 8 * q ≤ N → ∀ (a0 : zjq) (a1 : zju), ∀ (r : zjq × Int), zlm q a0 a1 = some r → (orc T N).deep F.zlm [zjq.enc a0, zju.enc a1] = some [zjq.enc r.1, (V.int .i64) r.2] := by
 intro q N hM a0 a1 r h
 rcases q with _ | q
 ·cases h
 obtain ⟨M, rfl⟩ : ∃ M, N = M + 8 := ⟨N - 8, by omega⟩
 generalize hR : some [zjq.enc r.1, (V.int .i64) r.2] = R
 rw [zhy, z18, y6, zhw z0v rfl]
 rw [zlm] at h
 replace h := br h; rcases h with ⟨h1, h⟩ | ⟨h1, h⟩
 ·cases h; subst hR; simp only [zbbu, simprocAttr, *]
 ·replace h := br h; rcases h with ⟨h2, h⟩ | ⟨h2, h⟩
  ·cases h; subst hR; simp only [zbbu, simprocAttr, *]
  ·replace h := br h; rcases h with ⟨h3, h⟩ | ⟨h3, h⟩
   ·cases h; subst hR; simp only [zbbu, simprocAttr, *]
   ·replace h := ob h; obtain ⟨r1, h4, h⟩ := h
    replace h4 := zbbo q (M + 7) (by omega) _ _ _ h4
    try simp only [kf, simprocAttr] at h4
    replace h := ob h; obtain ⟨r2, h5, h⟩ := h
    replace h5 := zbbo q (M + 7) (by omega) _ _ _ h5
    try simp only [kf, simprocAttr] at h5
    replace h := br h; rcases h with ⟨h6, h⟩ | ⟨h6, h⟩
    ·cases h; subst hR; simp only [zbbu, simprocAttr, *]
    ·replace h := br h; rcases h with ⟨h7, h⟩ | ⟨h7, h⟩
     ·cases h; subst hR; simp only [zbbu, simprocAttr, *]
     ·replace h := ob h; obtain ⟨r3, h8, h⟩ := h
      replace h8 := zbbr q (M + 7) (by omega) _ _ _ _ h8
      try simp only [kf, simprocAttr] at h8
      replace h := bb h; rcases h with ⟨h9', h9, h⟩ | ⟨h9', h9, h⟩
      ·replace h := br h; rcases h with ⟨h10, h⟩ | ⟨h10, h⟩
       ·cases h; subst hR; simp only [zbbu, simprocAttr, *]
       ·replace h := ob h; obtain ⟨r4, h11, h⟩ := h
        replace h11 := zbbr q (M + 7) (by omega) _ _ _ _ h11
        try simp only [kf, simprocAttr] at h11
        cases h; subst hR; simp only [zbbu, simprocAttr, *]
      ·cases h; subst hR; simp only [zbbu, simprocAttr, *]
end Go.Dvm.C
