/- The machine comes to these answers: part 1. -/
import Derived.Test.YtngajodhbioheaaQl0
set_option linter.all false
set_option maxRecDepth 100000
set_option maxHeartbeats 4000000
namespace Go.Dvm.C
open Go Go.Dvm Go.Dvm.I
def zbc7 := And.intro @kk <| And.intro @ke <| And.intro @kn <| And.intro @z88 <| @z9a
theorem zbc8 : ∀ (q N : Nat), 8 * q ≤ N → ∀ (a0 r : Int), zjx q a0 = some r → (orc T N).deep F.zjx [(V.int .i64) a0] = some [(V.int .i64) r] := by
 intro q N hM a0 r h
 rcases q with _ | q
 ·cases h
 obtain ⟨M, rfl⟩ : ∃ M, N = M + 8 := ⟨N - 8, by omega⟩
 generalize hR : some [(V.int .i64) r] = R
 rw [zhx, z5r, y4, zhv zty rfl]
 rw [zjx] at h
 cases h; subst hR; simp only [zbc7, simprocAttr, *]
def zbc9 := And.intro @kk <| And.intro @ke <| And.intro @kn <| And.intro @z85 <| And.intro @z89 <| @z87
theorem zbda : ∀ (q N : Nat), 8 * q ≤ N → ∀ (a0 : Int), ∀ (r : Bool), zjy q a0 = some r → (orc T N).deep F.zjy [(V.int .i64) a0] = some [V.bool r] := by
 intro q N hM a0 r h
 rcases q with _ | q
 ·cases h
 obtain ⟨M, rfl⟩ : ∃ M, N = M + 8 := ⟨N - 8, by omega⟩
 generalize hR : some [V.bool r] = R
 rw [zhx, z5q, y4, zhv ztw rfl]
 rw [zjy] at h
 replace h := ob h; obtain ⟨r1, h1, h⟩ := h
 replace h1 := zbc8 q (M + 7) (by omega) _ _ h1
 cases h; subst hR; simp only [zbc9, simprocAttr, *]
def zbdb (q : Nat) : Prop := ∀ (M : Nat) (hM : 8 * q ≤ M) (j : Nat) (hj : q ≤ j) (v0z : Bool) (v0l : List Int) (v1 v5 v6 : Int) (r : Bool) (_ : zjz q v0z v0l v1 v5 v6 = some r) (R : Option (List V)) (_ : some [V.bool r] = R) (fr : Fr) (H : Hp) (_ : canon 0 [0, 1, 5, 6] fr H = ([(0, (.sl v0z (List.map (V.int .i64) v0l))), (1, (.int .i64 v1)), (5, (.int .i64 v5)), (6, (.int .i64 v6))], [])), fin zua (unw T (orc T (M + 7)) (M + 7) 0 [.blk 0, .code zt6] (iter 0 [0, 1, 5, 6] (exec T (orc T (M + 7)) (M + 7) 0 zt3) j fr H)) = R
def zbdc := And.intro @kk <| And.intro @ke <| And.intro @kn <| And.intro @z9b <| @z9d
theorem zbdd (q : Nat) (zbhh : zbdb q) : zbdb (q + 1) := by
 intro M hM j hj v0z v0l v1 v5 v6 r h R hR fr H hc
 obtain ⟨j, rfl⟩ : ∃ i, j = i + 1 := ⟨j - 1, by omega⟩
 rw [zhn, hc]; clear hc
 rw [zjz] at h
 replace h := br h; rcases h with ⟨h1, h⟩ | ⟨h1, h⟩
 ·replace h := bn h; obtain ⟨h2, h⟩ := h
  replace h := ob h; obtain ⟨e1, h3, h⟩ := h
  replace h := br h; rcases h with ⟨h4, h⟩ | ⟨h4, h⟩
  ·cases h; subst hR; simp only [zbdc, simprocAttr, *]
  ·replace h := br h; rcases h with ⟨h5, h⟩ | ⟨h5, h⟩
   ·cases h; subst hR; simp only [zbdc, simprocAttr, *]
   ·replace h := bn h; obtain ⟨h6, h⟩ := h
    replace h := ob h; obtain ⟨e2, h7, h⟩ := h
    replace h := br h; rcases h with ⟨h8, h⟩ | ⟨h8, h⟩
    ·cases h; subst hR; simp only [zbdc, simprocAttr, *]
    ·replace h := br h; rcases h with ⟨h9, h⟩ | ⟨h9, h⟩
     ·cases h; subst hR; simp only [zbdc, simprocAttr, *]
     ·replace h := zbhh M (by omega) j (by omega) _ _ _ _ _ _ h R hR
      simp only [zbdc, simprocAttr, *]
 ·replace h := br h; rcases h with ⟨h10, h⟩ | ⟨h10, h⟩
  ·cases h; subst hR; simp only [zbdc, simprocAttr, *]
  ·cases h; subst hR; simp only [zbdc, simprocAttr, *]
theorem zbde : ∀ q, zbdb q
 | 0 => by intro M hM j hj; intros; rename_i h _ _ _ _ _; cases h
 | q + 1 => by have i0 := zbde q; exact zbdd q i0
theorem zbdf : ∀ (q N : Nat), 8 * q ≤ N → ∀ (a0 : (Sl Int)) (a1 : Int), ∀ (r : Bool), zj0 q a0 a1 = some r → (orc T N).deep F.zj0 [(Sl.enc (V.int .i64)) a0, (V.int .i64) a1] = some [V.bool r] := by
 intro q N hM a0 a1 r h
 rcases q with _ | q
 ·cases h
 obtain ⟨M, rfl⟩ : ∃ M, N = M + 8 := ⟨N - 8, by omega⟩
 have zbhh := (zbde q)
 generalize hR : some [V.bool r] = R
 rw [zhx, z5s, y4, zhv zua rfl]
 rw [zj0] at h
 replace h := zbhh M (by omega) (M + 7) (by omega) _ _ _ _ _ _ h R hR
 simp only [zbdc, simprocAttr, *]
def zbdg (q : Nat) : Prop := ∀ (M : Nat) (hM : 8 * q ≤ M) (j : Nat) (hj : q ≤ j) (v0z : Bool) (v0l : List Int) (v7 v8 h0_0 : Int) (h0_1z : Bool) (h0_1l : List Int) (h0_2 : Bool) (h0_3 r : Int) (_ : zj1 q v0z v0l v7 v8 h0_0 h0_1z h0_1l h0_2 h0_3 = some r) (R : Option (List V × Hp)) (_ : (some ([(.int .i64 r)], [(.box [(.int .i64 h0_0), (.sl h0_1z (List.map (V.int .i64) h0_1l)), (.bool h0_2), (.int .i64 h0_3)])]) : Option (List V × Hp)) = R) (fr : Fr) (H : Hp) (_ : canon 1 [0, 1, 7, 8] fr H = ([(0, (.sl v0z (List.map (V.int .i64) v0l))), (1, (.fn F.zjy [])), (7, (.int .i64 v7)), (8, (.int .i64 v8))], [(.box [(.int .i64 h0_0), (.sl h0_1z (List.map (V.int .i64) h0_1l)), (.bool h0_2), (.int .i64 h0_3)])])), finI 1 false [.tmp 4] (unw T (orc T (M + 5)) (M + 5) 1 [.blk 0, .code z03] (iter 1 [0, 1, 7, 8] (exec T (orc T (M + 5)) (M + 5) 1 z00) j fr H)) = R
def zbdh := And.intro @kk <| And.intro @ke <| And.intro @kn <| And.intro @zbah <| @z86
theorem zbdi (q : Nat) (zbhi : zbdg q) : zbdg (q + 1) := by
 intro M hM j hj v0z v0l v7 v8 h0_0 h0_1z h0_1l h0_2 h0_3 r h R hR fr H hc
 obtain ⟨j, rfl⟩ : ∃ i, j = i + 1 := ⟨j - 1, by omega⟩
 rw [zhn, hc]; clear hc
 rw [zj1] at h
 replace h := br h; rcases h with ⟨h1, h⟩ | ⟨h1, h⟩
 ·replace h := bn h; obtain ⟨h2, h⟩ := h
  replace h := ob h; obtain ⟨e1, h3, h⟩ := h
  replace h := ob h; obtain ⟨r2, h4, h⟩ := h
  replace h4 := zbda q (M + 5) (by omega) _ _ h4
  replace h := bb h; rcases h with ⟨h5', h5, h⟩ | ⟨h5', h5, h⟩
  ·cases h; subst hR; simp only [zbdh, simprocAttr, *]
  ·replace h := zbhi M (by omega) j (by omega) _ _ _ _ _ _ _ _ _ _ h R hR
   simp only [zbdh, simprocAttr, *]
 ·cases h; subst hR; simp only [zbdh, simprocAttr, *]
theorem zbdj : ∀ q, zbdg q
 | 0 => by intro M hM j hj; intros; rename_i h _ _ _ _ _; cases h
 | q + 1 => by have i0 := zbdj q; exact zbdi q i0
theorem zbdk : ∀ (q M : Nat), 8 * q ≤ M → ∀ (v0z : Bool), ∀ (v0l : List Int), ∀ (h0_0 : Int), ∀ (h0_1z : Bool), ∀ (h0_1l : List Int), ∀ (h0_2 : Bool), ∀ (h0_3 r : Int), zj2 q v0z v0l h0_0 h0_1z h0_1l h0_2 h0_3 = some r → (orc T (M + 6)).inl F.zmc [(.sl v0z (List.map (V.int .i64) v0l)), (.fn F.zjy [])] [(.box [(.int .i64 h0_0), (.sl h0_1z (List.map (V.int .i64) h0_1l)), (.bool h0_2), (.int .i64 h0_3)])] = (some ([(.int .i64 r)], [(.box [(.int .i64 h0_0), (.sl h0_1z (List.map (V.int .i64) h0_1l)), (.bool h0_2), (.int .i64 h0_3)])]) : Option (List V × Hp)) := by
 intro q M hM v0z v0l h0_0 h0_1z h0_1l h0_2 h0_3 r h
 rcases q with _ | q
 ·cases h
 have zbhi := (zbdj q)
 generalize hR : (some ([(.int .i64 r)], [(.box [(.int .i64 h0_0), (.sl h0_1z (List.map (V.int .i64) h0_1l)), (.bool h0_2), (.int .i64 h0_3)])]) : Option (List V × Hp)) = R
 rw [zbaj (n := M + 5)]
 rw [zj2] at h
 replace h := zbhi M (by omega) (M + 5) (by omega) _ _ _ _ _ _ _ _ _ _ h R hR
 simp only [zbdh, simprocAttr, *]
def zbdl := And.intro @kk <| And.intro @ke <| And.intro @kn <| And.intro @z7f <| And.intro @z82 <| And.intro @z9c <| And.intro @zbai <| And.intro @z83 <| And.intro @z84 <| @z7h
theorem zbdm : ∀ (q N : Nat), 8 * q ≤ N → ∀ (a0 : zjq), ∀ (r : Bool), zj3 q a0 = some r → (orc T N).deep F.zj3 [zjq.enc a0] = some [V.bool r] := by
 intro q N hM a0 r h
 rcases q with _ | q
 ·cases h
 obtain ⟨M, rfl⟩ : ∃ M, N = M + 8 := ⟨N - 8, by omega⟩
 generalize hR : some [V.bool r] = R
 rw [zhx, z45, y4, zhv zpg rfl]
 rw [zj3] at h
 replace h := br h; rcases h with ⟨h1, h⟩ | ⟨h1, h⟩
 ·cases h; subst hR; simp only [zbdl, simprocAttr, *]
 ·replace h := br h; rcases h with ⟨h2, h⟩ | ⟨h2, h⟩
  ·cases h; subst hR; simp only [zbdl, simprocAttr, *]
  ·replace h := bb h; rcases h with ⟨h3', h3, h⟩ | ⟨h3', h3, h⟩
   ·replace h := ob h; obtain ⟨r1, h4, h⟩ := h
    replace h4 := zbdk q M (by omega) _ _ _ _ _ _ _ _ h4
    try simp only [kf, simprocAttr] at h4
    replace h := br h; rcases h with ⟨h5, h⟩ | ⟨h5, h⟩
    ·replace h := br h; rcases h with ⟨h6, h⟩ | ⟨h6, h⟩
     ·cases h; subst hR; simp only [zbdl, simprocAttr, *]
     ·cases h; subst hR; simp only [zbdl, simprocAttr, *]
    ·replace h := br h; rcases h with ⟨h7, h⟩ | ⟨h7, h⟩
     ·replace h := br h; rcases h with ⟨h8, h⟩ | ⟨h8, h⟩
      ·cases h; subst hR; simp only [zbdl, simprocAttr, *]
      ·cases h; subst hR; simp only [zbdl, simprocAttr, *]
     ·replace h := br h; rcases h with ⟨h9, h⟩ | ⟨h9, h⟩
      ·replace h := br h; rcases h with ⟨h10, h⟩ | ⟨h10, h⟩
       ·cases h; subst hR; simp only [zbdl, simprocAttr, *]
       ·cases h; subst hR; simp only [zbdl, simprocAttr, *]
      ·replace h := br h; rcases h with ⟨h11, h⟩ | ⟨h11, h⟩
       ·replace h := br h; rcases h with ⟨h12, h⟩ | ⟨h12, h⟩
        ·cases h; subst hR; simp only [zbdl, simprocAttr, *]
        ·cases h; subst hR; simp only [zbdl, simprocAttr, *]
       ·replace h := br h; rcases h with ⟨h13, h⟩ | ⟨h13, h⟩
        ·replace h := ob h; obtain ⟨r2, h14, h⟩ := h
         replace h14 := zbdf q (M + 7) (by omega) _ _ _ h14
         try simp only [kf, simprocAttr] at h14
         cases h; subst hR; simp only [zbdl, simprocAttr, *]
        ·replace h := br h; rcases h with ⟨h15, h⟩ | ⟨h15, h⟩
         ·replace h := ob h; obtain ⟨r3, h16, h⟩ := h
          replace h16 := zbdf q (M + 7) (by omega) _ _ _ h16
          try simp only [kf, simprocAttr] at h16
          cases h; subst hR; simp only [zbdl, simprocAttr, *]
         ·cases h; subst hR; simp only [zbdl, simprocAttr, *]
   ·replace h := br h; rcases h with ⟨h17, h⟩ | ⟨h17, h⟩
    ·replace h := ob h; obtain ⟨r4, h18, h⟩ := h
     replace h18 := zbdk q M (by omega) _ _ _ _ _ _ _ _ h18
     try simp only [kf, simprocAttr] at h18
     replace h := br h; rcases h with ⟨h19, h⟩ | ⟨h19, h⟩
     ·replace h := br h; rcases h with ⟨h20, h⟩ | ⟨h20, h⟩
      ·cases h; subst hR; simp only [zbdl, simprocAttr, *]
      ·cases h; subst hR; simp only [zbdl, simprocAttr, *]
     ·replace h := br h; rcases h with ⟨h21, h⟩ | ⟨h21, h⟩
      ·replace h := br h; rcases h with ⟨h22, h⟩ | ⟨h22, h⟩
       ·cases h; subst hR; simp only [zbdl, simprocAttr, *]
       ·cases h; subst hR; simp only [zbdl, simprocAttr, *]
      ·replace h := br h; rcases h with ⟨h23, h⟩ | ⟨h23, h⟩
       ·replace h := br h; rcases h with ⟨h24, h⟩ | ⟨h24, h⟩
        ·cases h; subst hR; simp only [zbdl, simprocAttr, *]
        ·cases h; subst hR; simp only [zbdl, simprocAttr, *]
       ·replace h := br h; rcases h with ⟨h25, h⟩ | ⟨h25, h⟩
        ·replace h := br h; rcases h with ⟨h26, h⟩ | ⟨h26, h⟩
         ·cases h; subst hR; simp only [zbdl, simprocAttr, *]
         ·cases h; subst hR; simp only [zbdl, simprocAttr, *]
        ·replace h := br h; rcases h with ⟨h27, h⟩ | ⟨h27, h⟩
         ·replace h := ob h; obtain ⟨r5, h28, h⟩ := h
          replace h28 := zbdf q (M + 7) (by omega) _ _ _ h28
          try simp only [kf, simprocAttr] at h28
          cases h; subst hR; simp only [zbdl, simprocAttr, *]
         ·replace h := br h; rcases h with ⟨h29, h⟩ | ⟨h29, h⟩
          ·replace h := ob h; obtain ⟨r6, h30, h⟩ := h
           replace h30 := zbdf q (M + 7) (by omega) _ _ _ h30
           try simp only [kf, simprocAttr] at h30
           cases h; subst hR; simp only [zbdl, simprocAttr, *]
          ·cases h; subst hR; simp only [zbdl, simprocAttr, *]
    ·cases h; subst hR; simp only [zbdl, simprocAttr, *]
def zbdn := And.intro @kk <| And.intro @ke <| And.intro @kn <| And.intro @z9e <| @z9g
theorem zbdo : ∀ (q N : Nat), 8 * q ≤ N → ∀ (a0 : zjr), ∀ (r : Bool), zj4 q a0 = some r → (orc T N).deep F.zj4 [zjr.enc a0] = some [V.bool r] := by
 intro q N hM a0 r h
 rcases q with _ | q
 ·cases h
 obtain ⟨M, rfl⟩ : ∃ M, N = M + 8 := ⟨N - 8, by omega⟩
 generalize hR : some [V.bool r] = R
 rw [zhx, z5t, y4, zhv zuc rfl]
 rw [zj4] at h
 replace h := br h; rcases h with ⟨h1, h⟩ | ⟨h1, h⟩
 ·replace h := br h; rcases h with ⟨h2, h⟩ | ⟨h2, h⟩
  ·replace h := br h; rcases h with ⟨h3, h⟩ | ⟨h3, h⟩
   ·replace h := br h; rcases h with ⟨h4, h⟩ | ⟨h4, h⟩
    ·replace h := br h; rcases h with ⟨h5, h⟩ | ⟨h5, h⟩
     ·cases h; subst hR; simp only [zbdn, simprocAttr, *]
     ·cases h; subst hR; simp only [zbdn, simprocAttr, *]
    ·cases h; subst hR; simp only [zbdn, simprocAttr, *]
   ·cases h; subst hR; simp only [zbdn, simprocAttr, *]
  ·cases h; subst hR; simp only [zbdn, simprocAttr, *]
 ·cases h; subst hR; simp only [zbdn, simprocAttr, *]
def zbdp (q : Nat) : Prop := ∀ (M : Nat) (hM : 8 * q ≤ M) (j : Nat) (hj : q ≤ j) (v0z : Bool) (v0l : List zjr) (v5z : Bool) (v5l : List zjr) (v6 v7 : Int) (r : Bool) (_ : zj5 q v0z v0l v5z v5l v6 v7 = some r) (R : Option (List V)) (_ : some [V.bool r] = R) (fr : Fr) (H : Hp) (_ : canon 0 [0, 5, 6, 7] fr H = ([(0, (.sl v0z (List.map zjr.enc v0l))), (5, (.sl v5z (List.map zjr.enc v5l))), (6, (.int .i64 v6)), (7, (.int .i64 v7))], [])), fin zpq (unw T (orc T (M + 7)) (M + 7) 0 [.blk 0, .code zpn] (iter 0 [0, 5, 6, 7] (exec T (orc T (M + 7)) (M + 7) 0 zpk) j fr H)) = R
def zbdq := And.intro @kk <| And.intro @ke <| And.intro @kn <| And.intro @z7i <| And.intro @z9f <| @z7k
theorem zbdr (q : Nat) (zbhj : zbdp q) : zbdp (q + 1) := by
 intro M hM j hj v0z v0l v5z v5l v6 v7 r h R hR fr H hc
 obtain ⟨j, rfl⟩ : ∃ i, j = i + 1 := ⟨j - 1, by omega⟩
 rw [zhn, hc]; clear hc
 rw [zj5] at h
 replace h := br h; rcases h with ⟨h1, h⟩ | ⟨h1, h⟩
 ·replace h := bn h; obtain ⟨h2, h⟩ := h
  replace h := ob h; obtain ⟨e1, h3, h⟩ := h
  replace h := ob h; obtain ⟨r2, h4, h⟩ := h
  replace h4 := zbdo q (M + 7) (by omega) _ _ h4
  try simp only [kf, simprocAttr] at h4
  replace h := bb h; rcases h with ⟨h5', h5, h⟩ | ⟨h5', h5, h⟩
  ·replace h := br h; rcases h with ⟨h6, h⟩ | ⟨h6, h⟩
   ·replace h := bn h; obtain ⟨h7, h⟩ := h
    replace h := ob h; obtain ⟨e3, h8, h⟩ := h
    replace h := br h; rcases h with ⟨h9, h⟩ | ⟨h9, h⟩
    ·cases h; subst hR; simp only [zbdq, simprocAttr, *]
    ·replace h := zbhj M (by omega) j (by omega) _ _ _ _ _ _ _ h R hR
     simp only [zbdq, simprocAttr, *]
   ·replace h := zbhj M (by omega) j (by omega) _ _ _ _ _ _ _ h R hR
    simp only [zbdq, simprocAttr, *]
  ·cases h; subst hR; simp only [zbdq, simprocAttr, *]
 ·cases h; subst hR; simp only [zbdq, simprocAttr, *]
theorem zbds : ∀ q, zbdp q
 | 0 => by intro M hM j hj; intros; rename_i h _ _ _ _ _; cases h
 | q + 1 => by have i0 := zbds q; exact zbdr q i0
theorem zbdt : ∀ (q N : Nat), 8 * q ≤ N → ∀ (a0 : (Sl zjr)), ∀ (r : Bool), zj6 q a0 = some r → (orc T N).deep F.zj6 [(Sl.enc zjr.enc) a0] = some [V.bool r] := by
 intro q N hM a0 r h
 rcases q with _ | q
 ·cases h
 obtain ⟨M, rfl⟩ : ∃ M, N = M + 8 := ⟨N - 8, by omega⟩
 have zbhj := (zbds q)
 generalize hR : some [V.bool r] = R
 rw [zhx, z46, y4, zhv zpq rfl]
 rw [zj6] at h
 replace h := zbhj M (by omega) (M + 7) (by omega) _ _ _ _ _ _ _ h R hR
 simp only [zbdq, simprocAttr, *]
def zbdu := And.intro @kk <| And.intro @ke <| And.intro @kn <| And.intro @z6l <| And.intro @z7g <| And.intro @z7j <| @z6n
theorem zbdv : ∀ (q N : Nat), 8 * q ≤ N → ∀ (a0 : zjs), ∀ (r : Bool), zj7 q a0 = some r → (orc T N).deep F.zj7 [zjs.enc a0] = some [V.bool r] := by
 intro q N hM a0 r h
 rcases q with _ | q
 ·cases h
 obtain ⟨M, rfl⟩ : ∃ M, N = M + 8 := ⟨N - 8, by omega⟩
 generalize hR : some [V.bool r] = R
 rw [zhx, z4v, y4, zhv zm8 rfl]
 rw [zj7] at h
 replace h := br h; rcases h with ⟨h1, h⟩ | ⟨h1, h⟩
 ·replace h := br h; rcases h with ⟨h2, h⟩ | ⟨h2, h⟩
  ·replace h := ob h; obtain ⟨r1, h3, h⟩ := h
   replace h3 := zbdm q (M + 7) (by omega) _ _ h3
   try simp only [kf, simprocAttr] at h3
   replace h := bb h; rcases h with ⟨h4', h4, h⟩ | ⟨h4', h4, h⟩
   ·replace h := ob h; obtain ⟨r2, h5, h⟩ := h
    replace h5 := zbdt q (M + 7) (by omega) _ _ h5
    try simp only [kf, simprocAttr] at h5
    cases h; subst hR; simp only [zbdu, simprocAttr, *]
   ·cases h; subst hR; simp only [zbdu, simprocAttr, *]
  ·cases h; subst hR; simp only [zbdu, simprocAttr, *]
 ·cases h; subst hR; simp only [zbdu, simprocAttr, *]
def zbdw := And.intro @kk <| And.intro @ke <| And.intro @kn <| And.intro @z7c <| @z7e
theorem zbdx : ∀ (q N : Nat), 8 * q ≤ N → ∀ (a0 : (Sl Int)), ∀ (r : (Ow Int)), zj8 q a0 = some r → (orc T N).deep F.zj8 [(Sl.enc (V.int .i64)) a0] = some [(Ow.enc 1 (V.int .i64)) r] := by
 intro q N hM a0 r h
 rcases q with _ | q
 ·cases h
 obtain ⟨M, rfl⟩ : ∃ M, N = M + 8 := ⟨N - 8, by omega⟩
 generalize hR : some [(Ow.enc 1 (V.int .i64)) r] = R
 rw [zhx, z44, y4, zhv zov rfl]
 rw [zj8] at h
 replace h := bb h; rcases h with ⟨h1', h1, h⟩ | ⟨h1', h1, h⟩
 ·cases h; subst hR; simp only [zbdw, simprocAttr, *]
 ·replace h := bn h; obtain ⟨h2, h⟩ := h
  cases h; subst hR; simp only [zbdw, simprocAttr, *]
def zbdy := And.intro @kk <| And.intro @ke <| And.intro @kn <| And.intro @z73 <| @z75
theorem zbdz : ∀ (q N : Nat), 8 * q ≤ N → ∀ (a0 : (Sl zjr)), ∀ (r : (Ow zjr)), zj9 q a0 = some r → (orc T N).deep F.zj9 [(Sl.enc zjr.enc) a0] = some [(Ow.enc 3 zjr.enc) r] := by
 intro q N hM a0 r h
 rcases q with _ | q
 ·cases h
 obtain ⟨M, rfl⟩ : ∃ M, N = M + 8 := ⟨N - 8, by omega⟩
 generalize hR : some [(Ow.enc 3 zjr.enc) r] = R
 rw [zhx, z5d, y4, zhv zro rfl]
 rw [zj9] at h
 replace h := bb h; rcases h with ⟨h1', h1, h⟩ | ⟨h1', h1, h⟩
 ·cases h; subst hR; simp only [zbdy, simprocAttr, *]
 ·replace h := bn h; obtain ⟨h2, h⟩ := h
  cases h; subst hR; simp only [zbdy, simprocAttr, *]
theorem zbd0 : ∀ (q N : Nat), 8 * q ≤ N → ∀ (a0 : (Ow zjr)) (a1 : Int) (a2 : (Ow zjr)), ∀ (r : (Ow zjr)), zka q a0 a1 a2 = some r → (orc T N).deep F.zka [(Ow.enc 3 zjr.enc) a0, (V.int .i64) a1, (Ow.enc 3 zjr.enc) a2] = some [(Ow.enc 3 zjr.enc) r] := by
 intro q N hM a0 a1 a2 r h
 rcases q with _ | q
 ·cases h
 obtain ⟨M, rfl⟩ : ∃ M, N = M + 8 := ⟨N - 8, by omega⟩
 rw [zhx, z5h, y4, zhu zr3 rfl]
 rw [zka] at h
 by_cases c : insOk a0 a1 a2
 ·rw [if_pos c] at h; cases h; exact zi3 zjr.enc 3 c
 ·rw [if_neg c] at h; cases h
def zbd1 (q : Nat) : Prop := ∀ (M : Nat) (hM : 8 * q ≤ M) (j : Nat) (hj : q ≤ j) (w1 : Nat) (v7 v8 h0_0 h0_1 h0_2 h0_3 h0_4 h0_5 h0_6 : Int) (h1z : Bool) (h1l : List zjr) (h1x : Bool) (r : Int) (_ : zkb q v7 v8 h0_0 h0_1 h0_2 h0_3 h0_4 h0_5 h0_6 h1z h1l h1x = some r) (R : Option (List V × Hp)) (_ : (some ([(.int .i64 r)], [(.box [(.int .i64 h0_0), (.int .i64 h0_1), (.int .i64 h0_2), (.int .i64 h0_3), (.int .i64 h0_4), (.int .i64 h0_5), (.int .i64 h0_6)]), (.row w1 h1z 3 (List.map zjr.enc h1l) h1x)]) : Option (List V × Hp)) = R) (fr : Fr) (H : Hp) (_ : canon 2 [0, 1, 7, 8] fr H = ([(0, (.vw 1 w1 0 h1l.length 1)), (1, (.fn F.zl7 [(.ptr 0 0)])), (7, (.int .i64 v7)), (8, (.int .i64 v8))], [(.box [(.int .i64 h0_0), (.int .i64 h0_1), (.int .i64 h0_2), (.int .i64 h0_3), (.int .i64 h0_4), (.int .i64 h0_5), (.int .i64 h0_6)]), (.row w1 h1z 3 (List.map zjr.enc h1l) h1x)])), finI 2 false [.tmp 4] (unw T (orc T (M + 5)) (M + 5) 2 [.blk 0, .code zrx] (iter 2 [0, 1, 7, 8] (exec T (orc T (M + 5)) (M + 5) 2 zru) j fr H)) = R
def zbd2 := And.intro @kk <| And.intro @ke <| And.intro @kn <| And.intro @z76 <| And.intro @z79 <| And.intro @z77 <| @z78
theorem zbd3 (q : Nat) (zbhk : zbd1 q) : zbd1 (q + 1) := by
 intro M hM j hj w1 v7 v8 h0_0 h0_1 h0_2 h0_3 h0_4 h0_5 h0_6 h1z h1l h1x r h R hR fr H hc
 obtain ⟨j, rfl⟩ : ∃ i, j = i + 1 := ⟨j - 1, by omega⟩
 rw [zhn, hc]; clear hc
 rw [zkb] at h
 replace h := br h; rcases h with ⟨h1, h⟩ | ⟨h1, h⟩
 ·replace h := bn h; obtain ⟨h2, h⟩ := h
  replace h := bn h; obtain ⟨h3, h⟩ := h
  replace h := ob h; obtain ⟨e1, h4, h⟩ := h
  replace h := br h; rcases h with ⟨h5, h⟩ | ⟨h5, h⟩
  ·cases h; subst hR; simp only [zbd2, simprocAttr, *]
  ·replace h := zbhk M (by omega) j (by omega) w1 _ _ _ _ _ _ _ _ _ _ _ _ _ h R hR
   simp only [zbd2, simprocAttr, *]
 ·cases h; subst hR; simp only [zbd2, simprocAttr, *]
theorem zbd4 : ∀ q, zbd1 q
 | 0 => by intro M hM j hj; intros; rename_i h _ _ _ _ _; cases h
 | q + 1 => by have i0 := zbd4 q; exact zbd3 q i0
theorem zbd5 : ∀ (q M : Nat), 8 * q ≤ M → ∀ (w1 : Nat), ∀ (h0_0 h0_1 h0_2 h0_3 h0_4 h0_5 h0_6 : Int), ∀ (h1z : Bool), ∀ (h1l : List zjr), ∀ (h1x : Bool), ∀ (r : Int), zkc q h0_0 h0_1 h0_2 h0_3 h0_4 h0_5 h0_6 h1z h1l h1x = some r → (orc T (M + 6)).inl F.zl8 [(.vw 1 w1 0 h1l.length 1), (.fn F.zl7 [(.ptr 0 0)])] [(.box [(.int .i64 h0_0), (.int .i64 h0_1), (.int .i64 h0_2), (.int .i64 h0_3), (.int .i64 h0_4), (.int .i64 h0_5), (.int .i64 h0_6)]), (.row w1 h1z 3 (List.map zjr.enc h1l) h1x)] = (some ([(.int .i64 r)], [(.box [(.int .i64 h0_0), (.int .i64 h0_1), (.int .i64 h0_2), (.int .i64 h0_3), (.int .i64 h0_4), (.int .i64 h0_5), (.int .i64 h0_6)]), (.row w1 h1z 3 (List.map zjr.enc h1l) h1x)]) : Option (List V × Hp)) := by
 intro q M hM w1 h0_0 h0_1 h0_2 h0_3 h0_4 h0_5 h0_6 h1z h1l h1x r h
 rcases q with _ | q
 ·cases h
 have zbhk := (zbd4 q)
 generalize hR : (some ([(.int .i64 r)], [(.box [(.int .i64 h0_0), (.int .i64 h0_1), (.int .i64 h0_2), (.int .i64 h0_3), (.int .i64 h0_4), (.int .i64 h0_5), (.int .i64 h0_6)]), (.row w1 h1z 3 (List.map zjr.enc h1l) h1x)]) : Option (List V × Hp)) = R
 rw [z8b (n := M + 5)]
 rw [zkc] at h
 replace h := zbhk M (by omega) (M + 5) (by omega) w1 _ _ _ _ _ _ _ _ _ _ _ _ _ h R hR
 simp only [zbd2, simprocAttr, *]
def zbd6 (q : Nat) : Prop := ∀ (M : Nat) (hM : 8 * q ≤ M) (j : Nat) (hj : q ≤ j) (w1 : Nat) (v5 v6 h0_0 h0_1 h0_2 h0_3 h0_4 h0_5 h0_6 : Int) (h1z : Bool) (h1l : List zjr) (h1x : Bool) (r : Nat × (List zjr) × Bool) (_ : zkd q v5 v6 h0_0 h0_1 h0_2 h0_3 h0_4 h0_5 h0_6 h1z h1l h1x = some r) (R : Option (List V × Hp)) (_ : (some ([(.vw 1 w1 0 r.1 0)], [(.box [(.int .i64 h0_0), (.int .i64 h0_1), (.int .i64 h0_2), (.int .i64 h0_3), (.int .i64 h0_4), (.int .i64 h0_5), (.int .i64 h0_6)]), (.row w1 h1z 3 (List.map zjr.enc r.2.1) r.2.2)]) : Option (List V × Hp)) = R) (fr : Fr) (H : Hp) (_ : canon 2 [0, 1, 5, 6] fr H = ([(0, (.vw 1 w1 0 h1l.length 1)), (1, (.fn F.zl7 [(.ptr 0 0)])), (5, (.int .i64 v5)), (6, (.int .i64 v6))], [(.box [(.int .i64 h0_0), (.int .i64 h0_1), (.int .i64 h0_2), (.int .i64 h0_3), (.int .i64 h0_4), (.int .i64 h0_5), (.int .i64 h0_6)]), (.row w1 h1z 3 (List.map zjr.enc h1l) h1x)])), finI 2 true [.tmp 4] (unw T (orc T (M + 6)) (M + 6) 2 [.blk 0, .code zrh] (iter 2 [0, 1, 5, 6] (exec T (orc T (M + 6)) (M + 6) 2 zrc) j fr H)) = R
def zbd7 := And.intro @kk <| And.intro @ke <| And.intro @kn <| And.intro @z70 <| And.intro @z76 <| And.intro @z8a <| And.intro @z77 <| @z78
theorem zbd8 (q : Nat) (zbhl : zbd6 q) : zbd6 (q + 1) := by
 intro M hM j hj w1 v5 v6 h0_0 h0_1 h0_2 h0_3 h0_4 h0_5 h0_6 h1z h1l h1x r h R hR fr H hc
 obtain ⟨j, rfl⟩ : ∃ i, j = i + 1 := ⟨j - 1, by omega⟩
 rw [zhn, hc]; clear hc
 rw [zkd] at h
 replace h := br h; rcases h with ⟨h1, h⟩ | ⟨h1, h⟩
 ·replace h := bn h; obtain ⟨h2, h⟩ := h
  replace h := bn h; obtain ⟨h3, h⟩ := h
  replace h := ob h; obtain ⟨e2, h4, h⟩ := h
  replace h := br h; rcases h with ⟨h5, h⟩ | ⟨h5, h⟩
  ·replace h := zbhl M (by omega) j (by omega) w1 _ _ _ _ _ _ _ _ _ _ _ _ _ h R hR
   simp only [zbd7, simprocAttr, *]
  ·replace h := bn h; obtain ⟨h6, h⟩ := h
   replace h := bn h; obtain ⟨h7, h⟩ := h
   replace h := ob h; obtain ⟨e3, h8, h⟩ := h
   replace h := bb h; rcases h with ⟨h9', h9, h⟩ | ⟨h9', h9, h⟩
   ·replace h := zbhl M (by omega) j (by omega) w1 _ _ _ _ _ _ _ _ _ _ _ _ _ h R hR
    simp only [zbd7, simprocAttr, *]
   ·cases h
 ·replace h := bn h; obtain ⟨h10, h⟩ := h
  replace h := bn h; obtain ⟨h11, h⟩ := h
  replace h := bb h; rcases h with ⟨h12', h12, h⟩ | ⟨h12', h12, h⟩
  ·replace h := bn h; obtain ⟨h13, h⟩ := h
   replace h := bb h; rcases h with ⟨h14', h14, h⟩ | ⟨h14', h14, h⟩
   ·cases h; subst hR; simp only [zbd7, simprocAttr, *]
   ·cases h; subst hR; simp only [zbd7, simprocAttr, *]
  ·cases h
theorem zbd9 : ∀ q, zbd6 q
 | 0 => by intro M hM j hj; intros; rename_i h _ _ _ _ _; cases h
 | q + 1 => by have i0 := zbd9 q; exact zbd8 q i0
theorem zbea : ∀ (q M : Nat), 8 * q ≤ M → ∀ (w1 : Nat), ∀ (h0_0 h0_1 h0_2 h0_3 h0_4 h0_5 h0_6 : Int), ∀ (h1z : Bool), ∀ (h1l : List zjr), ∀ (h1x : Bool), ∀ (r : Nat × (List zjr) × Bool), zke q h0_0 h0_1 h0_2 h0_3 h0_4 h0_5 h0_6 h1z h1l h1x = some r → (orc T (M + 7)).inl F.zl6 [(.vw 1 w1 0 h1l.length 1), (.fn F.zl7 [(.ptr 0 0)])] [(.box [(.int .i64 h0_0), (.int .i64 h0_1), (.int .i64 h0_2), (.int .i64 h0_3), (.int .i64 h0_4), (.int .i64 h0_5), (.int .i64 h0_6)]), (.row w1 h1z 3 (List.map zjr.enc h1l) h1x)] = (some ([(.vw 1 w1 0 r.1 0)], [(.box [(.int .i64 h0_0), (.int .i64 h0_1), (.int .i64 h0_2), (.int .i64 h0_3), (.int .i64 h0_4), (.int .i64 h0_5), (.int .i64 h0_6)]), (.row w1 h1z 3 (List.map zjr.enc r.2.1) r.2.2)]) : Option (List V × Hp)) := by
 intro q M hM w1 h0_0 h0_1 h0_2 h0_3 h0_4 h0_5 h0_6 h1z h1l h1x r h
 rcases q with _ | q
 ·cases h
 have zbhl := (zbd9 q)
 generalize hR : (some ([(.vw 1 w1 0 r.1 0)], [(.box [(.int .i64 h0_0), (.int .i64 h0_1), (.int .i64 h0_2), (.int .i64 h0_3), (.int .i64 h0_4), (.int .i64 h0_5), (.int .i64 h0_6)]), (.row w1 h1z 3 (List.map zjr.enc r.2.1) r.2.2)]) : Option (List V × Hp)) = R
 rw [z72 (n := M + 6)]
 rw [zke] at h
 replace h := ob h; obtain ⟨r1, h1, h⟩ := h
 replace h1 := zbd5 q M (by omega) w1 _ _ _ _ _ _ _ _ _ _ _ h1
 try simp only [kf, simprocAttr] at h1
 replace h := br h; rcases h with ⟨h2, h⟩ | ⟨h2, h⟩
 ·cases h; subst hR; simp only [zbd7, simprocAttr, *]
 ·replace h := zbhl M (by omega) (M + 6) (by omega) w1 _ _ _ _ _ _ _ _ _ _ _ _ _ h R hR
  simp only [zbd7, simprocAttr, *]
def zbeb (q : Nat) : Prop := ∀ (M : Nat) (hM : 8 * q ≤ M) (j : Nat) (hj : q ≤ j) (w1 v0len : Nat) (v7 v8 h0_0 h0_1 h0_2 h0_3 h0_4 h0_5 h0_6 : Int) (h1z : Bool) (h1l : List zjr) (h1x : Bool) (r : Int) (_ : zkf q v0len v7 v8 h0_0 h0_1 h0_2 h0_3 h0_4 h0_5 h0_6 h1z h1l h1x = some r) (R : Option (List V × Hp)) (_ : (some ([(.int .i64 r)], [(.box [(.int .i64 h0_0), (.int .i64 h0_1), (.int .i64 h0_2), (.int .i64 h0_3), (.int .i64 h0_4), (.int .i64 h0_5), (.int .i64 h0_6)]), (.row w1 h1z 3 (List.map zjr.enc h1l) h1x)]) : Option (List V × Hp)) = R) (fr : Fr) (H : Hp) (_ : canon 2 [0, 1, 7, 8] fr H = ([(0, (.vw 1 w1 0 v0len 0)), (1, (.fn F.zl9 [(.ptr 0 0)])), (7, (.int .i64 v7)), (8, (.int .i64 v8))], [(.box [(.int .i64 h0_0), (.int .i64 h0_1), (.int .i64 h0_2), (.int .i64 h0_3), (.int .i64 h0_4), (.int .i64 h0_5), (.int .i64 h0_6)]), (.row w1 h1z 3 (List.map zjr.enc h1l) h1x)])), finI 2 false [.tmp 4] (unw T (orc T (M + 6)) (M + 6) 2 [.blk 0, .code zrx] (iter 2 [0, 1, 7, 8] (exec T (orc T (M + 6)) (M + 6) 2 zru) j fr H)) = R
def zbec := And.intro @kk <| And.intro @ke <| And.intro @kn <| And.intro @z79 <| And.intro @z8c <| And.intro @z8d <| @z8e
theorem zbed (q : Nat) (zbhm : zbeb q) : zbeb (q + 1) := by
 intro M hM j hj w1 v0len v7 v8 h0_0 h0_1 h0_2 h0_3 h0_4 h0_5 h0_6 h1z h1l h1x r h R hR fr H hc
 obtain ⟨j, rfl⟩ : ∃ i, j = i + 1 := ⟨j - 1, by omega⟩
 rw [zhn, hc]; clear hc
 rw [zkf] at h
 replace h := br h; rcases h with ⟨h1, h⟩ | ⟨h1, h⟩
 ·replace h := bn h; obtain ⟨h2, h⟩ := h
  replace h := bn h; obtain ⟨h3, h⟩ := h
  replace h := ob h; obtain ⟨e1, h4, h⟩ := h
  replace h := br h; rcases h with ⟨h5, h⟩ | ⟨h5, h⟩
  ·cases h; subst hR; simp only [zbec, simprocAttr, *]
  ·replace h := zbhm M (by omega) j (by omega) w1 _ _ _ _ _ _ _ _ _ _ _ _ _ _ h R hR
   simp only [zbec, simprocAttr, *]
 ·cases h; subst hR; simp only [zbec, simprocAttr, *]
theorem zbee : ∀ q, zbeb q
 | 0 => by intro M hM j hj; intros; rename_i h _ _ _ _ _; cases h
 | q + 1 => by have i0 := zbee q; exact zbed q i0
theorem zbef : ∀ (q M : Nat), 8 * q ≤ M → ∀ (w1 v0len : Nat), ∀ (h0_0 h0_1 h0_2 h0_3 h0_4 h0_5 h0_6 : Int), ∀ (h1z : Bool), ∀ (h1l : List zjr), ∀ (h1x : Bool), ∀ (r : Int), zkg q v0len h0_0 h0_1 h0_2 h0_3 h0_4 h0_5 h0_6 h1z h1l h1x = some r → (orc T (M + 7)).inl F.zl8 [(.vw 1 w1 0 v0len 0), (.fn F.zl9 [(.ptr 0 0)])] [(.box [(.int .i64 h0_0), (.int .i64 h0_1), (.int .i64 h0_2), (.int .i64 h0_3), (.int .i64 h0_4), (.int .i64 h0_5), (.int .i64 h0_6)]), (.row w1 h1z 3 (List.map zjr.enc h1l) h1x)] = (some ([(.int .i64 r)], [(.box [(.int .i64 h0_0), (.int .i64 h0_1), (.int .i64 h0_2), (.int .i64 h0_3), (.int .i64 h0_4), (.int .i64 h0_5), (.int .i64 h0_6)]), (.row w1 h1z 3 (List.map zjr.enc h1l) h1x)]) : Option (List V × Hp)) := by
 intro q M hM w1 v0len h0_0 h0_1 h0_2 h0_3 h0_4 h0_5 h0_6 h1z h1l h1x r h
 rcases q with _ | q
 ·cases h
 have zbhm := (zbee q)
 generalize hR : (some ([(.int .i64 r)], [(.box [(.int .i64 h0_0), (.int .i64 h0_1), (.int .i64 h0_2), (.int .i64 h0_3), (.int .i64 h0_4), (.int .i64 h0_5), (.int .i64 h0_6)]), (.row w1 h1z 3 (List.map zjr.enc h1l) h1x)]) : Option (List V × Hp)) = R
 rw [z8b (n := M + 6)]
 rw [zkg] at h
 replace h := zbhm M (by omega) (M + 6) (by omega) w1 _ _ _ _ _ _ _ _ _ _ _ _ _ _ h R hR
 simp only [zbec, simprocAttr, *]
def zbeg := And.intro @kk <| And.intro @ke <| And.intro @kn <| And.intro @z6x <| And.intro @z71 <| And.intro @z74 <| And.intro @z8a <| And.intro @z8f <| @z6z
theorem zbeh : ∀ (q N : Nat), 8 * q ≤ N → ∀ (a0 : (Sl zjr)) (a1 : zjv), ∀ (r : (Ow zjr)), zkh q a0 a1 = some r → (orc T N).deep F.zkh [(Sl.enc zjr.enc) a0, zjv.enc a1] = some [(Ow.enc 3 zjr.enc) r] := by
 intro q N hM a0 a1 r h
 rcases q with _ | q
 ·cases h
 obtain ⟨M, rfl⟩ : ∃ M, N = M + 8 := ⟨N - 8, by omega⟩
 generalize hR : some [(Ow.enc 3 zjr.enc) r] = R
 rw [zhx, z4z, y4, zhv znx rfl]
 rw [zkh] at h
 replace h := ob h; obtain ⟨r1, h1, h⟩ := h
 replace h1 := zbdz q (M + 7) (by omega) _ _ h1
 try simp only [kf, simprocAttr] at h1
 replace h := ob h; obtain ⟨r2, h2, h⟩ := h
 replace h2 := zbea q M (by omega) 0 _ _ _ _ _ _ _ _ _ _ _ h2
 try simp only [kf, simprocAttr] at h2
 replace h := ob h; obtain ⟨r3, h3, h⟩ := h
 replace h3 := zbef q M (by omega) 0 _ _ _ _ _ _ _ _ _ _ _ _ h3
 try simp only [kf, simprocAttr] at h3
 replace h := br h; rcases h with ⟨h4, h⟩ | ⟨h4, h⟩
 ·replace h := bb h; rcases h with ⟨h5', h5, h⟩ | ⟨h5', h5, h⟩
  ·replace h := ob h; obtain ⟨r4, h6, h⟩ := h
   replace h6 := zbd0 q (M + 7) (by omega) _ _ _ _ h6
   try simp only [kf, simprocAttr] at h6
   cases h; subst hR; simp only [zbeg, simprocAttr, *]
  ·cases h
 ·replace h := bb h; rcases h with ⟨h7', h7, h⟩ | ⟨h7', h7, h⟩
  ·replace h := ob h; obtain ⟨r5, h8, h⟩ := h
   replace h8 := zbd0 q (M + 7) (by omega) _ _ _ _ h8
   try simp only [kf, simprocAttr] at h8
   cases h; subst hR; simp only [zbeg, simprocAttr, *]
  ·cases h
def zbei (q : Nat) : Prop := ∀ (M : Nat) (hM : 8 * q ≤ M) (j : Nat) (hj : q ≤ j) (v0z : Bool) (v0l : List Int) (v1z : Bool) (v1l : List Int) (v12 v13 : Int) (r : Bool) (_ : zki q v0z v0l v1z v1l v12 v13 = some r) (R : Option (List V)) (_ : some [V.bool r] = R) (fr : Fr) (H : Hp) (_ : canon 0 [0, 1, 12, 13] fr H = ([(0, (.sl v0z (List.map (V.int .i64) v0l))), (1, (.sl v1z (List.map (V.int .i64) v1l))), (12, (.int .i64 v12)), (13, (.int .i64 v13))], [])), fin zsh (unw T (orc T (M + 7)) (M + 7) 0 [.blk 0, .code zsd] (iter 0 [0, 1, 12, 13] (exec T (orc T (M + 7)) (M + 7) 0 zsa) j fr H)) = R
def zbej := And.intro @kk <| And.intro @ke <| And.intro @kn <| And.intro @z8h <| @z8j
theorem zbek (q : Nat) (zbhn : zbei q) : zbei (q + 1) := by
 intro M hM j hj v0z v0l v1z v1l v12 v13 r h R hR fr H hc
 obtain ⟨j, rfl⟩ : ∃ i, j = i + 1 := ⟨j - 1, by omega⟩
 rw [zhn, hc]; clear hc
 rw [zki] at h
 replace h := br h; rcases h with ⟨h1, h⟩ | ⟨h1, h⟩
 ·replace h := bn h; obtain ⟨h2, h⟩ := h
  replace h := ob h; obtain ⟨e1, h3, h⟩ := h
  replace h := ob h; obtain ⟨e2, h4, h⟩ := h
  replace h := br h; rcases h with ⟨h5, h⟩ | ⟨h5, h⟩
  ·replace h := zbhn M (by omega) j (by omega) _ _ _ _ _ _ _ h R hR
   simp only [zbej, simprocAttr, *]
  ·cases h; subst hR; simp only [zbej, simprocAttr, *]
 ·cases h; subst hR; simp only [zbej, simprocAttr, *]
theorem zbel : ∀ q, zbei q
 | 0 => by intro M hM j hj; intros; rename_i h _ _ _ _ _; cases h
 | q + 1 => by have i0 := zbel q; exact zbek q i0
theorem zbem : ∀ (q N : Nat), 8 * q ≤ N → ∀ (a0 a1 : (Sl Int)), ∀ (r : Bool), zkj q a0 a1 = some r → (orc T N).deep F.zkj [(Sl.enc (V.int .i64)) a0, (Sl.enc (V.int .i64)) a1] = some [V.bool r] := by
 intro q N hM a0 a1 r h
 rcases q with _ | q
 ·cases h
 obtain ⟨M, rfl⟩ : ∃ M, N = M + 8 := ⟨N - 8, by omega⟩
 have zbhn := (zbel q)
 generalize hR : some [V.bool r] = R
 rw [zhx, z5i, y4, zhv zsh rfl]
 rw [zkj] at h
 replace h := br h; rcases h with ⟨h1, h⟩ | ⟨h1, h⟩
 ·replace h := zbhn M (by omega) (M + 7) (by omega) _ _ _ _ _ _ _ h R hR
  simp only [zbej, simprocAttr, *]
 ·cases h; subst hR; simp only [zbej, simprocAttr, *]
def zben := And.intro @kk <| And.intro @ke <| And.intro @kn <| And.intro @z66 <| And.intro @z8i <| @z68
theorem zbeo : ∀ (q N : Nat), 8 * q ≤ N → ∀ (a0 a1 : zjq), ∀ (r : Bool), zkk q a0 a1 = some r → (orc T N).deep F.zkk [zjq.enc a0, zjq.enc a1] = some [V.bool r] := by
 intro q N hM a0 a1 r h
 rcases q with _ | q
 ·cases h
 obtain ⟨M, rfl⟩ : ∃ M, N = M + 8 := ⟨N - 8, by omega⟩
 generalize hR : some [V.bool r] = R
 rw [zhx, z42, y4, zhv zor rfl]
 rw [zkk] at h
 replace h := br h; rcases h with ⟨h1, h⟩ | ⟨h1, h⟩
 ·replace h := bb h; rcases h with ⟨h2', h2, h⟩ | ⟨h2', h2, h⟩
  ·replace h := br h; rcases h with ⟨h3, h⟩ | ⟨h3, h⟩
   ·replace h := ob h; obtain ⟨r1, h4, h⟩ := h
    replace h4 := zbem q (M + 7) (by omega) _ _ _ h4
    try simp only [kf, simprocAttr] at h4
    cases h; subst hR; simp only [zben, simprocAttr, *]
   ·cases h; subst hR; simp only [zben, simprocAttr, *]
  ·cases h; subst hR; simp only [zben, simprocAttr, *]
 ·cases h; subst hR; simp only [zben, simprocAttr, *]
def zbep (q : Nat) : Prop := ∀ (M : Nat) (hM : 8 * q ≤ M) (j : Nat) (hj : q ≤ j) (v0z : Bool) (v0l : List zjr) (v1z : Bool) (v1l : List zjr) (v12 v13 : Int) (r : Bool) (_ : zkl q v0z v0l v1z v1l v12 v13 = some r) (R : Option (List V)) (_ : some [V.bool r] = R) (fr : Fr) (H : Hp) (_ : canon 0 [0, 1, 12, 13] fr H = ([(0, (.sl v0z (List.map zjr.enc v0l))), (1, (.sl v1z (List.map zjr.enc v1l))), (12, (.int .i64 v12)), (13, (.int .i64 v13))], [])), fin zqy (unw T (orc T (M + 7)) (M + 7) 0 [.blk 0, .code zqu] (iter 0 [0, 1, 12, 13] (exec T (orc T (M + 7)) (M + 7) 0 zqr) j fr H)) = R
def zbeq := And.intro @kk <| And.intro @ke <| And.intro @kn <| And.intro @z7r <| @z7t
theorem zber (q : Nat) (zbho : zbep q) : zbep (q + 1) := by
 intro M hM j hj v0z v0l v1z v1l v12 v13 r h R hR fr H hc
 obtain ⟨j, rfl⟩ : ∃ i, j = i + 1 := ⟨j - 1, by omega⟩
 rw [zhn, hc]; clear hc
 rw [zkl] at h
 replace h := br h; rcases h with ⟨h1, h⟩ | ⟨h1, h⟩
 ·replace h := bn h; obtain ⟨h2, h⟩ := h
  replace h := ob h; obtain ⟨e1, h3, h⟩ := h
  replace h := ob h; obtain ⟨e2, h4, h⟩ := h
  replace h := br h; rcases h with ⟨h5, h⟩ | ⟨h5, h⟩
  ·replace h := br h; rcases h with ⟨h6, h⟩ | ⟨h6, h⟩
   ·replace h := br h; rcases h with ⟨h7, h⟩ | ⟨h7, h⟩
    ·replace h := zbho M (by omega) j (by omega) _ _ _ _ _ _ _ h R hR
     simp only [zbeq, simprocAttr, *]
    ·cases h; subst hR; simp only [zbeq, simprocAttr, *]
   ·cases h; subst hR; simp only [zbeq, simprocAttr, *]
  ·cases h; subst hR; simp only [zbeq, simprocAttr, *]
 ·cases h; subst hR; simp only [zbeq, simprocAttr, *]
theorem zbes : ∀ q, zbep q
 | 0 => by intro M hM j hj; intros; rename_i h _ _ _ _ _; cases h
 | q + 1 => by have i0 := zbes q; exact zber q i0
theorem zbet : ∀ (q N : Nat), 8 * q ≤ N → ∀ (a0 a1 : (Sl zjr)), ∀ (r : Bool), zkm q a0 a1 = some r → (orc T N).deep F.zkm [(Sl.enc zjr.enc) a0, (Sl.enc zjr.enc) a1] = some [V.bool r] := by
 intro q N hM a0 a1 r h
 rcases q with _ | q
 ·cases h
 obtain ⟨M, rfl⟩ : ∃ M, N = M + 8 := ⟨N - 8, by omega⟩
 have zbho := (zbes q)
 generalize hR : some [V.bool r] = R
 rw [zhx, z49, y4, zhv zqy rfl]
 rw [zkm] at h
 replace h := br h; rcases h with ⟨h1, h⟩ | ⟨h1, h⟩
 ·replace h := zbho M (by omega) (M + 7) (by omega) _ _ _ _ _ _ _ h R hR
  simp only [zbeq, simprocAttr, *]
 ·cases h; subst hR; simp only [zbeq, simprocAttr, *]
def zbeu := And.intro @kk <| And.intro @ke <| And.intro @kn <| And.intro @z6r <| And.intro @z67 <| And.intro @z7s <| @z6t
theorem zbev : ∀ (q N : Nat), 8 * q ≤ N → ∀ (a0 a1 : zjs), ∀ (r : Bool), zkn q a0 a1 = some r → (orc T N).deep F.zkn [zjs.enc a0, zjs.enc a1] = some [V.bool r] := by
 intro q N hM a0 a1 r h
 rcases q with _ | q
 ·cases h
 obtain ⟨M, rfl⟩ : ∃ M, N = M + 8 := ⟨N - 8, by omega⟩
 generalize hR : some [V.bool r] = R
 rw [zhx, z4x, y4, zhv znr rfl]
 rw [zkn] at h
 replace h := br h; rcases h with ⟨h1, h⟩ | ⟨h1, h⟩
 ·replace h := ob h; obtain ⟨r1, h2, h⟩ := h
  replace h2 := zbeo q (M + 7) (by omega) _ _ _ h2
  try simp only [kf, simprocAttr] at h2
  replace h := bb h; rcases h with ⟨h3', h3, h⟩ | ⟨h3', h3, h⟩
  ·replace h := ob h; obtain ⟨r2, h4, h⟩ := h
   replace h4 := zbet q (M + 7) (by omega) _ _ _ h4
   try simp only [kf, simprocAttr] at h4
   cases h; subst hR; simp only [zbeu, simprocAttr, *]
  ·cases h; subst hR; simp only [zbeu, simprocAttr, *]
 ·cases h; subst hR; simp only [zbeu, simprocAttr, *]
def zbew := And.intro @kk <| And.intro @ke <| And.intro @kn <| And.intro @z69 <| @z7b
theorem zbex : ∀ (q N : Nat), 8 * q ≤ N → ∀ (a0 : zjq), ∀ (r : Bool), zko q a0 = some r → (orc T N).deep F.zko [zjq.enc a0] = some [V.bool r] := by
 intro q N hM a0 r h
 rcases q with _ | q
 ·cases h
 obtain ⟨M, rfl⟩ : ∃ M, N = M + 8 := ⟨N - 8, by omega⟩
 generalize hR : some [V.bool r] = R
 rw [zhx, z43, y4, zhv zot rfl]
 rw [zko] at h
 cases h; subst hR; simp only [zbew, simprocAttr, *]
def zbey := And.intro @kk <| And.intro @ke <| And.intro @kn <| And.intro @z6i <| And.intro @z7a <| @z6k
theorem zbez : ∀ (q N : Nat), 8 * q ≤ N → ∀ (a0 : zjs), ∀ (r : Bool), zkp q a0 = some r → (orc T N).deep F.zkp [zjs.enc a0] = some [V.bool r] := by
 intro q N hM a0 r h
 rcases q with _ | q
 ·cases h
 obtain ⟨M, rfl⟩ : ∃ M, N = M + 8 := ⟨N - 8, by omega⟩
 generalize hR : some [V.bool r] = R
 rw [zhx, z4u, y4, zhv zm6 rfl]
 rw [zkp] at h
 replace h := ob h; obtain ⟨r1, h1, h⟩ := h
 replace h1 := zbex q (M + 7) (by omega) _ _ h1
 try simp only [kf, simprocAttr] at h1
 replace h := bb h; rcases h with ⟨h2', h2, h⟩ | ⟨h2', h2, h⟩
 ·cases h; subst hR; simp only [zbey, simprocAttr, *]
 ·cases h; subst hR; simp only [zbey, simprocAttr, *]
def zbe0 := And.intro @kk <| And.intro @ke <| And.intro @kn <| And.intro @z9h <| And.intro @z89 <| @z9j
theorem zbe1 : ∀ (q N : Nat), 8 * q ≤ N → ∀ (a0 : zju), ∀ (r : Bool), zkq q a0 = some r → (orc T N).deep F.zkq [zju.enc a0] = some [V.bool r] := by
 intro q N hM a0 r h
 rcases q with _ | q
 ·cases h
 obtain ⟨M, rfl⟩ : ∃ M, N = M + 8 := ⟨N - 8, by omega⟩
 generalize hR : some [V.bool r] = R
 rw [zhx, z5u, y4, zhv zuh rfl]
 rw [zkq] at h
 replace h := br h; rcases h with ⟨h1, h⟩ | ⟨h1, h⟩
 ·replace h := br h; rcases h with ⟨h2, h⟩ | ⟨h2, h⟩
  ·replace h := ob h; obtain ⟨r1, h3, h⟩ := h
   replace h3 := zbc8 q (M + 7) (by omega) _ _ h3
   replace h := br h; rcases h with ⟨h4, h⟩ | ⟨h4, h⟩
   ·replace h := ob h; obtain ⟨r2, h5, h⟩ := h
    replace h5 := zbc8 q (M + 7) (by omega) _ _ h5
    cases h; subst hR; simp only [zbe0, simprocAttr, *]
   ·cases h; subst hR; simp only [zbe0, simprocAttr, *]
  ·cases h; subst hR; simp only [zbe0, simprocAttr, *]
 ·cases h; subst hR; simp only [zbe0, simprocAttr, *]
def zbe2 := And.intro @kk <| And.intro @ke <| And.intro @kn <| And.intro @z7l <| And.intro @z9i <| @z7n
theorem zbe3 : ∀ (q N : Nat), 8 * q ≤ N → ∀ (a0 : zjv), ∀ (r : Bool), zkr q a0 = some r → (orc T N).deep F.zkr [zjv.enc a0] = some [V.bool r] := by
 intro q N hM a0 r h
 rcases q with _ | q
 ·cases h
 obtain ⟨M, rfl⟩ : ∃ M, N = M + 8 := ⟨N - 8, by omega⟩
 generalize hR : some [V.bool r] = R
 rw [zhx, z47, y4, zhv zps rfl]
 rw [zkr] at h
 replace h := br h; rcases h with ⟨h1, h⟩ | ⟨h1, h⟩
 ·replace h := br h; rcases h with ⟨h2, h⟩ | ⟨h2, h⟩
  ·replace h := br h; rcases h with ⟨h3, h⟩ | ⟨h3, h⟩
   ·replace h := br h; rcases h with ⟨h4, h⟩ | ⟨h4, h⟩
    ·replace h := br h; rcases h with ⟨h5, h⟩ | ⟨h5, h⟩
     ·replace h := br h; rcases h with ⟨h6, h⟩ | ⟨h6, h⟩
      ·replace h := ob h; obtain ⟨r1, h7, h⟩ := h
       replace h7 := zbe1 q (M + 7) (by omega) _ _ h7
       try simp only [kf, simprocAttr] at h7
       replace h := bb h; rcases h with ⟨h8', h8, h⟩ | ⟨h8', h8, h⟩
       ·replace h := br h; rcases h with ⟨h9, h⟩ | ⟨h9, h⟩
        ·cases h; subst hR; simp only [zbe2, simprocAttr, *]
        ·cases h; subst hR; simp only [zbe2, simprocAttr, *]
       ·cases h; subst hR; simp only [zbe2, simprocAttr, *]
      ·cases h; subst hR; simp only [zbe2, simprocAttr, *]
     ·cases h; subst hR; simp only [zbe2, simprocAttr, *]
    ·cases h; subst hR; simp only [zbe2, simprocAttr, *]
   ·cases h; subst hR; simp only [zbe2, simprocAttr, *]
  ·cases h; subst hR; simp only [zbe2, simprocAttr, *]
 ·cases h; subst hR; simp only [zbe2, simprocAttr, *]
def zbe4 := And.intro @kk <| And.intro @ke <| And.intro @kn <| And.intro @z9k <| And.intro @z89 <| @z9m
theorem zbe5 : ∀ (q N : Nat), 8 * q ≤ N → ∀ (a0 : zjq) (a1 : zju), ∀ (r : zjq × Int), zks q a0 a1 = some r → (orc T N).deep F.zks [zjq.enc a0, zju.enc a1] = some [zjq.enc r.1, (V.int .i64) r.2] := by
 intro q N hM a0 a1 r h
 rcases q with _ | q
 ·cases h
 obtain ⟨M, rfl⟩ : ∃ M, N = M + 8 := ⟨N - 8, by omega⟩
 generalize hR : some [zjq.enc r.1, (V.int .i64) r.2] = R
 rw [zhx, z5v, y4, zhv zu2 rfl]
 rw [zks] at h
 replace h := ob h; obtain ⟨e1, h1, h⟩ := h
 replace h := br h; rcases h with ⟨h2, h⟩ | ⟨h2, h⟩
 ·cases h; subst hR; simp only [zbe4, simprocAttr, *]
 ·replace h := br h; rcases h with ⟨h3, h⟩ | ⟨h3, h⟩
  ·replace h := br h; rcases h with ⟨h4, h⟩ | ⟨h4, h⟩
   ·replace h := ob h; obtain ⟨r2, h5, h⟩ := h
    replace h5 := zbc8 q (M + 7) (by omega) _ _ h5
    replace h := ob h; obtain ⟨r3, h6, h⟩ := h
    replace h6 := zbc8 q (M + 7) (by omega) _ _ h6
    cases h; subst hR; simp only [zbe4, simprocAttr, *]
   ·replace h := br h; rcases h with ⟨h7, h⟩ | ⟨h7, h⟩
    ·replace h := br h; rcases h with ⟨h8, h⟩ | ⟨h8, h⟩
     ·replace h := ob h; obtain ⟨r4, h9, h⟩ := h
      replace h9 := zbc8 q (M + 7) (by omega) _ _ h9
      cases h; subst hR; simp only [zbe4, simprocAttr, *]
     ·cases h; subst hR; simp only [zbe4, simprocAttr, *]
    ·cases h; subst hR; simp only [zbe4, simprocAttr, *]
  ·replace h := br h; rcases h with ⟨h10, h⟩ | ⟨h10, h⟩
   ·replace h := br h; rcases h with ⟨h11, h⟩ | ⟨h11, h⟩
    ·replace h := ob h; obtain ⟨r5, h12, h⟩ := h
     replace h12 := zbc8 q (M + 7) (by omega) _ _ h12
     cases h; subst hR; simp only [zbe4, simprocAttr, *]
    ·cases h; subst hR; simp only [zbe4, simprocAttr, *]
   ·cases h; subst hR; simp only [zbe4, simprocAttr, *]
def zbe6 := And.intro @kk <| And.intro @ke <| And.intro @kn <| And.intro @zbak <| @zbam
theorem zbe7 : ∀ (q N : Nat), 8 * q ≤ N → ∀ (a0 : (Ow Int)) (a1 a2 : Int), ∀ (r : (Ow Int)), zkt q a0 a1 a2 = some r → (orc T N).deep F.zkt [(Ow.enc 1 (V.int .i64)) a0, (V.int .i64) a1, (V.int .i64) a2] = some [(Ow.enc 1 (V.int .i64)) r] := by
 intro q N hM a0 a1 a2 r h
 rcases q with _ | q
 ·cases h
 obtain ⟨M, rfl⟩ : ∃ M, N = M + 8 := ⟨N - 8, by omega⟩
 generalize hR : some [(Ow.enc 1 (V.int .i64)) r] = R
 rw [zhx, z57, y4, zhv z1n rfl]
 rw [zkt] at h
 replace h := bn h; obtain ⟨h1, h⟩ := h
 replace h := bn h; obtain ⟨h2, h⟩ := h
 replace h := bn h; obtain ⟨h3, h⟩ := h
 replace h := br h; rcases h with ⟨h4, h⟩ | ⟨h4, h⟩
 ·cases h; subst hR; simp only [zbe6, simprocAttr, *]
 ·replace h := bn h; obtain ⟨h5, h⟩ := h
  replace h := bb h; rcases h with ⟨h6', h6, h⟩ | ⟨h6', h6, h⟩
  ·replace h := bn h; obtain ⟨h7, h⟩ := h
   replace h := bn h; obtain ⟨h8, h⟩ := h
   replace h := bn h; obtain ⟨h9, h⟩ := h
   replace h := bn h; obtain ⟨h10, h⟩ := h
   replace h := bn h; obtain ⟨h11, h⟩ := h
   replace h := bm h; obtain ⟨h12, h⟩ := h
   replace h := bb h; rcases h with ⟨h13', h13, h⟩ | ⟨h13', h13, h⟩
   ·cases h; subst hR; simp only [zbe6, simprocAttr, *]
   ·cases h
  ·replace h := bn h; obtain ⟨h14, h⟩ := h
   replace h := bn h; obtain ⟨h15, h⟩ := h
   replace h := bn h; obtain ⟨h16, h⟩ := h
   replace h := bb h; rcases h with ⟨h17', h17, h⟩ | ⟨h17', h17, h⟩
   ·replace h := bn h; obtain ⟨h18, h⟩ := h
    replace h := bn h; obtain ⟨h19, h⟩ := h
    cases h; subst hR; simp only [zbe6, simprocAttr, *]
   ·cases h
def zbe8 := And.intro @kk <| And.intro @ke <| And.intro @kn <| And.intro @z9n <| And.intro @z7d <| And.intro @z89 <| And.intro @zbal <| @z9p
theorem zbe9 : ∀ (q N : Nat), 8 * q ≤ N → ∀ (a0 : zjq) (a1 : zju), ∀ (r : zjq × Int), zku q a0 a1 = some r → (orc T N).deep F.zku [zjq.enc a0, zju.enc a1] = some [zjq.enc r.1, (V.int .i64) r.2] := by
 intro q N hM a0 a1 r h
 rcases q with _ | q
 ·cases h
 obtain ⟨M, rfl⟩ : ∃ M, N = M + 8 := ⟨N - 8, by omega⟩
 generalize hR : some [zjq.enc r.1, (V.int .i64) r.2] = R
 rw [zhx, z5w, y4, zhv zv0 rfl]
 rw [zku] at h
 replace h := br h; rcases h with ⟨h1, h⟩ | ⟨h1, h⟩
 ·cases h; subst hR; simp only [zbe8, simprocAttr, *]
 ·replace h := br h; rcases h with ⟨h2, h⟩ | ⟨h2, h⟩
  ·replace h := br h; rcases h with ⟨h3, h⟩ | ⟨h3, h⟩
   ·replace h := ob h; obtain ⟨r1, h4, h⟩ := h
    replace h4 := zbdx q (M + 7) (by omega) _ _ h4
    try simp only [kf, simprocAttr] at h4
    replace h := ob h; obtain ⟨r2, h5, h⟩ := h
    replace h5 := zbc8 q (M + 7) (by omega) _ _ h5
    replace h := bn h; obtain ⟨h6, h⟩ := h
    cases h; subst hR; simp only [zbe8, simprocAttr, *]
   ·cases h; subst hR; simp only [zbe8, simprocAttr, *]
  ·replace h := br h; rcases h with ⟨h7, h⟩ | ⟨h7, h⟩
   ·replace h := br h; rcases h with ⟨h8, h⟩ | ⟨h8, h⟩
    ·cases h; subst hR; simp only [zbe8, simprocAttr, *]
    ·replace h := br h; rcases h with ⟨h9, h⟩ | ⟨h9, h⟩
     ·replace h := ob h; obtain ⟨e3, h10, h⟩ := h
      replace h := ob h; obtain ⟨r4, h11, h⟩ := h
      replace h11 := zbdx q (M + 7) (by omega) _ _ h11
      try simp only [kf, simprocAttr] at h11
      replace h := ob h; obtain ⟨r5, h12, h⟩ := h
      replace h12 := zbe7 q (M + 7) (by omega) _ _ _ _ h12
      try simp only [kf, simprocAttr] at h12
      cases h; subst hR; simp only [zbe8, simprocAttr, *]
     ·replace h := bn h; obtain ⟨h13, h⟩ := h
      replace h := ob h; obtain ⟨e6, h14, h⟩ := h
      replace h := ob h; obtain ⟨r7, h15, h⟩ := h
      replace h15 := zbdx q (M + 7) (by omega) _ _ h15
      try simp only [kf, simprocAttr] at h15
      replace h := ob h; obtain ⟨r8, h16, h⟩ := h
      replace h16 := zbe7 q (M + 7) (by omega) _ _ _ _ h16
      try simp only [kf, simprocAttr] at h16
      cases h; subst hR; simp only [zbe8, simprocAttr, *]
   ·cases h; subst hR; simp only [zbe8, simprocAttr, *]
def zbfa (q : Nat) : Prop := ∀ (M : Nat) (hM : 8 * q ≤ M) (j : Nat) (hj : q ≤ j) (v0z : Bool) (v0l : List Int) (v1 v6 : Int) (r : Int × Bool) (_ : zkv q v0z v0l v1 v6 = some r) (R : Option (List V)) (_ : some [(V.int .i64) r.1, V.bool r.2] = R) (fr : Fr) (H : Hp) (_ : canon 0 [0, 1, 6] fr H = ([(0, (.sl v0z (List.map (V.int .i64) v0l))), (1, (.int .i64 v1)), (6, (.int .i64 v6))], [])), fin z2b (unw T (orc T (M + 7)) (M + 7) 0 [.blk 0, .code z17] (iter 0 [0, 1, 6] (exec T (orc T (M + 7)) (M + 7) 0 z15) j fr H)) = R
def zbfb := And.intro @kk <| And.intro @ke <| And.intro @kn <| And.intro @zbaq <| @zbas
theorem zbfc (q : Nat) (zbhp : zbfa q) : zbfa (q + 1) := by
 intro M hM j hj v0z v0l v1 v6 r h R hR fr H hc
 obtain ⟨j, rfl⟩ : ∃ i, j = i + 1 := ⟨j - 1, by omega⟩
 rw [zhn, hc]; clear hc
 rw [zkv] at h
 replace h := br h; rcases h with ⟨h1, h⟩ | ⟨h1, h⟩
 ·replace h := bn h; obtain ⟨h2, h⟩ := h
  replace h := ob h; obtain ⟨e1, h3, h⟩ := h
  replace h := br h; rcases h with ⟨h4, h⟩ | ⟨h4, h⟩
  ·replace h := zbhp M (by omega) j (by omega) _ _ _ _ _ h R hR
   simp only [zbfb, simprocAttr, *]
  ·cases h; subst hR; simp only [zbfb, simprocAttr, *]
 ·cases h; subst hR; simp only [zbfb, simprocAttr, *]
theorem zbfd : ∀ q, zbfa q
 | 0 => by intro M hM j hj; intros; rename_i h _ _ _ _ _; cases h
 | q + 1 => by have i0 := zbfd q; exact zbfc q i0
theorem zbfe : ∀ (q N : Nat), 8 * q ≤ N → ∀ (a0 : (Sl Int)) (a1 : Int), ∀ (r : Int × Bool), zkw q a0 a1 = some r → (orc T N).deep F.zkw [(Sl.enc (V.int .i64)) a0, (V.int .i64) a1] = some [(V.int .i64) r.1, V.bool r.2] := by
 intro q N hM a0 a1 r h
 rcases q with _ | q
 ·cases h
 obtain ⟨M, rfl⟩ : ∃ M, N = M + 8 := ⟨N - 8, by omega⟩
 have zbhp := (zbfd q)
 generalize hR : some [(V.int .i64) r.1, V.bool r.2] = R
 rw [zhx, z59, y4, zhv z2b rfl]
 rw [zkw] at h
 replace h := zbhp M (by omega) (M + 7) (by omega) _ _ _ _ _ h R hR
 simp only [zbfb, simprocAttr, *]
def zbff := And.intro @kk <| And.intro @ke <| And.intro @kn <| And.intro @zban <| And.intro @zbar <| @zbap
theorem zbfg : ∀ (q N : Nat), 8 * q ≤ N → ∀ (a0 : (Sl Int)) (a1 : Int), ∀ (r : Int), zkx q a0 a1 = some r → (orc T N).deep F.zkx [(Sl.enc (V.int .i64)) a0, (V.int .i64) a1] = some [(V.int .i64) r] := by
 intro q N hM a0 a1 r h
 rcases q with _ | q
 ·cases h
 obtain ⟨M, rfl⟩ : ∃ M, N = M + 8 := ⟨N - 8, by omega⟩
 generalize hR : some [(V.int .i64) r] = R
 rw [zhx, z58, y4, zhv z1y rfl]
 rw [zkx] at h
 replace h := ob h; obtain ⟨r1, h1, h⟩ := h
 replace h1 := zbfe q (M + 7) (by omega) _ _ _ h1
 try simp only [kf, simprocAttr] at h1
 replace h := bb h; rcases h with ⟨h2', h2, h⟩ | ⟨h2', h2, h⟩
 ·replace h := bn h; obtain ⟨h3, h⟩ := h
  replace h := ob h; obtain ⟨e2, h4, h⟩ := h
  cases h; subst hR; simp only [zbff, simprocAttr, *]
 ·cases h; subst hR; simp only [zbff, simprocAttr, *]
theorem zbfh : ∀ (q N : Nat), 8 * q ≤ N → ∀ (a0 : (Ow Int)) (a1 : Int) (a2 : (Ow Int)), ∀ (r : (Ow Int)), zky q a0 a1 a2 = some r → (orc T N).deep F.zky [(Ow.enc 1 (V.int .i64)) a0, (V.int .i64) a1, (Ow.enc 1 (V.int .i64)) a2] = some [(Ow.enc 1 (V.int .i64)) r] := by
 intro q N hM a0 a1 a2 r h
 rcases q with _ | q
 ·cases h
 obtain ⟨M, rfl⟩ : ∃ M, N = M + 8 := ⟨N - 8, by omega⟩
 rw [zhx, z6e, y4, zhu z4s rfl]
 rw [zky] at h
 by_cases c : insOk a0 a1 a2
 ·rw [if_pos c] at h; cases h; exact zi3 (V.int .i64) 1 c
 ·rw [if_neg c] at h; cases h
def zbfi := And.intro @kk <| And.intro @ke <| And.intro @kn <| And.intro @zbat <| And.intro @z7d <| And.intro @zbar <| And.intro @zba5 <| @zbav
theorem zbfj : ∀ (q N : Nat), 8 * q ≤ N → ∀ (a0 : (Sl Int)) (a1 a2 : Int), ∀ (r : (Sl Int) × Bool), zkz q a0 a1 a2 = some r → (orc T N).deep F.zkz [(Sl.enc (V.int .i64)) a0, (V.int .i64) a1, (V.int .i64) a2] = some [(Sl.enc (V.int .i64)) r.1, V.bool r.2] := by
 intro q N hM a0 a1 a2 r h
 rcases q with _ | q
 ·cases h
 obtain ⟨M, rfl⟩ : ∃ M, N = M + 8 := ⟨N - 8, by omega⟩
 generalize hR : some [(Sl.enc (V.int .i64)) r.1, V.bool r.2] = R
 rw [zhx, z6a, y4, zhv z2t rfl]
 rw [zkz] at h
 replace h := ob h; obtain ⟨r1, h1, h⟩ := h
 replace h1 := zbfe q (M + 7) (by omega) _ _ _ h1
 try simp only [kf, simprocAttr] at h1
 replace h := bb h; rcases h with ⟨h2', h2, h⟩ | ⟨h2', h2, h⟩
 ·replace h := ob h; obtain ⟨r2, h3, h⟩ := h
  replace h3 := zbdx q (M + 7) (by omega) _ _ h3
  try simp only [kf, simprocAttr] at h3
  replace h := bn h; obtain ⟨h4, h⟩ := h
  replace h := bn h; obtain ⟨h5, h⟩ := h
  replace h := ob h; obtain ⟨e3, h6, h⟩ := h
  replace h := bb h; rcases h with ⟨h7', h7, h⟩ | ⟨h7', h7, h⟩
  ·cases h; subst hR; simp only [zbfi, simprocAttr, *]
  ·cases h
 ·replace h := br h; rcases h with ⟨h8, h⟩ | ⟨h8, h⟩
  ·cases h; subst hR; simp only [zbfi, simprocAttr, *]
  ·replace h := ob h; obtain ⟨r4, h9, h⟩ := h
   replace h9 := zbdx q (M + 7) (by omega) _ _ h9
   try simp only [kf, simprocAttr] at h9
   replace h := ob h; obtain ⟨r5, h10, h⟩ := h
   replace h10 := zbfh q (M + 7) (by omega) _ _ _ _ h10
   try simp only [kf, simprocAttr] at h10
   cases h; subst hR; simp only [zbfi, simprocAttr, *]
def zbfk := And.intro @kk <| And.intro @ke <| And.intro @kn <| And.intro @z9q <| And.intro @z7d <| And.intro @z89 <| And.intro @zbal <| And.intro @zbao <| And.intro @zbar <| And.intro @zbau <| @z9s
theorem zbfl : ∀ (q N : Nat), 8 * q ≤ N → ∀ (a0 : zjq) (a1 : zju), ∀ (r : zjq × Int), zk0 q a0 a1 = some r → (orc T N).deep F.zk0 [zjq.enc a0, zju.enc a1] = some [zjq.enc r.1, (V.int .i64) r.2] := by
 intro q N hM a0 a1 r h
 rcases q with _ | q
 ·cases h
 obtain ⟨M, rfl⟩ : ∃ M, N = M + 8 := ⟨N - 8, by omega⟩
 generalize hR : some [zjq.enc r.1, (V.int .i64) r.2] = R
 rw [zhx, z5x, y4, zhv zw0 rfl]
 rw [zk0] at h
 replace h := br h; rcases h with ⟨h1, h⟩ | ⟨h1, h⟩
 ·replace h := br h; rcases h with ⟨h2, h⟩ | ⟨h2, h⟩
  ·cases h; subst hR; simp only [zbfk, simprocAttr, *]
  ·replace h := br h; rcases h with ⟨h3, h⟩ | ⟨h3, h⟩
   ·cases h; subst hR; simp only [zbfk, simprocAttr, *]
   ·replace h := ob h; obtain ⟨r1, h4, h⟩ := h
    replace h4 := zbfg q (M + 7) (by omega) _ _ _ h4
    try simp only [kf, simprocAttr] at h4
    replace h := ob h; obtain ⟨r2, h5, h⟩ := h
    replace h5 := zbfe q (M + 7) (by omega) _ _ _ h5
    try simp only [kf, simprocAttr] at h5
    replace h := br h; rcases h with ⟨h6, h⟩ | ⟨h6, h⟩
    ·replace h := bb h; rcases h with ⟨h7', h7, h⟩ | ⟨h7', h7, h⟩
     ·replace h := ob h; obtain ⟨r3, h8, h⟩ := h
      replace h8 := zbdx q (M + 7) (by omega) _ _ h8
      try simp only [kf, simprocAttr] at h8
      replace h := ob h; obtain ⟨r4, h9, h⟩ := h
      replace h9 := zbe7 q (M + 7) (by omega) _ _ _ _ h9
      try simp only [kf, simprocAttr] at h9
      cases h; subst hR; simp only [zbfk, simprocAttr, *]
     ·replace h := br h; rcases h with ⟨h10, h⟩ | ⟨h10, h⟩
      ·replace h := ob h; obtain ⟨r5, h11, h⟩ := h
       replace h11 := zbc8 q (M + 7) (by omega) _ _ h11
       replace h := ob h; obtain ⟨r6, h12, h⟩ := h
       replace h12 := zbfj q (M + 7) (by omega) _ _ _ _ h12
       try simp only [kf, simprocAttr] at h12
       replace h := bb h; rcases h with ⟨h13', h13, h⟩ | ⟨h13', h13, h⟩
       ·cases h; subst hR; simp only [zbfk, simprocAttr, *]
       ·cases h; subst hR; simp only [zbfk, simprocAttr, *]
      ·cases h; subst hR; simp only [zbfk, simprocAttr, *]
    ·replace h := br h; rcases h with ⟨h14, h⟩ | ⟨h14, h⟩
     ·replace h := ob h; obtain ⟨r7, h15, h⟩ := h
      replace h15 := zbc8 q (M + 7) (by omega) _ _ h15
      replace h := ob h; obtain ⟨r8, h16, h⟩ := h
      replace h16 := zbfj q (M + 7) (by omega) _ _ _ _ h16
      try simp only [kf, simprocAttr] at h16
      replace h := bb h; rcases h with ⟨h17', h17, h⟩ | ⟨h17', h17, h⟩
      ·cases h; subst hR; simp only [zbfk, simprocAttr, *]
      ·cases h; subst hR; simp only [zbfk, simprocAttr, *]
     ·cases h; subst hR; simp only [zbfk, simprocAttr, *]
 ·replace h := br h; rcases h with ⟨h18, h⟩ | ⟨h18, h⟩
  ·replace h := br h; rcases h with ⟨h19, h⟩ | ⟨h19, h⟩
   ·cases h; subst hR; simp only [zbfk, simprocAttr, *]
   ·replace h := br h; rcases h with ⟨h20, h⟩ | ⟨h20, h⟩
    ·cases h; subst hR; simp only [zbfk, simprocAttr, *]
    ·replace h := ob h; obtain ⟨r9, h21, h⟩ := h
     replace h21 := zbfg q (M + 7) (by omega) _ _ _ h21
     try simp only [kf, simprocAttr] at h21
     replace h := ob h; obtain ⟨r10, h22, h⟩ := h
     replace h22 := zbfe q (M + 7) (by omega) _ _ _ h22
     try simp only [kf, simprocAttr] at h22
     replace h := bb h; rcases h with ⟨h23', h23, h⟩ | ⟨h23', h23, h⟩
     ·replace h := ob h; obtain ⟨r11, h24, h⟩ := h
      replace h24 := zbdx q (M + 7) (by omega) _ _ h24
      try simp only [kf, simprocAttr] at h24
      replace h := ob h; obtain ⟨r12, h25, h⟩ := h
      replace h25 := zbe7 q (M + 7) (by omega) _ _ _ _ h25
      try simp only [kf, simprocAttr] at h25
      cases h; subst hR; simp only [zbfk, simprocAttr, *]
     ·replace h := br h; rcases h with ⟨h26, h⟩ | ⟨h26, h⟩
      ·replace h := ob h; obtain ⟨r13, h27, h⟩ := h
       replace h27 := zbc8 q (M + 7) (by omega) _ _ h27
       replace h := ob h; obtain ⟨r14, h28, h⟩ := h
       replace h28 := zbfj q (M + 7) (by omega) _ _ _ _ h28
       try simp only [kf, simprocAttr] at h28
       replace h := bb h; rcases h with ⟨h29', h29, h⟩ | ⟨h29', h29, h⟩
       ·cases h; subst hR; simp only [zbfk, simprocAttr, *]
       ·cases h; subst hR; simp only [zbfk, simprocAttr, *]
      ·cases h; subst hR; simp only [zbfk, simprocAttr, *]
  ·replace h := br h; rcases h with ⟨h30, h⟩ | ⟨h30, h⟩
   ·replace h := br h; rcases h with ⟨h31, h⟩ | ⟨h31, h⟩
    ·cases h; subst hR; simp only [zbfk, simprocAttr, *]
    ·replace h := br h; rcases h with ⟨h32, h⟩ | ⟨h32, h⟩
     ·cases h; subst hR; simp only [zbfk, simprocAttr, *]
     ·replace h := ob h; obtain ⟨r15, h33, h⟩ := h
      replace h33 := zbfg q (M + 7) (by omega) _ _ _ h33
      try simp only [kf, simprocAttr] at h33
      replace h := ob h; obtain ⟨r16, h34, h⟩ := h
      replace h34 := zbfe q (M + 7) (by omega) _ _ _ h34
      try simp only [kf, simprocAttr] at h34
      replace h := ob h; obtain ⟨r17, h35, h⟩ := h
      replace h35 := zbc8 q (M + 7) (by omega) _ _ h35
      replace h := ob h; obtain ⟨r18, h36, h⟩ := h
      replace h36 := zbfj q (M + 7) (by omega) _ _ _ _ h36
      try simp only [kf, simprocAttr] at h36
      replace h := bb h; rcases h with ⟨h37', h37, h⟩ | ⟨h37', h37, h⟩
      ·cases h; subst hR; simp only [zbfk, simprocAttr, *]
      ·cases h; subst hR; simp only [zbfk, simprocAttr, *]
   ·cases h; subst hR; simp only [zbfk, simprocAttr, *]
def zbfm := And.intro @kk <| And.intro @ke <| And.intro @kn <| And.intro @zbaw <| And.intro @zbao <| And.intro @zbau <| @zbay
theorem zbfn : ∀ (q N : Nat), 8 * q ≤ N → ∀ (a0 : zjq) (a1 : zju), ∀ (r : zjq × Int), zk1 q a0 a1 = some r → (orc T N).deep F.zk1 [zjq.enc a0, zju.enc a1] = some [zjq.enc r.1, (V.int .i64) r.2] := by
 intro q N hM a0 a1 r h
 rcases q with _ | q
 ·cases h
 obtain ⟨M, rfl⟩ : ∃ M, N = M + 8 := ⟨N - 8, by omega⟩
 generalize hR : some [zjq.enc r.1, (V.int .i64) r.2] = R
 rw [zhx, z6b, y4, zhv z3l rfl]
 rw [zk1] at h
 replace h := br h; rcases h with ⟨h1, h⟩ | ⟨h1, h⟩
 ·cases h; subst hR; simp only [zbfm, simprocAttr, *]
 ·replace h := br h; rcases h with ⟨h2, h⟩ | ⟨h2, h⟩
  ·cases h; subst hR; simp only [zbfm, simprocAttr, *]
  ·replace h := br h; rcases h with ⟨h3, h⟩ | ⟨h3, h⟩
   ·cases h; subst hR; simp only [zbfm, simprocAttr, *]
   ·replace h := ob h; obtain ⟨r1, h4, h⟩ := h
    replace h4 := zbfg q (M + 7) (by omega) _ _ _ h4
    try simp only [kf, simprocAttr] at h4
    replace h := ob h; obtain ⟨r2, h5, h⟩ := h
    replace h5 := zbfg q (M + 7) (by omega) _ _ _ h5
    try simp only [kf, simprocAttr] at h5
    replace h := br h; rcases h with ⟨h6, h⟩ | ⟨h6, h⟩
    ·cases h; subst hR; simp only [zbfm, simprocAttr, *]
    ·replace h := br h; rcases h with ⟨h7, h⟩ | ⟨h7, h⟩
     ·cases h; subst hR; simp only [zbfm, simprocAttr, *]
     ·replace h := ob h; obtain ⟨r3, h8, h⟩ := h
      replace h8 := zbfj q (M + 7) (by omega) _ _ _ _ h8
      try simp only [kf, simprocAttr] at h8
      replace h := bb h; rcases h with ⟨h9', h9, h⟩ | ⟨h9', h9, h⟩
      ·replace h := br h; rcases h with ⟨h10, h⟩ | ⟨h10, h⟩
       ·cases h; subst hR; simp only [zbfm, simprocAttr, *]
       ·replace h := ob h; obtain ⟨r4, h11, h⟩ := h
        replace h11 := zbfj q (M + 7) (by omega) _ _ _ _ h11
        try simp only [kf, simprocAttr] at h11
        cases h; subst hR; simp only [zbfm, simprocAttr, *]
      ·cases h; subst hR; simp only [zbfm, simprocAttr, *]
def zbfo := And.intro @kk <| And.intro @ke <| And.intro @kn <| And.intro @z9t <| And.intro @z89 <| And.intro @zbao <| And.intro @zbau <| And.intro @zbax <| @z9v
theorem zbfp : ∀ (q N : Nat), 8 * q ≤ N → ∀ (a0 : zjq) (a1 : zju), ∀ (r : zjq × Int), zk2 q a0 a1 = some r → (orc T N).deep F.zk2 [zjq.enc a0, zju.enc a1] = some [zjq.enc r.1, (V.int .i64) r.2] := by
 intro q N hM a0 a1 r h
 rcases q with _ | q
 ·cases h
 obtain ⟨M, rfl⟩ : ∃ M, N = M + 8 := ⟨N - 8, by omega⟩
 generalize hR : some [zjq.enc r.1, (V.int .i64) r.2] = R
 rw [zhx, z5y, y4, zhv zxv rfl]
 rw [zk2] at h
 replace h := br h; rcases h with ⟨h1, h⟩ | ⟨h1, h⟩
 ·replace h := ob h; obtain ⟨r1, h2, h⟩ := h
  replace h2 := zbfn q (M + 7) (by omega) _ _ _ h2
  try simp only [kf, simprocAttr] at h2
  cases h; subst hR; simp only [zbfo, simprocAttr, *]
 ·replace h := br h; rcases h with ⟨h3, h⟩ | ⟨h3, h⟩
  ·replace h := br h; rcases h with ⟨h4, h⟩ | ⟨h4, h⟩
   ·cases h; subst hR; simp only [zbfo, simprocAttr, *]
   ·replace h := br h; rcases h with ⟨h5, h⟩ | ⟨h5, h⟩
    ·cases h; subst hR; simp only [zbfo, simprocAttr, *]
    ·replace h := ob h; obtain ⟨r2, h6, h⟩ := h
     replace h6 := zbfg q (M + 7) (by omega) _ _ _ h6
     try simp only [kf, simprocAttr] at h6
     cases h; subst hR; simp only [zbfo, simprocAttr, *]
  ·replace h := br h; rcases h with ⟨h7, h⟩ | ⟨h7, h⟩
   ·replace h := br h; rcases h with ⟨h8, h⟩ | ⟨h8, h⟩
    ·cases h; subst hR; simp only [zbfo, simprocAttr, *]
    ·replace h := br h; rcases h with ⟨h9, h⟩ | ⟨h9, h⟩
     ·cases h; subst hR; simp only [zbfo, simprocAttr, *]
     ·replace h := br h; rcases h with ⟨h10, h⟩ | ⟨h10, h⟩
      ·cases h; subst hR; simp only [zbfo, simprocAttr, *]
      ·replace h := ob h; obtain ⟨r3, h11, h⟩ := h
       replace h11 := zbfg q (M + 7) (by omega) _ _ _ h11
       try simp only [kf, simprocAttr] at h11
       replace h := ob h; obtain ⟨r4, h12, h⟩ := h
       replace h12 := zbc8 q (M + 7) (by omega) _ _ h12
       replace h := ob h; obtain ⟨r5, h13, h⟩ := h
       replace h13 := zbc8 q (M + 7) (by omega) _ _ h13
       replace h := ob h; obtain ⟨r6, h14, h⟩ := h
       replace h14 := zbfj q (M + 7) (by omega) _ _ _ _ h14
       try simp only [kf, simprocAttr] at h14
       replace h := bb h; rcases h with ⟨h15', h15, h⟩ | ⟨h15', h15, h⟩
       ·cases h; subst hR; simp only [zbfo, simprocAttr, *]
       ·cases h; subst hR; simp only [zbfo, simprocAttr, *]
   ·cases h; subst hR; simp only [zbfo, simprocAttr, *]
def zbfq := And.intro @kk <| And.intro @ke <| And.intro @kn <| And.intro @z7o <| And.intro @z7g <| And.intro @z9l <| And.intro @z9o <| And.intro @z9r <| And.intro @z9u <| @z7q
theorem zbfr : ∀ (q N : Nat), 8 * q ≤ N → ∀ (a0 : zjq) (a1 : zju), ∀ (r : zjq × Int), zk3 q a0 a1 = some r → (orc T N).deep F.zk3 [zjq.enc a0, zju.enc a1] = some [zjq.enc r.1, (V.int .i64) r.2] := by
 intro q N hM a0 a1 r h
 rcases q with _ | q
 ·cases h
 obtain ⟨M, rfl⟩ : ∃ M, N = M + 8 := ⟨N - 8, by omega⟩
 generalize hR : some [zjq.enc r.1, (V.int .i64) r.2] = R
 rw [zhx, z48, y4, zhv zqk rfl]
 rw [zk3] at h
 replace h := ob h; obtain ⟨r1, h1, h⟩ := h
 replace h1 := zbdm q (M + 7) (by omega) _ _ h1
 try simp only [kf, simprocAttr] at h1
 replace h := bb h; rcases h with ⟨h2', h2, h⟩ | ⟨h2', h2, h⟩
 ·replace h := bb h; rcases h with ⟨h3', h3, h⟩ | ⟨h3', h3, h⟩
  ·cases h; subst hR; simp only [zbfq, simprocAttr, *]
  ·replace h := br h; rcases h with ⟨h4, h⟩ | ⟨h4, h⟩
   ·replace h := br h; rcases h with ⟨h5, h⟩ | ⟨h5, h⟩
    ·replace h := br h; rcases h with ⟨h6, h⟩ | ⟨h6, h⟩
     ·cases h; subst hR; simp only [zbfq, simprocAttr, *]
     ·cases h; subst hR; simp only [zbfq, simprocAttr, *]
    ·cases h; subst hR; simp only [zbfq, simprocAttr, *]
   ·replace h := br h; rcases h with ⟨h7, h⟩ | ⟨h7, h⟩
    ·replace h := ob h; obtain ⟨r2, h8, h⟩ := h
     replace h8 := zbe5 q (M + 7) (by omega) _ _ _ h8
     try simp only [kf, simprocAttr] at h8
     cases h; subst hR; simp only [zbfq, simprocAttr, *]
    ·replace h := br h; rcases h with ⟨h9, h⟩ | ⟨h9, h⟩
     ·replace h := ob h; obtain ⟨r3, h10, h⟩ := h
      replace h10 := zbe5 q (M + 7) (by omega) _ _ _ h10
      try simp only [kf, simprocAttr] at h10
      cases h; subst hR; simp only [zbfq, simprocAttr, *]
     ·replace h := br h; rcases h with ⟨h11, h⟩ | ⟨h11, h⟩
      ·replace h := ob h; obtain ⟨r4, h12, h⟩ := h
       replace h12 := zbe9 q (M + 7) (by omega) _ _ _ h12
       try simp only [kf, simprocAttr] at h12
       cases h; subst hR; simp only [zbfq, simprocAttr, *]
      ·replace h := br h; rcases h with ⟨h13, h⟩ | ⟨h13, h⟩
       ·replace h := ob h; obtain ⟨r5, h14, h⟩ := h
        replace h14 := zbe9 q (M + 7) (by omega) _ _ _ h14
        try simp only [kf, simprocAttr] at h14
        cases h; subst hR; simp only [zbfq, simprocAttr, *]
       ·replace h := br h; rcases h with ⟨h15, h⟩ | ⟨h15, h⟩
        ·replace h := ob h; obtain ⟨r6, h16, h⟩ := h
         replace h16 := zbfl q (M + 7) (by omega) _ _ _ h16
         try simp only [kf, simprocAttr] at h16
         cases h; subst hR; simp only [zbfq, simprocAttr, *]
        ·replace h := ob h; obtain ⟨r7, h17, h⟩ := h
         replace h17 := zbfp q (M + 7) (by omega) _ _ _ h17
         try simp only [kf, simprocAttr] at h17
         cases h; subst hR; simp only [zbfq, simprocAttr, *]
 ·cases h; subst hR; simp only [zbfq, simprocAttr, *]
def zbfs (q : Nat) : Prop := ∀ (M : Nat) (hM : 8 * q ≤ M) (j : Nat) (hj : q ≤ j) (v8z : Bool) (v8l : List zjv) (v9 h0_0 h0_1 : Int) (h0_2z : Bool) (h0_2l : List Int) (h0_3 : Bool) (h0_4 : Int) (h0_5z : Bool) (h0_5l : List zjr) (r : zjs × Int) (_ : zk5 q v8z v8l v9 h0_0 h0_1 h0_2z h0_2l h0_3 h0_4 h0_5z h0_5l = some r) (R : Option (List V)) (_ : some [zjs.enc r.1, (V.int .i64) r.2] = R) (fr : Fr) (H : Hp) (_ : canon 0 [2, 4, 8, 9, 10] fr H = ([(2, (.ptr 0 0)), (4, (.ptr 1 0)), (8, (.sl v8z (List.map zjv.enc v8l))), (9, (.int .i64 v9)), (10, (.int .i64 0))], [(.box [(.int .i64 h0_0), (.int .i64 h0_1), (.sl h0_2z (List.map (V.int .i64) h0_2l)), (.bool h0_3), (.int .i64 h0_4), (.sl h0_5z (List.map zjr.enc h0_5l))]), (.box [(.int .i64 0), (.int .i64 0), (.sl true []), (.bool false), (.int .i64 0), (.sl true [])])])), fin znp (unw T (orc T (M + 7)) (M + 7) 0 [.blk 0, .code znm] (iter 0 [2, 4, 8, 9, 10] (exec T (orc T (M + 7)) (M + 7) 0 znj) j fr H)) = R
def zbft (q : Nat) : Prop := ∀ (M : Nat) (hM : 8 * q ≤ M) (j : Nat) (hj : q ≤ j) (v8z : Bool) (v8l : List zjv) (v9 v10 h0_0 h0_1 : Int) (h0_2z : Bool) (h0_2l : List Int) (h0_3 : Bool) (h0_4 : Int) (h2z : Bool) (h2l : List zjr) (h2x : Bool) (r : zjs × Int) (_ : zk4 q v8z v8l v9 v10 h0_0 h0_1 h0_2z h0_2l h0_3 h0_4 h2z h2l h2x = some r) (R : Option (List V)) (_ : some [zjs.enc r.1, (V.int .i64) r.2] = R) (fr : Fr) (H : Hp) (_ : canon 0 [2, 4, 8, 9, 10] fr H = ([(2, (.ptr 0 0)), (4, (.ptr 1 0)), (8, (.sl v8z (List.map zjv.enc v8l))), (9, (.int .i64 v9)), (10, (.int .i64 v10))], [(.box [(.int .i64 h0_0), (.int .i64 h0_1), (.sl h0_2z (List.map (V.int .i64) h0_2l)), (.bool h0_3), (.int .i64 h0_4), (.vw 2 0 0 h2l.length 1)]), (.box [(.int .i64 0), (.int .i64 0), (.sl true []), (.bool false), (.int .i64 0), (.sl true [])]), (.row 0 h2z 3 (List.map zjr.enc h2l) h2x)])), fin znp (unw T (orc T (M + 7)) (M + 7) 0 [.blk 0, .code znm] (iter 0 [2, 4, 8, 9, 10] (exec T (orc T (M + 7)) (M + 7) 0 znj) j fr H)) = R
def zbfu := And.intro @kk <| And.intro @ke <| And.intro @kn <| And.intro @z6o <| And.intro @z6y <| And.intro @z7m <| And.intro @z7p <| @z6q
theorem zbfv (q : Nat) (zbhq : zbft q) : zbfs (q + 1) := by
 intro M hM j hj v8z v8l v9 h0_0 h0_1 h0_2z h0_2l h0_3 h0_4 h0_5z h0_5l r h R hR fr H hc
 obtain ⟨j, rfl⟩ : ∃ i, j = i + 1 := ⟨j - 1, by omega⟩
 rw [zhn, hc]; clear hc
 rw [zk5] at h
 replace h := br h; rcases h with ⟨h1, h⟩ | ⟨h1, h⟩
 ·replace h := ob h; obtain ⟨e1, h2, h⟩ := h
  replace h := br h; rcases h with ⟨h3, h⟩ | ⟨h3, h⟩
  ·replace h := ob h; obtain ⟨r2, h4, h⟩ := h
   replace h4 := zbe3 q (M + 7) (by omega) _ _ h4
   try simp only [kf, simprocAttr] at h4
   replace h := bb h; rcases h with ⟨h5', h5, h⟩ | ⟨h5', h5, h⟩
   ·replace h := ob h; obtain ⟨r3, h6, h⟩ := h
    replace h6 := zbfr q (M + 7) (by omega) _ _ _ h6
    try simp only [kf, simprocAttr] at h6
    replace h := ob h; obtain ⟨r4, h7, h⟩ := h
    replace h7 := zbeh q (M + 7) (by omega) _ _ _ h7
    try simp only [kf, simprocAttr] at h7
    replace h := zbhq M (by omega) j (by omega) _ _ _ _ _ _ _ _ _ _ _ _ _ _ h R hR
    simp only [zbfu, simprocAttr, *]
   ·cases h; subst hR; simp only [zbfu, simprocAttr, *]
  ·cases h; subst hR; simp only [zbfu, simprocAttr, *]
 ·cases h; subst hR; simp only [zbfu, simprocAttr, *]
theorem zbfw (q : Nat) (zbhq : zbft q) : zbft (q + 1) := by
 intro M hM j hj v8z v8l v9 v10 h0_0 h0_1 h0_2z h0_2l h0_3 h0_4 h2z h2l h2x r h R hR fr H hc
 obtain ⟨j, rfl⟩ : ∃ i, j = i + 1 := ⟨j - 1, by omega⟩
 rw [zhn, hc]; clear hc
 rw [zk4] at h
 replace h := br h; rcases h with ⟨h1, h⟩ | ⟨h1, h⟩
 ·replace h := bn h; obtain ⟨h2, h⟩ := h
  replace h := ob h; obtain ⟨e5, h3, h⟩ := h
  replace h := br h; rcases h with ⟨h4, h⟩ | ⟨h4, h⟩
  ·replace h := ob h; obtain ⟨r6, h5, h⟩ := h
   replace h5 := zbe3 q (M + 7) (by omega) _ _ h5
   try simp only [kf, simprocAttr] at h5
   replace h := bb h; rcases h with ⟨h6', h6, h⟩ | ⟨h6', h6, h⟩
   ·replace h := ob h; obtain ⟨r7, h7, h⟩ := h
    replace h7 := zbfr q (M + 7) (by omega) _ _ _ h7
    try simp only [kf, simprocAttr] at h7
    replace h := ob h; obtain ⟨r8, h8, h⟩ := h
    replace h8 := zbeh q (M + 7) (by omega) _ _ _ h8
    try simp only [kf, simprocAttr] at h8
    replace h := zbhq M (by omega) j (by omega) _ _ _ _ _ _ _ _ _ _ _ _ _ _ h R hR
    simp only [zbfu, simprocAttr, *]
   ·cases h; subst hR; simp only [zbfu, simprocAttr, *]
  ·cases h; subst hR; simp only [zbfu, simprocAttr, *]
 ·cases h; subst hR; simp only [zbfu, simprocAttr, *]
theorem zbfx : ∀ q, zbfs q ∧ zbft q
 | 0 => by refine ⟨?_, ?_⟩ <;> (intro M hM j hj; intros; rename_i h _ _ _ _ _; cases h)
 | q + 1 => by have ⟨i0, i1⟩ := zbfx q; exact ⟨zbfv q i1, zbfw q i1⟩
theorem zbfy : ∀ (q N : Nat), 8 * q ≤ N → ∀ (a0 : zjs) (a1 : (Sl zjv)), ∀ (r : zjs × Int), zk6 q a0 a1 = some r → (orc T N).deep F.zk6 [zjs.enc a0, (Sl.enc zjv.enc) a1] = some [zjs.enc r.1, (V.int .i64) r.2] := by
 intro q N hM a0 a1 r h
 rcases q with _ | q
 ·cases h
 obtain ⟨M, rfl⟩ : ∃ M, N = M + 8 := ⟨N - 8, by omega⟩
 have ih_snapshot_Take_l0 := (zbfx q).1
 generalize hR : some [zjs.enc r.1, (V.int .i64) r.2] = R
 rw [zhx, z4w, y4, zhv znp rfl]
 rw [zk6] at h
 replace h := ih_snapshot_Take_l0 M (by omega) (M + 7) (by omega) _ _ _ _ _ _ _ _ _ _ _ _ h R hR
 simp only [zbfu, simprocAttr, *]
def zbfz (q : Nat) : Prop := ∀ (M : Nat) (hM : 8 * q ≤ M) (j : Nat) (hj : q ≤ j) (v5 : Int) (h0_0 h1_0 : List Int) (r : (List Int)) (_ : zk7 q v5 h0_0 h1_0 = some r) (R : Option (List V)) (_ : some [(arrEnc (V.int .u32)) r] = R) (fr : Fr) (H : Hp) (_ : canon 0 [0, 1, 5] fr H = ([(0, (.ptr 0 0)), (1, (.ptr 1 0)), (5, (.int .i64 v5))], [(.box (List.map (V.int .u32) h0_0)), (.box (List.map (V.int .u32) h1_0))])), fin z4r (unw T (orc T (M + 7)) (M + 7) 0 [.blk 0, .code z4n] (iter 0 [0, 1, 5] (exec T (orc T (M + 7)) (M + 7) 0 z4k) j fr H)) = R
def zbf0 (q : Nat) : Prop := ∀ (M : Nat) (hM : 8 * q ≤ M) (j : Nat) (hj : q ≤ j) (j1 : Nat) (hj1 : q ≤ j1) (v2 v3 v5 v10 : Int) (h0_0 h1_0 : List Int) (r : (List Int)) (_ : zk8 q v2 v3 v5 v10 h0_0 h1_0 = some r) (R : Option (List V)) (_ : some [(arrEnc (V.int .u32)) r] = R) (fr : Fr) (H : Hp) (_ : canon 0 [0, 1, 2, 3, 5, 10] fr H = ([(0, (.ptr 0 0)), (1, (.ptr 1 0)), (2, (.int .i64 v2)), (3, (.int .u32 v3)), (5, (.int .i64 v5)), (10, (.int .i64 v10))], [(.box (List.map (V.int .u32) h0_0)), (.box (List.map (V.int .u32) h1_0))])), fin z4r (unw T (orc T (M + 7)) (M + 7) 0 [.blk 2, .code z4d, .blk 1, .code z4h, .rounds [0, 1, 5] z4k j1, .blk 0, .code z4n] (iter 0 [0, 1, 2, 3, 5, 10] (exec T (orc T (M + 7)) (M + 7) 0 z4a) j fr H)) = R
def zbf1 := And.intro @kk <| And.intro @ke <| And.intro @kn <| And.intro @zba2 <| @zba4
theorem zbf2 (q : Nat) (zbhr : zbf0 q) : zbfz (q + 1) := by
 intro M hM j hj v5 h0_0 h1_0 r h R hR fr H hc
 obtain ⟨j, rfl⟩ : ∃ i, j = i + 1 := ⟨j - 1, by omega⟩
 rw [zhn, hc]; clear hc
 rw [zk7] at h
 replace h := br h; rcases h with ⟨h1, h⟩ | ⟨h1, h⟩
 ·replace h := zbhr M (by omega) (M + 7) (by omega) j (by omega) _ _ _ _ _ _ _ h R hR
  simp (maxDischargeDepth := 12) only [zbf1, simprocAttr, arrEnc, *]
 ·replace h := bn h; obtain ⟨h2, h⟩ := h
  replace h := bc h; rcases h with ⟨h3, h⟩ | ⟨h3, h⟩
  ·replace h := bn h; obtain ⟨h4, h⟩ := h
   replace h := bn h; obtain ⟨h5, h⟩ := h
   cases h; subst hR; simp (maxDischargeDepth := 12) only [zbf1, simprocAttr, arrEnc, *]
  ·cases h
theorem zbf3 (q : Nat) (zbhs : zbfz q) (zbhr : zbf0 q) : zbf0 (q + 1) := by
 intro M hM j hj j1 hj1 v2 v3 v5 v10 h0_0 h1_0 r h R hR fr H hc
 obtain ⟨j, rfl⟩ : ∃ i, j = i + 1 := ⟨j - 1, by omega⟩
 rw [zhn, hc]; clear hc
 rw [zk8] at h
 replace h := br h; rcases h with ⟨h1, h⟩ | ⟨h1, h⟩
 ·replace h := zbhr M (by omega) j (by omega) j1 (by omega) _ _ _ _ _ _ _ h R hR
  simp (maxDischargeDepth := 12) only [zbf1, simprocAttr, arrEnc, *]
 ·replace h := bn h; obtain ⟨h2, h⟩ := h
  replace h := bn h; obtain ⟨h3, h⟩ := h
  replace h := bn h; obtain ⟨h4, h⟩ := h
  replace h := zbhs M (by omega) j1 (by omega) _ _ _ _ h R hR
  simp (maxDischargeDepth := 12) only [zbf1, simprocAttr, arrEnc, *]
theorem zbf4 : ∀ q, zbfz q ∧ zbf0 q
 | 0 => by refine ⟨?_, ?_⟩ <;> (intro M hM j hj; intros; rename_i h _ _ _ _ _; cases h)
 | q + 1 => by have ⟨i0, i1⟩ := zbf4 q; exact ⟨zbf2 q i1, zbf3 q i0 i1⟩
theorem zbf5 : ∀ (q N : Nat), 8 * q ≤ N → ∀ (r : (List Int)), zk9 q = some r → (orc T N).deep F.zk9 [] = some [(arrEnc (V.int .u32)) r] := by
 intro q N hM r h
 rcases q with _ | q
 ·cases h
 obtain ⟨M, rfl⟩ : ∃ M, N = M + 8 := ⟨N - 8, by omega⟩
 have zbhs := (zbf4 q).1
 generalize hR : some [(arrEnc (V.int .u32)) r] = R
 rw [zhx, z6d, y4, zhv z4r rfl]
 rw [zk9] at h
 replace h := zbhs M (by omega) (M + 7) (by omega) _ _ _ _ h R hR
 simp (maxDischargeDepth := 12) only [zbf1, simprocAttr, arrEnc, *]
def zbf6 (q : Nat) : Prop := ∀ (M : Nat) (hM : 8 * q ≤ M) (j : Nat) (hj : q ≤ j) (v6 : Int) (v12z : Bool) (v12l : List Int) (v13 v14 : Int) (h0_0 : List Int) (r : Int) (_ : zla q v6 v12z v12l v13 v14 h0_0 = some r) (R : Option (List V)) (_ : some [(V.int .u32) r] = R) (fr : Fr) (H : Hp) (_ : canon 0 [5, 6, 12, 13, 14] fr H = ([(5, (.ptr 0 0)), (6, (.int .u32 v6)), (12, (.sl v12z (List.map (V.int .u8) v12l))), (13, (.int .i64 v13)), (14, (.int .i64 v14))], [(.box (List.map (V.int .u32) h0_0))])), fin zz9 (unw T (orc T (M + 7)) (M + 7) 0 [.blk 0, .code zz4] (iter 0 [5, 6, 12, 13, 14] (exec T (orc T (M + 7)) (M + 7) 0 zz1) j fr H)) = R
def zbf7 := And.intro @kk <| And.intro @ke <| And.intro @kn <| And.intro @zbab <| And.intro @zba3 <| @zbad
theorem zbf8 (q : Nat) (zbht : zbf6 q) : zbf6 (q + 1) := by
 intro M hM j hj v6 v12z v12l v13 v14 h0_0 r h R hR fr H hc
 obtain ⟨j, rfl⟩ : ∃ i, j = i + 1 := ⟨j - 1, by omega⟩
 rw [zhn, hc]; clear hc
 rw [zla] at h
 replace h := br h; rcases h with ⟨h1, h⟩ | ⟨h1, h⟩
 ·replace h := bn h; obtain ⟨h2, h⟩ := h
  replace h := ob h; obtain ⟨e2, h3, h⟩ := h
  replace h := bn h; obtain ⟨h4, h⟩ := h
  replace h := bn h; obtain ⟨h5, h⟩ := h
  replace h := ob h; obtain ⟨e3, h6, h⟩ := h
  replace h := zbht M (by omega) j (by omega) _ _ _ _ _ _ _ h R hR
  simp only [zbf7, simprocAttr, arrEnc, *]
 ·cases h; subst hR; simp only [zbf7, simprocAttr, arrEnc, *]
theorem zbf9 : ∀ q, zbf6 q
 | 0 => by intro M hM j hj; intros; rename_i h _ _ _ _ _; cases h
 | q + 1 => by have i0 := zbf9 q; exact zbf8 q i0
theorem zbga : ∀ (q N : Nat), 8 * q ≤ N → ∀ (a0 : Int) (a1 : (Sl Int)), ∀ (r : Int), zlb q a0 a1 = some r → (orc T N).deep F.zlb [(V.int .u32) a0, (Sl.enc (V.int .u8)) a1] = some [(V.int .u32) r] := by
 intro q N hM a0 a1 r h
 rcases q with _ | q
 ·cases h
 obtain ⟨M, rfl⟩ : ∃ M, N = M + 8 := ⟨N - 8, by omega⟩
 have zbht := (zbf9 q)
 generalize hR : some [(V.int .u32) r] = R
 rw [zhx, z54, y4, zhv zz9 rfl]
 rw [zlb] at h
 replace h := ob h; obtain ⟨r1, h1, h⟩ := h
 replace h1 := zbf5 q (M + 7) (by omega)  _ h1
 try simp only [kf, simprocAttr] at h1
 replace h := bc h; rcases h with ⟨h2, h⟩ | ⟨h2, h⟩
 ·replace h := zbht M (by omega) (M + 7) (by omega) _ _ _ _ _ _ _ h R hR
  simp only [zbf7, simprocAttr, arrEnc, *]
 ·cases h
def zbgb := And.intro @kk <| And.intro @ke <| And.intro @kn <| And.intro @z8w <| And.intro @zbac <| @z8y
theorem zbgc : ∀ (q N : Nat), 8 * q ≤ N → ∀ (a0 : (Sl Int)), ∀ (r : Int), zlc q a0 = some r → (orc T N).deep F.zlc [(Sl.enc (V.int .u8)) a0] = some [(V.int .u32) r] := by
 intro q N hM a0 r h
 rcases q with _ | q
 ·cases h
 obtain ⟨M, rfl⟩ : ∃ M, N = M + 8 := ⟨N - 8, by omega⟩
 generalize hR : some [(V.int .u32) r] = R
 rw [zhx, z5n, y4, zhv zs1 rfl]
 rw [zlc] at h
 replace h := ob h; obtain ⟨r1, h1, h⟩ := h
 replace h1 := zbga q (M + 7) (by omega) _ _ _ h1
 try simp only [kf, simprocAttr] at h1
 cases h; subst hR; simp only [zbgb, simprocAttr, *]
def zbgd (q : Nat) : Prop := ∀ (M : Nat) (hM : 8 * q ≤ M) (j : Nat) (hj : q ≤ j) (v0 v7 v8 : Int) (h0z : Bool) (h0l : List Int) (r : (Ow Int)) (_ : zld q v0 v7 v8 h0z h0l = some r) (R : Option (List V)) (_ : some [(Ow.enc 1 (V.int .u8)) r] = R) (fr : Fr) (H : Hp) (_ : canon 0 [0, 5, 7, 8] fr H = ([(0, (.int .u64 v0)), (5, (.vw 0 0 0 h0l.length 1)), (7, (.int .i64 v7)), (8, (.int .i64 v8))], [(.row 0 h0z 1 (List.map (V.int .u8) h0l) true)])), fin zzo (unw T (orc T (M + 7)) (M + 7) 0 [.blk 0, .code zzk] (iter 0 [0, 5, 7, 8] (exec T (orc T (M + 7)) (M + 7) 0 zzh) j fr H)) = R
def zbge := And.intro @kk <| And.intro @ke <| And.intro @kn <| And.intro @z98 <| @zbaa
theorem zbgf (q : Nat) (zbhu : zbgd q) : zbgd (q + 1) := by
 intro M hM j hj v0 v7 v8 h0z h0l r h R hR fr H hc
 obtain ⟨j, rfl⟩ : ∃ i, j = i + 1 := ⟨j - 1, by omega⟩
 rw [zhn, hc]; clear hc
 rw [zld] at h
 replace h := br h; rcases h with ⟨h1, h⟩ | ⟨h1, h⟩
 ·replace h := bm h; obtain ⟨h2, h⟩ := h
  replace h := bn h; obtain ⟨h3, h⟩ := h
  replace h := zbhu M (by omega) j (by omega) _ _ _ _ _ _ h R hR
  simp only [zbge, simprocAttr, *]
 ·cases h; subst hR; simp only [zbge, simprocAttr, *]
theorem zbgg : ∀ q, zbgd q
 | 0 => by intro M hM j hj; intros; rename_i h _ _ _ _ _; cases h
 | q + 1 => by have i0 := zbgg q; exact zbgf q i0
theorem zbgh : ∀ (q N : Nat), 8 * q ≤ N → ∀ (a0 a1 : Int), ∀ (r : (Ow Int)), zle q a0 a1 = some r → (orc T N).deep F.zle [(V.int .u64) a0, (V.int .i64) a1] = some [(Ow.enc 1 (V.int .u8)) r] := by
 intro q N hM a0 a1 r h
 rcases q with _ | q
 ·cases h
 obtain ⟨M, rfl⟩ : ∃ M, N = M + 8 := ⟨N - 8, by omega⟩
 have zbhu := (zbgg q)
 generalize hR : some [(Ow.enc 1 (V.int .u8)) r] = R
 rw [zhx, z53, y4, zhv zzo rfl]
 rw [zle] at h
 replace h := zbhu M (by omega) (M + 7) (by omega) _ _ _ _ _ _ h R hR
 simp only [zbge, simprocAttr, *]
def zbgi := And.intro @kk <| And.intro @ke <| And.intro @kn <| And.intro @z8t <| And.intro @z99 <| @z8v
theorem zbgj : ∀ (q N : Nat), 8 * q ≤ N → ∀ (a0 : Int), ∀ (r : (Ow Int)), zlf q a0 = some r → (orc T N).deep F.zlf [(V.int .u32) a0] = some [(Ow.enc 1 (V.int .u8)) r] := by
 intro q N hM a0 r h
 rcases q with _ | q
 ·cases h
 obtain ⟨M, rfl⟩ : ∃ M, N = M + 8 := ⟨N - 8, by omega⟩
 generalize hR : some [(Ow.enc 1 (V.int .u8)) r] = R
 rw [zhx, z5m, y4, zhv zsz rfl]
 rw [zlf] at h
 replace h := ob h; obtain ⟨r1, h1, h⟩ := h
 replace h1 := zbgh q (M + 7) (by omega) _ _ _ h1
 try simp only [kf, simprocAttr] at h1
 cases h; subst hR; simp only [zbgi, simprocAttr, *]
def zbgk := And.intro @kk <| And.intro @ke <| And.intro @kn <| And.intro @z9w <| And.intro @z8u <| And.intro @z8x <| And.intro @zbac <| @z9y
theorem zbgl : ∀ (q N : Nat), 8 * q ≤ N → ∀ (a0 a1 : (Sl Int)), ∀ (r : (Ow Int)), zlg q a0 a1 = some r → (orc T N).deep F.zlg [(Sl.enc (V.int .u8)) a0, (Sl.enc (V.int .u8)) a1] = some [(Ow.enc 1 (V.int .u8)) r] := by
 intro q N hM a0 a1 r h
 rcases q with _ | q
 ·cases h
 obtain ⟨M, rfl⟩ : ∃ M, N = M + 8 := ⟨N - 8, by omega⟩
 generalize hR : some [(Ow.enc 1 (V.int .u8)) r] = R
 rw [zhx, z5z, y4, zhv zx0 rfl]
 rw [zlg] at h
 replace h := ob h; obtain ⟨r1, h1, h⟩ := h
 replace h1 := zbgc q (M + 7) (by omega) _ _ h1
 try simp only [kf, simprocAttr] at h1
 replace h := ob h; obtain ⟨r2, h2, h⟩ := h
 replace h2 := zbga q (M + 7) (by omega) _ _ _ h2
 try simp only [kf, simprocAttr] at h2
 replace h := ob h; obtain ⟨r3, h3, h⟩ := h
 replace h3 := zbgj q (M + 7) (by omega) _ _ h3
 try simp only [kf, simprocAttr] at h3
 cases h; subst hR; simp only [zbgk, simprocAttr, *]
def zbgm (q : Nat) : Prop := ∀ (M : Nat) (hM : 8 * q ≤ M) (j : Nat) (hj : q ≤ j) (w0 : Nat) (v1 : Int) (h0z : Bool) (h0l : List Int) (h0x : Bool) (r : (Ow Int)) (_ : zlh q v1 h0z h0l h0x = some r) (R : Option (List V)) (_ : some [(Ow.enc 1 (V.int .u8)) r] = R) (fr : Fr) (H : Hp) (_ : canon 1 [0, 1] fr H = ([(0, (.vw 0 w0 0 h0l.length 1)), (1, (.int .u64 v1))], [(.row w0 h0z 1 (List.map (V.int .u8) h0l) h0x)])), fin zyd (unw T (orc T (M + 7)) (M + 7) 1 [.blk 0, .code zya] (iter 1 [0, 1] (exec T (orc T (M + 7)) (M + 7) 1 zx8) j fr H)) = R
def zbgn := And.intro @kk <| And.intro @ke <| And.intro @kn <| And.intro @z9z <| @z91
theorem zbgo (q : Nat) (zbhv : zbgm q) : zbgm (q + 1) := by
 intro M hM j hj w0 v1 h0z h0l h0x r h R hR fr H hc
 obtain ⟨j, rfl⟩ : ∃ i, j = i + 1 := ⟨j - 1, by omega⟩
 rw [zhn, hc]; clear hc
 rw [zlh] at h
 replace h := br h; rcases h with ⟨h1, h⟩ | ⟨h1, h⟩
 ·replace h := bn h; obtain ⟨h2, h⟩ := h
  replace h := zbhv M (by omega) j (by omega) (w0 + 1) _ _ _ _ _ h R hR
  simp only [zbgn, simprocAttr, *]
 ·replace h := bn h; obtain ⟨h3, h⟩ := h
  cases h; subst hR; simp only [zbgn, simprocAttr, *]
theorem zbgp : ∀ q, zbgm q
 | 0 => by intro M hM j hj; intros; rename_i h _ _ _ _ _; cases h
 | q + 1 => by have i0 := zbgp q; exact zbgo q i0
theorem zbgq : ∀ (q N : Nat), 8 * q ≤ N → ∀ (a0 : (Ow Int)) (a1 : Int), ∀ (r : (Ow Int)), zli q a0 a1 = some r → (orc T N).deep F.zli [(Ow.enc 1 (V.int .u8)) a0, (V.int .u64) a1] = some [(Ow.enc 1 (V.int .u8)) r] := by
 intro q N hM a0 a1 r h
 rcases q with _ | q
 ·cases h
 obtain ⟨M, rfl⟩ : ∃ M, N = M + 8 := ⟨N - 8, by omega⟩
 have zbhv := (zbgp q)
 generalize hR : some [(Ow.enc 1 (V.int .u8)) r] = R
 rw [zhx, z50, y4, zhv zyd rfl]
 rw [zli] at h
 replace h := zbhv M (by omega) (M + 7) (by omega) 0 _ _ _ _ _ h R hR
 simp only [zbgn, simprocAttr, *]
def zbgr := And.intro @kk <| And.intro @ke <| And.intro @kn <| And.intro @z8n <| And.intro @z90 <| @z8p
theorem zbgs : ∀ (q N : Nat), 8 * q ≤ N → ∀ (a0 : (Ow Int)) (a1 : Int), ∀ (r : (Ow Int)), zlj q a0 a1 = some r → (orc T N).deep F.zlj [(Ow.enc 1 (V.int .u8)) a0, (V.int .i64) a1] = some [(Ow.enc 1 (V.int .u8)) r] := by
 intro q N hM a0 a1 r h
 rcases q with _ | q
 ·cases h
 obtain ⟨M, rfl⟩ : ∃ M, N = M + 8 := ⟨N - 8, by omega⟩
 generalize hR : some [(Ow.enc 1 (V.int .u8)) r] = R
 rw [zhx, z5k, y4, zhv zsv rfl]
 rw [zlj] at h
 replace h := br h; rcases h with ⟨h1, h⟩ | ⟨h1, h⟩
 ·cases h; subst hR; simp only [zbgr, simprocAttr, *]
 ·replace h := br h; rcases h with ⟨h2, h⟩ | ⟨h2, h⟩
  ·cases h; subst hR; simp only [zbgr, simprocAttr, *]
  ·replace h := ob h; obtain ⟨r1, h3, h⟩ := h
   replace h3 := zbgq q (M + 7) (by omega) _ _ _ h3
   try simp only [kf, simprocAttr] at h3
   cases h; subst hR; simp only [zbgr, simprocAttr, *]
def zbgt := And.intro @kk <| And.intro @ke <| And.intro @kn <| And.intro @z92 <| @z94
theorem zbgu : ∀ (q N : Nat), 8 * q ≤ N → ∀ (a0 r : Int), zlk q a0 = some r → (orc T N).deep F.zlk [(V.int .i64) a0] = some [(V.int .u64) r] := by
 intro q N hM a0 r h
 rcases q with _ | q
 ·cases h
 obtain ⟨M, rfl⟩ : ∃ M, N = M + 8 := ⟨N - 8, by omega⟩
 generalize hR : some [(V.int .u64) r] = R
 rw [zhx, z51, y4, zhv zyi rfl]
 rw [zlk] at h
 cases h; subst hR; simp only [zbgt, simprocAttr, *]
def zbgv := And.intro @kk <| And.intro @ke <| And.intro @kn <| And.intro @z7u <| And.intro @z90 <| And.intro @z93 <| @z7w
theorem zbgw : ∀ (q N : Nat), 8 * q ≤ N → ∀ (a0 : (Ow Int)) (a1 : Int), ∀ (r : (Ow Int)), zll q a0 a1 = some r → (orc T N).deep F.zll [(Ow.enc 1 (V.int .u8)) a0, (V.int .i64) a1] = some [(Ow.enc 1 (V.int .u8)) r] := by
 intro q N hM a0 a1 r h
 rcases q with _ | q
 ·cases h
 obtain ⟨M, rfl⟩ : ∃ M, N = M + 8 := ⟨N - 8, by omega⟩
 generalize hR : some [(Ow.enc 1 (V.int .u8)) r] = R
 rw [zhx, z5a, y4, zhv zq0 rfl]
 rw [zll] at h
 replace h := ob h; obtain ⟨r1, h1, h⟩ := h
 replace h1 := zbgu q (M + 7) (by omega) _ _ h1
 replace h := ob h; obtain ⟨r2, h2, h⟩ := h
 replace h2 := zbgq q (M + 7) (by omega) _ _ _ h2
 try simp only [kf, simprocAttr] at h2
 cases h; subst hR; simp only [zbgv, simprocAttr, *]
def zbgx (q : Nat) : Prop := ∀ (M : Nat) (hM : 8 * q ≤ M) (j : Nat) (hj : q ≤ j) (v0z : Bool) (v0l : List (Sl Int)) (v3 : Int) (v9z : Bool) (v9l : List (Sl Int)) (v10 v11 : Int) (r : (Ow Int)) (_ : zlp q v0z v0l v3 v9z v9l v10 v11 = some r) (R : Option (List V)) (_ : some [(Ow.enc 1 (V.int .u8)) r] = R) (fr : Fr) (H : Hp) (_ : canon 0 [0, 3, 9, 10, 11] fr H = ([(0, (.sl v0z (List.map (Sl.enc (V.int .u8)) v0l))), (3, (.int .i64 v3)), (9, (.sl v9z (List.map (Sl.enc (V.int .u8)) v9l))), (10, (.int .i64 v10)), (11, (.int .i64 v11))], [])), fin zts (unw T (orc T (M + 7)) (M + 7) 0 [.blk 0, .code zto] (iter 0 [0, 3, 9, 10, 11] (exec T (orc T (M + 7)) (M + 7) 0 zs7) j fr H)) = R
def zbgy (q : Nat) : Prop := ∀ (M : Nat) (hM : 8 * q ≤ M) (j : Nat) (hj : q ≤ j) (v6len : Nat) (v25z : Bool) (v25l : List (Sl Int)) (v26 v27 : Int) (h0z : Bool) (h0l : List Int) (r : (Ow Int)) (_ : zlm q v6len v25z v25l v26 v27 h0z h0l = some r) (R : Option (List V)) (_ : some [(Ow.enc 1 (V.int .u8)) r] = R) (fr : Fr) (H : Hp) (_ : canon 0 [6, 25, 26, 27] fr H = ([(6, (.vw 0 0 0 v6len 0)), (25, (.sl v25z (List.map (Sl.enc (V.int .u8)) v25l))), (26, (.int .i64 v26)), (27, (.int .i64 v27))], [(.row 0 h0z 1 (List.map (V.int .u8) h0l) true)])), fin zts (unw T (orc T (M + 7)) (M + 7) 0 [.blk 2, .code ztm] (iter 0 [6, 25, 26, 27] (exec T (orc T (M + 7)) (M + 7) 0 ztj) j fr H)) = R
def zbgz (q : Nat) : Prop := ∀ (M : Nat) (hM : 8 * q ≤ M) (j : Nat) (hj : q ≤ j) (v25z : Bool) (v25l : List (Sl Int)) (v26 : Int) (r : (Ow Int)) (_ : zlo q v25z v25l v26 = some r) (R : Option (List V)) (_ : some [(Ow.enc 1 (V.int .u8)) r] = R) (fr : Fr) (H : Hp) (_ : canon 0 [6, 25, 26, 27] fr H = ([(6, (.sl true [])), (25, (.sl v25z (List.map (Sl.enc (V.int .u8)) v25l))), (26, (.int .i64 v26)), (27, (.int .i64 0))], [])), fin zts (unw T (orc T (M + 7)) (M + 7) 0 [.blk 2, .code ztm] (iter 0 [6, 25, 26, 27] (exec T (orc T (M + 7)) (M + 7) 0 ztj) j fr H)) = R
def zbg0 (q : Nat) : Prop := ∀ (M : Nat) (hM : 8 * q ≤ M) (j : Nat) (hj : q ≤ j) (v25z : Bool) (v25l : List (Sl Int)) (v26 v27 : Int) (h0z : Bool) (h0l : List Int) (r : (Ow Int)) (_ : zln q v25z v25l v26 v27 h0z h0l = some r) (R : Option (List V)) (_ : some [(Ow.enc 1 (V.int .u8)) r] = R) (fr : Fr) (H : Hp) (_ : canon 0 [6, 25, 26, 27] fr H = ([(6, (.vw 0 0 0 h0l.length 1)), (25, (.sl v25z (List.map (Sl.enc (V.int .u8)) v25l))), (26, (.int .i64 v26)), (27, (.int .i64 v27))], [(.row 0 h0z 1 (List.map (V.int .u8) h0l) true)])), fin zts (unw T (orc T (M + 7)) (M + 7) 0 [.blk 2, .code ztm] (iter 0 [6, 25, 26, 27] (exec T (orc T (M + 7)) (M + 7) 0 ztj) j fr H)) = R
def zbg1 := And.intro @kk <| And.intro @ke <| And.intro @kn <| And.intro @z8z <| And.intro @zbae <| And.intro @zbaf <| And.intro @zbag <| @z81
theorem zbg2 (q : Nat) (zbhw : zbgx q) (zbhx : zbgy q) (zbhy : zbgz q) : zbgx (q + 1) := by
 intro M hM j hj v0z v0l v3 v9z v9l v10 v11 r h R hR fr H hc
 obtain ⟨j, rfl⟩ : ∃ i, j = i + 1 := ⟨j - 1, by omega⟩
 rw [zhn, hc]; clear hc
 rw [zlp] at h
 replace h := br h; rcases h with ⟨h1, h⟩ | ⟨h1, h⟩
 ·replace h := bn h; obtain ⟨h2, h⟩ := h
  replace h := ob h; obtain ⟨e1, h3, h⟩ := h
  replace h := bm h; obtain ⟨h4, h⟩ := h
  replace h := zbhw M (by omega) j (by omega) _ _ _ _ _ _ _ _ h R hR
  simp only [zbg1, simprocAttr, *]
 ·replace h := bm h; obtain ⟨h5, h⟩ := h
  replace h := br h; rcases h with ⟨h6, h⟩ | ⟨h6, h⟩
  ·replace h := bn h; obtain ⟨h7, h⟩ := h
   replace h := bn h; obtain ⟨h8, h⟩ := h
   replace h := bm h; obtain ⟨h9, h⟩ := h
   replace h := zbhx M (by omega) (M + 7) (by omega) _ _ _ _ _ _ _ _ h R hR
   simp only [zbg1, simprocAttr, *]
  ·replace h := zbhy M (by omega) (M + 7) (by omega) _ _ _ _ h R hR
   simp only [zbg1, simprocAttr, *]
theorem zbg3 (q : Nat) (zbhx : zbgy q) : zbgy (q + 1) := by
 intro M hM j hj v6len v25z v25l v26 v27 h0z h0l r h R hR fr H hc
 obtain ⟨j, rfl⟩ : ∃ i, j = i + 1 := ⟨j - 1, by omega⟩
 rw [zhn, hc]; clear hc
 rw [zlm] at h
 replace h := br h; rcases h with ⟨h1, h⟩ | ⟨h1, h⟩
 ·replace h := bn h; obtain ⟨h2, h⟩ := h
  replace h := ob h; obtain ⟨e2, h3, h⟩ := h
  replace h := bn h; obtain ⟨h4, h⟩ := h
  replace h := zbhx M (by omega) j (by omega) _ _ _ _ _ _ _ _ h R hR
  simp only [zbg1, simprocAttr, *]
 ·cases h; subst hR; simp only [zbg1, simprocAttr, *]
theorem zbg4 (q : Nat) (zbhz : zbg0 q) : zbgz (q + 1) := by
 intro M hM j hj v25z v25l v26 r h R hR fr H hc
 obtain ⟨j, rfl⟩ : ∃ i, j = i + 1 := ⟨j - 1, by omega⟩
 rw [zhn, hc]; clear hc
 rw [zlo] at h
 replace h := br h; rcases h with ⟨h1, h⟩ | ⟨h1, h⟩
 ·replace h := ob h; obtain ⟨e3, h2, h⟩ := h
  replace h := bn h; obtain ⟨h3, h⟩ := h
  replace h := zbhz M (by omega) j (by omega) _ _ _ _ _ _ _ h R hR
  simp only [zbg1, simprocAttr, *]
 ·cases h; subst hR; simp only [zbg1, simprocAttr, *]
theorem zbg5 (q : Nat) (zbhz : zbg0 q) : zbg0 (q + 1) := by
 intro M hM j hj v25z v25l v26 v27 h0z h0l r h R hR fr H hc
 obtain ⟨j, rfl⟩ : ∃ i, j = i + 1 := ⟨j - 1, by omega⟩
 rw [zhn, hc]; clear hc
 rw [zln] at h
 replace h := br h; rcases h with ⟨h1, h⟩ | ⟨h1, h⟩
 ·replace h := bn h; obtain ⟨h2, h⟩ := h
  replace h := ob h; obtain ⟨e4, h3, h⟩ := h
  replace h := bn h; obtain ⟨h4, h⟩ := h
  replace h := zbhz M (by omega) j (by omega) _ _ _ _ _ _ _ h R hR
  simp only [zbg1, simprocAttr, *]
 ·cases h; subst hR; simp only [zbg1, simprocAttr, *]
theorem zbg6 : ∀ q, zbgx q ∧ zbgy q ∧ zbgz q ∧ zbg0 q
 | 0 => by refine ⟨?_, ?_, ?_, ?_⟩ <;> (intro M hM j hj; intros; rename_i h _ _ _ _ _; cases h)
 | q + 1 => by have ⟨i0, i1, i2, i3⟩ := zbg6 q; exact ⟨zbg2 q i0 i1 i2, zbg3 q i1, zbg4 q i3, zbg5 q i3⟩
theorem zbg7 : ∀ (q N : Nat), 8 * q ≤ N → ∀ (a0 : (Sl (Sl Int))), ∀ (r : (Ow Int)), zlq q a0 = some r → (orc T N).deep F.zlq [(Sl.enc (Sl.enc (V.int .u8))) a0] = some [(Ow.enc 1 (V.int .u8)) r] := by
 intro q N hM a0 r h
 rcases q with _ | q
 ·cases h
 obtain ⟨M, rfl⟩ : ∃ M, N = M + 8 := ⟨N - 8, by omega⟩
 have zbhw := (zbg6 q).1
 generalize hR : some [(Ow.enc 1 (V.int .u8)) r] = R
 rw [zhx, z5o, y4, zhv zts rfl]
 rw [zlq] at h
 replace h := zbhw M (by omega) (M + 7) (by omega) _ _ _ _ _ _ _ _ h R hR
 simp only [zbg1, simprocAttr, *]
def zbg8 := And.intro @kk <| And.intro @ke <| And.intro @kn <| And.intro @z7x <| And.intro @z8o <| And.intro @z80 <| And.intro @z9x <| @z7z
theorem zbg9 : ∀ (q N : Nat), 8 * q ≤ N → ∀ (a0 : (Sl Int)), ∀ (r : (Ow Int) × Int), zlr q a0 = some r → (orc T N).deep F.zlr [(Sl.enc (V.int .u8)) a0] = some [(Ow.enc 1 (V.int .u8)) r.1, (V.int .i64) r.2] := by
 intro q N hM a0 r h
 rcases q with _ | q
 ·cases h
 obtain ⟨M, rfl⟩ : ∃ M, N = M + 8 := ⟨N - 8, by omega⟩
 generalize hR : some [(Ow.enc 1 (V.int .u8)) r.1, (V.int .i64) r.2] = R
 rw [zhx, z5b, y4, zhv zq2 rfl]
 rw [zlr] at h
 replace h := br h; rcases h with ⟨h1, h⟩ | ⟨h1, h⟩
 ·cases h; subst hR; simp only [zbg8, simprocAttr, *]
 ·replace h := ob h; obtain ⟨r1, h2, h⟩ := h
  replace h2 := zbgs q (M + 7) (by omega) _ _ _ h2
  try simp only [kf, simprocAttr] at h2
  replace h := ob h; obtain ⟨r2, h3, h⟩ := h
  replace h3 := zbgl q (M + 7) (by omega) _ _ _ h3
  try simp only [kf, simprocAttr] at h3
  replace h := ob h; obtain ⟨r3, h4, h⟩ := h
  replace h4 := zbg7 q (M + 7) (by omega) _ _ h4
  try simp only [kf, simprocAttr] at h4
  cases h; subst hR; simp only [zbg8, simprocAttr, *]
def zbha := And.intro @kk <| And.intro @ke <| And.intro @kn <| And.intro @zbaz <| @zba1
theorem zbhb : ∀ (q N : Nat), 8 * q ≤ N → ∀ (a0 : zjq), ∀ (r : Int), zls q a0 = some r → (orc T N).deep F.zls [zjq.enc a0] = some [(V.int .i64) r] := by
 intro q N hM a0 r h
 rcases q with _ | q
 ·cases h
 obtain ⟨M, rfl⟩ : ∃ M, N = M + 8 := ⟨N - 8, by omega⟩
 generalize hR : some [(V.int .i64) r] = R
 rw [zhx, z6c, y4, zhv z3u rfl]
 rw [zls] at h
 replace h := bb h; rcases h with ⟨h1', h1, h⟩ | ⟨h1', h1, h⟩
 ·cases h; subst hR; simp only [zbha, simprocAttr, *]
 ·cases h; subst hR; simp only [zbha, simprocAttr, *]
def zbhc (q : Nat) : Prop := ∀ (M : Nat) (hM : 8 * q ≤ M) (j : Nat) (hj : q ≤ j) (v21z : Bool) (v21l : List Int) (v22 v23 : Int) (h0z : Bool) (h0l : List Int) (h0x : Bool) (r : (Ow Int) × Int) (_ : zlt q v21z v21l v22 v23 h0z h0l h0x = some r) (R : Option (List V)) (_ : some [(Ow.enc 1 (V.int .u8)) r.1, (V.int .i64) r.2] = R) (fr : Fr) (H : Hp) (_ : canon 0 [4, 21, 22, 23] fr H = ([(4, (.vw 0 0 0 h0l.length 1)), (21, (.sl v21z (List.map (V.int .i64) v21l))), (22, (.int .i64 v22)), (23, (.int .i64 v23))], [(.row 0 h0z 1 (List.map (V.int .u8) h0l) h0x)])), fin zy5 (unw T (orc T (M + 7)) (M + 7) 0 [.blk 0, .code zy0] (iter 0 [4, 21, 22, 23] (exec T (orc T (M + 7)) (M + 7) 0 zyx) j fr H)) = R
def zbhd := And.intro @kk <| And.intro @ke <| And.intro @kn <| And.intro @z95 <| And.intro @z7g <| And.intro @z7v <| And.intro @z8o <| And.intro @zba0 <| @z97
theorem zbhe (q : Nat) (zbh0 : zbhc q) : zbhc (q + 1) := by
 intro M hM j hj v21z v21l v22 v23 h0z h0l h0x r h R hR fr H hc
 obtain ⟨j, rfl⟩ : ∃ i, j = i + 1 := ⟨j - 1, by omega⟩
 rw [zhn, hc]; clear hc
 rw [zlt] at h
 replace h := br h; rcases h with ⟨h1, h⟩ | ⟨h1, h⟩
 ·replace h := bn h; obtain ⟨h2, h⟩ := h
  replace h := ob h; obtain ⟨e6, h3, h⟩ := h
  replace h := ob h; obtain ⟨r7, h4, h⟩ := h
  replace h4 := zbgw q (M + 7) (by omega) _ _ _ h4
  try simp only [kf, simprocAttr] at h4
  replace h := zbh0 M (by omega) j (by omega) _ _ _ _ _ _ _ _ h R hR
  simp only [zbhd, simprocAttr, *]
 ·cases h; subst hR; simp only [zbhd, simprocAttr, *]
theorem zbhf : ∀ q, zbhc q
 | 0 => by intro M hM j hj; intros; rename_i h _ _ _ _ _; cases h
 | q + 1 => by have i0 := zbhf q; exact zbhe q i0
theorem zbhg : ∀ (q N : Nat), 8 * q ≤ N → ∀ (a0 : zjq), ∀ (r : (Ow Int) × Int), zlu q a0 = some r → (orc T N).deep F.zlu [zjq.enc a0] = some [(Ow.enc 1 (V.int .u8)) r.1, (V.int .i64) r.2] := by
 intro q N hM a0 r h
 rcases q with _ | q
 ·cases h
 obtain ⟨M, rfl⟩ : ∃ M, N = M + 8 := ⟨N - 8, by omega⟩
 have zbh0 := (zbhf q)
 generalize hR : some [(Ow.enc 1 (V.int .u8)) r.1, (V.int .i64) r.2] = R
 rw [zhx, z52, y4, zhv zy5 rfl]
 rw [zlu] at h
 replace h := ob h; obtain ⟨r1, h1, h⟩ := h
 replace h1 := zbdm q (M + 7) (by omega) _ _ h1
 try simp only [kf, simprocAttr] at h1
 replace h := bb h; rcases h with ⟨h2', h2, h⟩ | ⟨h2', h2, h⟩
 ·replace h := ob h; obtain ⟨r2, h3, h⟩ := h
  replace h3 := zbgs q (M + 7) (by omega) _ _ _ h3
  try simp only [kf, simprocAttr] at h3
  replace h := ob h; obtain ⟨r3, h4, h⟩ := h
  replace h4 := zbhb q (M + 7) (by omega) _ _ h4
  try simp only [kf, simprocAttr] at h4
  replace h := ob h; obtain ⟨r4, h5, h⟩ := h
  replace h5 := zbgs q (M + 7) (by omega) _ _ _ h5
  try simp only [kf, simprocAttr] at h5
  replace h := ob h; obtain ⟨r5, h6, h⟩ := h
  replace h6 := zbgs q (M + 7) (by omega) _ _ _ h6
  try simp only [kf, simprocAttr] at h6
  replace h := zbh0 M (by omega) (M + 7) (by omega) _ _ _ _ _ _ _ _ h R hR
  simp only [zbhd, simprocAttr, *]
 ·cases h; subst hR; simp only [zbhd, simprocAttr, *]
end Go.Dvm.C
