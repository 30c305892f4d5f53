/- The machine comes to these answers: part 1. -/
import Derived.Test.YtngajodhbioheaaQl0
set_option linter.all false
set_option maxRecDepth 100000
set_option maxHeartbeats 4000000
namespace Go.Dvm.C
open Go Go.Dvm Go.Dvm.I
def zbdc := And.intro @kk <| And.intro @ke <| And.intro @kn <| And.intro @z9e <| @z9g
theorem zbdd : ∀ (q N : Nat), 8 * q ≤ N → ∀ (a0 r : Int), zjt q a0 = some r → (orc T N).deep F.zjt [(V.int .i64) a0] = some [(V.int .i64) r] := by
 intro q N hM a0 r h
 rcases q with _ | q
 ·cases h
 obtain ⟨M, rfl⟩ : ∃ M, N = M + 8 := ⟨N - 8, by omega⟩
 generalize hR : some [(V.int .i64) r] = R
 rw [zhu, z50, y4, zhs zt8 rfl]
 rw [zjt] at h
 cases h; subst hR; simp only [zbdc, simprocAttr, *]
def zbde := And.intro @kk <| And.intro @ke <| And.intro @kn <| And.intro @z9b <| And.intro @z9f <| @z9d
theorem zbdf : ∀ (q N : Nat), 8 * q ≤ N → ∀ (a0 : Int), ∀ (r : Bool), zju q a0 = some r → (orc T N).deep F.zju [(V.int .i64) a0] = some [V.bool r] := by
 intro q N hM a0 r h
 rcases q with _ | q
 ·cases h
 obtain ⟨M, rfl⟩ : ∃ M, N = M + 8 := ⟨N - 8, by omega⟩
 generalize hR : some [V.bool r] = R
 rw [zhu, z5z, y4, zhs zt6 rfl]
 rw [zju] at h
 replace h := ob h; obtain ⟨r1, h1, h⟩ := h
 replace h1 := zbdd q (M + 7) (by omega) _ _ h1
 cases h; subst hR; simp only [zbde, simprocAttr, *]
def zbdg (q : Nat) : Prop := ∀ (M : Nat) (hM : 8 * q ≤ M) (j : Nat) (hj : q ≤ j) (v0z : Bool) (v0l : List Int) (v1 v5 v6 : Int) (r : Bool) (_ : zjv q v0z v0l v1 v5 v6 = some r) (R : Option (List V)) (_ : some [V.bool r] = R) (fr : Fr) (H : Hp) (_ : canon 0 [0, 1, 5, 6] fr H = ([(0, (.sl v0z (List.map (V.int .i64) v0l))), (1, (.int .i64 v1)), (5, (.int .i64 v5)), (6, (.int .i64 v6))], [])), fin zuk (unw T (orc T (M + 7)) (M + 7) 0 [.blk 0, .code zug] (iter 0 [0, 1, 5, 6] (exec T (orc T (M + 7)) (M + 7) 0 zud) j fr H)) = R
def zbdh := And.intro @kk <| And.intro @ke <| And.intro @kn <| And.intro @z9h <| @z9j
theorem zbdi (q : Nat) (zbhm : zbdg q) : zbdg (q + 1) := by
 intro M hM j hj v0z v0l v1 v5 v6 r h R hR fr H hc
 obtain ⟨j, rfl⟩ : ∃ i, j = i + 1 := ⟨j - 1, by omega⟩
 rw [zhk, hc]; clear hc
 rw [zjv] at h
 replace h := br h; rcases h with ⟨h1, h⟩ | ⟨h1, h⟩
 ·replace h := bn h; obtain ⟨h2, h⟩ := h
  replace h := ob h; obtain ⟨e1, h3, h⟩ := h
  replace h := br h; rcases h with ⟨h4, h⟩ | ⟨h4, h⟩
  ·cases h; subst hR; simp only [zbdh, simprocAttr, *]
  ·replace h := br h; rcases h with ⟨h5, h⟩ | ⟨h5, h⟩
   ·cases h; subst hR; simp only [zbdh, simprocAttr, *]
   ·replace h := bn h; obtain ⟨h6, h⟩ := h
    replace h := ob h; obtain ⟨e2, h7, h⟩ := h
    replace h := br h; rcases h with ⟨h8, h⟩ | ⟨h8, h⟩
    ·cases h; subst hR; simp only [zbdh, simprocAttr, *]
    ·replace h := br h; rcases h with ⟨h9, h⟩ | ⟨h9, h⟩
     ·cases h; subst hR; simp only [zbdh, simprocAttr, *]
     ·replace h := zbhm M (by omega) j (by omega) _ _ _ _ _ _ h R hR
      simp only [zbdh, simprocAttr, *]
 ·replace h := br h; rcases h with ⟨h10, h⟩ | ⟨h10, h⟩
  ·cases h; subst hR; simp only [zbdh, simprocAttr, *]
  ·cases h; subst hR; simp only [zbdh, simprocAttr, *]
theorem zbdj : ∀ q, zbdg q
 | 0 => by intro M hM j hj; intros; rename_i h _ _ _ _ _; cases h
 | q + 1 => by have i0 := zbdj q; exact zbdi q i0
theorem zbdk : ∀ (q N : Nat), 8 * q ≤ N → ∀ (a0 : (Sl Int)) (a1 : Int), ∀ (r : Bool), zjw q a0 a1 = some r → (orc T N).deep F.zjw [(Sl.enc (V.int .i64)) a0, (V.int .i64) a1] = some [V.bool r] := by
 intro q N hM a0 a1 r h
 rcases q with _ | q
 ·cases h
 obtain ⟨M, rfl⟩ : ∃ M, N = M + 8 := ⟨N - 8, by omega⟩
 have zbhm := (zbdj q)
 generalize hR : some [V.bool r] = R
 rw [zhu, z51, y4, zhs zuk rfl]
 rw [zjw] at h
 replace h := zbhm M (by omega) (M + 7) (by omega) _ _ _ _ _ _ h R hR
 simp only [zbdh, simprocAttr, *]
def zbdl (q : Nat) : Prop := ∀ (M : Nat) (hM : 8 * q ≤ M) (j : Nat) (hj : q ≤ j) (v0z : Bool) (v0l : List Int) (v7 v8 h0_0 : Int) (h0_1z : Bool) (h0_1l : List Int) (h0_2 : Bool) (h0_3 r : Int) (_ : zjx q v0z v0l v7 v8 h0_0 h0_1z h0_1l h0_2 h0_3 = some r) (R : Option (List V × Hp)) (_ : (some ([(.int .i64 r)], [(.box [(.int .i64 h0_0), (.sl h0_1z (List.map (V.int .i64) h0_1l)), (.bool h0_2), (.int .i64 h0_3)])]) : Option (List V × Hp)) = R) (fr : Fr) (H : Hp) (_ : canon 1 [0, 1, 7, 8] fr H = ([(0, (.sl v0z (List.map (V.int .i64) v0l))), (1, (.fn F.zju [])), (7, (.int .i64 v7)), (8, (.int .i64 v8))], [(.box [(.int .i64 h0_0), (.sl h0_1z (List.map (V.int .i64) h0_1l)), (.bool h0_2), (.int .i64 h0_3)])])), finI 1 false [.tmp 4] (unw T (orc T (M + 5)) (M + 5) 1 [.blk 0, .code z1d] (iter 1 [0, 1, 7, 8] (exec T (orc T (M + 5)) (M + 5) 1 z1a) j fr H)) = R
def zbdm := And.intro @kk <| And.intro @ke <| And.intro @kn <| And.intro @zban <| @z9c
theorem zbdn (q : Nat) (zbhn : zbdl q) : zbdl (q + 1) := by
 intro M hM j hj v0z v0l v7 v8 h0_0 h0_1z h0_1l h0_2 h0_3 r h R hR fr H hc
 obtain ⟨j, rfl⟩ : ∃ i, j = i + 1 := ⟨j - 1, by omega⟩
 rw [zhk, hc]; clear hc
 rw [zjx] at h
 replace h := br h; rcases h with ⟨h1, h⟩ | ⟨h1, h⟩
 ·replace h := bn h; obtain ⟨h2, h⟩ := h
  replace h := ob h; obtain ⟨e1, h3, h⟩ := h
  replace h := ob h; obtain ⟨r2, h4, h⟩ := h
  replace h4 := zbdf q (M + 5) (by omega) _ _ h4
  replace h := bb h; rcases h with ⟨h5', h5, h⟩ | ⟨h5', h5, h⟩
  ·cases h; subst hR; simp only [zbdm, simprocAttr, *]
  ·replace h := zbhn M (by omega) j (by omega) _ _ _ _ _ _ _ _ _ _ h R hR
   simp only [zbdm, simprocAttr, *]
 ·cases h; subst hR; simp only [zbdm, simprocAttr, *]
theorem zbdo : ∀ q, zbdl q
 | 0 => by intro M hM j hj; intros; rename_i h _ _ _ _ _; cases h
 | q + 1 => by have i0 := zbdo q; exact zbdn q i0
theorem zbdp : ∀ (q M : Nat), 8 * q ≤ M → ∀ (v0z : Bool), ∀ (v0l : List Int), ∀ (h0_0 : Int), ∀ (h0_1z : Bool), ∀ (h0_1l : List Int), ∀ (h0_2 : Bool), ∀ (h0_3 r : Int), zjy q v0z v0l h0_0 h0_1z h0_1l h0_2 h0_3 = some r → (orc T (M + 6)).inl F.zmy [(.sl v0z (List.map (V.int .i64) v0l)), (.fn F.zju [])] [(.box [(.int .i64 h0_0), (.sl h0_1z (List.map (V.int .i64) h0_1l)), (.bool h0_2), (.int .i64 h0_3)])] = (some ([(.int .i64 r)], [(.box [(.int .i64 h0_0), (.sl h0_1z (List.map (V.int .i64) h0_1l)), (.bool h0_2), (.int .i64 h0_3)])]) : Option (List V × Hp)) := by
 intro q M hM v0z v0l h0_0 h0_1z h0_1l h0_2 h0_3 r h
 rcases q with _ | q
 ·cases h
 have zbhn := (zbdo q)
 generalize hR : (some ([(.int .i64 r)], [(.box [(.int .i64 h0_0), (.sl h0_1z (List.map (V.int .i64) h0_1l)), (.bool h0_2), (.int .i64 h0_3)])]) : Option (List V × Hp)) = R
 rw [zbap (n := M + 5)]
 rw [zjy] at h
 replace h := zbhn M (by omega) (M + 5) (by omega) _ _ _ _ _ _ _ _ _ _ h R hR
 simp only [zbdm, simprocAttr, *]
def zbdq := And.intro @kk <| And.intro @ke <| And.intro @kn <| And.intro @z7l <| And.intro @z88 <| And.intro @z9i <| And.intro @zbao <| And.intro @z89 <| And.intro @z9a <| @z7n
theorem zbdr : ∀ (q N : Nat), 8 * q ≤ N → ∀ (a0 : zjm), ∀ (r : Bool), zjz q a0 = some r → (orc T N).deep F.zjz [zjm.enc a0] = some [V.bool r] := by
 intro q N hM a0 r h
 rcases q with _ | q
 ·cases h
 obtain ⟨M, rfl⟩ : ∃ M, N = M + 8 := ⟨N - 8, by omega⟩
 generalize hR : some [V.bool r] = R
 rw [zhu, z5e, y4, zhs zpq rfl]
 rw [zjz] at h
 replace h := br h; rcases h with ⟨h1, h⟩ | ⟨h1, h⟩
 ·cases h; subst hR; simp only [zbdq, simprocAttr, *]
 ·replace h := br h; rcases h with ⟨h2, h⟩ | ⟨h2, h⟩
  ·cases h; subst hR; simp only [zbdq, simprocAttr, *]
  ·replace h := bb h; rcases h with ⟨h3', h3, h⟩ | ⟨h3', h3, h⟩
   ·replace h := ob h; obtain ⟨r1, h4, h⟩ := h
    replace h4 := zbdp q M (by omega) _ _ _ _ _ _ _ _ h4
    try simp only [kf, simprocAttr] at h4
    replace h := br h; rcases h with ⟨h5, h⟩ | ⟨h5, h⟩
    ·replace h := br h; rcases h with ⟨h6, h⟩ | ⟨h6, h⟩
     ·cases h; subst hR; simp only [zbdq, simprocAttr, *]
     ·cases h; subst hR; simp only [zbdq, simprocAttr, *]
    ·replace h := br h; rcases h with ⟨h7, h⟩ | ⟨h7, h⟩
     ·replace h := br h; rcases h with ⟨h8, h⟩ | ⟨h8, h⟩
      ·cases h; subst hR; simp only [zbdq, simprocAttr, *]
      ·cases h; subst hR; simp only [zbdq, simprocAttr, *]
     ·replace h := br h; rcases h with ⟨h9, h⟩ | ⟨h9, h⟩
      ·replace h := br h; rcases h with ⟨h10, h⟩ | ⟨h10, h⟩
       ·cases h; subst hR; simp only [zbdq, simprocAttr, *]
       ·cases h; subst hR; simp only [zbdq, simprocAttr, *]
      ·replace h := br h; rcases h with ⟨h11, h⟩ | ⟨h11, h⟩
       ·replace h := br h; rcases h with ⟨h12, h⟩ | ⟨h12, h⟩
        ·cases h; subst hR; simp only [zbdq, simprocAttr, *]
        ·cases h; subst hR; simp only [zbdq, simprocAttr, *]
       ·replace h := br h; rcases h with ⟨h13, h⟩ | ⟨h13, h⟩
        ·replace h := ob h; obtain ⟨r2, h14, h⟩ := h
         replace h14 := zbdk q (M + 7) (by omega) _ _ _ h14
         try simp only [kf, simprocAttr] at h14
         cases h; subst hR; simp only [zbdq, simprocAttr, *]
        ·replace h := br h; rcases h with ⟨h15, h⟩ | ⟨h15, h⟩
         ·replace h := ob h; obtain ⟨r3, h16, h⟩ := h
          replace h16 := zbdk q (M + 7) (by omega) _ _ _ h16
          try simp only [kf, simprocAttr] at h16
          cases h; subst hR; simp only [zbdq, simprocAttr, *]
         ·cases h; subst hR; simp only [zbdq, simprocAttr, *]
   ·replace h := br h; rcases h with ⟨h17, h⟩ | ⟨h17, h⟩
    ·replace h := ob h; obtain ⟨r4, h18, h⟩ := h
     replace h18 := zbdp q M (by omega) _ _ _ _ _ _ _ _ h18
     try simp only [kf, simprocAttr] at h18
     replace h := br h; rcases h with ⟨h19, h⟩ | ⟨h19, h⟩
     ·replace h := br h; rcases h with ⟨h20, h⟩ | ⟨h20, h⟩
      ·cases h; subst hR; simp only [zbdq, simprocAttr, *]
      ·cases h; subst hR; simp only [zbdq, simprocAttr, *]
     ·replace h := br h; rcases h with ⟨h21, h⟩ | ⟨h21, h⟩
      ·replace h := br h; rcases h with ⟨h22, h⟩ | ⟨h22, h⟩
       ·cases h; subst hR; simp only [zbdq, simprocAttr, *]
       ·cases h; subst hR; simp only [zbdq, simprocAttr, *]
      ·replace h := br h; rcases h with ⟨h23, h⟩ | ⟨h23, h⟩
       ·replace h := br h; rcases h with ⟨h24, h⟩ | ⟨h24, h⟩
        ·cases h; subst hR; simp only [zbdq, simprocAttr, *]
        ·cases h; subst hR; simp only [zbdq, simprocAttr, *]
       ·replace h := br h; rcases h with ⟨h25, h⟩ | ⟨h25, h⟩
        ·replace h := br h; rcases h with ⟨h26, h⟩ | ⟨h26, h⟩
         ·cases h; subst hR; simp only [zbdq, simprocAttr, *]
         ·cases h; subst hR; simp only [zbdq, simprocAttr, *]
        ·replace h := br h; rcases h with ⟨h27, h⟩ | ⟨h27, h⟩
         ·replace h := ob h; obtain ⟨r5, h28, h⟩ := h
          replace h28 := zbdk q (M + 7) (by omega) _ _ _ h28
          try simp only [kf, simprocAttr] at h28
          cases h; subst hR; simp only [zbdq, simprocAttr, *]
         ·replace h := br h; rcases h with ⟨h29, h⟩ | ⟨h29, h⟩
          ·replace h := ob h; obtain ⟨r6, h30, h⟩ := h
           replace h30 := zbdk q (M + 7) (by omega) _ _ _ h30
           try simp only [kf, simprocAttr] at h30
           cases h; subst hR; simp only [zbdq, simprocAttr, *]
          ·cases h; subst hR; simp only [zbdq, simprocAttr, *]
    ·cases h; subst hR; simp only [zbdq, simprocAttr, *]
def zbds := And.intro @kk <| And.intro @ke <| And.intro @kn <| And.intro @z9k <| @z9m
theorem zbdt : ∀ (q N : Nat), 8 * q ≤ N → ∀ (a0 : zjn), ∀ (r : Bool), zj0 q a0 = some r → (orc T N).deep F.zj0 [zjn.enc a0] = some [V.bool r] := by
 intro q N hM a0 r h
 rcases q with _ | q
 ·cases h
 obtain ⟨M, rfl⟩ : ∃ M, N = M + 8 := ⟨N - 8, by omega⟩
 generalize hR : some [V.bool r] = R
 rw [zhu, z52, y4, zhs zum rfl]
 rw [zj0] at h
 replace h := br h; rcases h with ⟨h1, h⟩ | ⟨h1, h⟩
 ·replace h := br h; rcases h with ⟨h2, h⟩ | ⟨h2, h⟩
  ·replace h := br h; rcases h with ⟨h3, h⟩ | ⟨h3, h⟩
   ·replace h := br h; rcases h with ⟨h4, h⟩ | ⟨h4, h⟩
    ·replace h := br h; rcases h with ⟨h5, h⟩ | ⟨h5, h⟩
     ·cases h; subst hR; simp only [zbds, simprocAttr, *]
     ·cases h; subst hR; simp only [zbds, simprocAttr, *]
    ·cases h; subst hR; simp only [zbds, simprocAttr, *]
   ·cases h; subst hR; simp only [zbds, simprocAttr, *]
  ·cases h; subst hR; simp only [zbds, simprocAttr, *]
 ·cases h; subst hR; simp only [zbds, simprocAttr, *]
def zbdu (q : Nat) : Prop := ∀ (M : Nat) (hM : 8 * q ≤ M) (j : Nat) (hj : q ≤ j) (v0z : Bool) (v0l : List zjn) (v5z : Bool) (v5l : List zjn) (v6 v7 : Int) (r : Bool) (_ : zj1 q v0z v0l v5z v5l v6 v7 = some r) (R : Option (List V)) (_ : some [V.bool r] = R) (fr : Fr) (H : Hp) (_ : canon 0 [0, 5, 6, 7] fr H = ([(0, (.sl v0z (List.map zjn.enc v0l))), (5, (.sl v5z (List.map zjn.enc v5l))), (6, (.int .i64 v6)), (7, (.int .i64 v7))], [])), fin zp0 (unw T (orc T (M + 7)) (M + 7) 0 [.blk 0, .code zpx] (iter 0 [0, 5, 6, 7] (exec T (orc T (M + 7)) (M + 7) 0 zpu) j fr H)) = R
def zbdv := And.intro @kk <| And.intro @ke <| And.intro @kn <| And.intro @z7o <| And.intro @z9l <| @z7q
theorem zbdw (q : Nat) (zbho : zbdu q) : zbdu (q + 1) := by
 intro M hM j hj v0z v0l v5z v5l v6 v7 r h R hR fr H hc
 obtain ⟨j, rfl⟩ : ∃ i, j = i + 1 := ⟨j - 1, by omega⟩
 rw [zhk, hc]; clear hc
 rw [zj1] at h
 replace h := br h; rcases h with ⟨h1, h⟩ | ⟨h1, h⟩
 ·replace h := bn h; obtain ⟨h2, h⟩ := h
  replace h := ob h; obtain ⟨e1, h3, h⟩ := h
  replace h := ob h; obtain ⟨r2, h4, h⟩ := h
  replace h4 := zbdt q (M + 7) (by omega) _ _ h4
  try simp only [kf, simprocAttr] at h4
  replace h := bb h; rcases h with ⟨h5', h5, h⟩ | ⟨h5', h5, h⟩
  ·replace h := br h; rcases h with ⟨h6, h⟩ | ⟨h6, h⟩
   ·replace h := bn h; obtain ⟨h7, h⟩ := h
    replace h := ob h; obtain ⟨e3, h8, h⟩ := h
    replace h := br h; rcases h with ⟨h9, h⟩ | ⟨h9, h⟩
    ·cases h; subst hR; simp only [zbdv, simprocAttr, *]
    ·replace h := zbho M (by omega) j (by omega) _ _ _ _ _ _ _ h R hR
     simp only [zbdv, simprocAttr, *]
   ·replace h := zbho M (by omega) j (by omega) _ _ _ _ _ _ _ h R hR
    simp only [zbdv, simprocAttr, *]
  ·cases h; subst hR; simp only [zbdv, simprocAttr, *]
 ·cases h; subst hR; simp only [zbdv, simprocAttr, *]
theorem zbdx : ∀ q, zbdu q
 | 0 => by intro M hM j hj; intros; rename_i h _ _ _ _ _; cases h
 | q + 1 => by have i0 := zbdx q; exact zbdw q i0
theorem zbdy : ∀ (q N : Nat), 8 * q ≤ N → ∀ (a0 : (Sl zjn)), ∀ (r : Bool), zj2 q a0 = some r → (orc T N).deep F.zj2 [(Sl.enc zjn.enc) a0] = some [V.bool r] := by
 intro q N hM a0 r h
 rcases q with _ | q
 ·cases h
 obtain ⟨M, rfl⟩ : ∃ M, N = M + 8 := ⟨N - 8, by omega⟩
 have zbho := (zbdx q)
 generalize hR : some [V.bool r] = R
 rw [zhu, z5f, y4, zhs zp0 rfl]
 rw [zj2] at h
 replace h := zbho M (by omega) (M + 7) (by omega) _ _ _ _ _ _ _ h R hR
 simp only [zbdv, simprocAttr, *]
def zbdz := And.intro @kk <| And.intro @ke <| And.intro @kn <| And.intro @z6u <| And.intro @z7m <| And.intro @z7p <| @z6w
theorem zbd0 : ∀ (q N : Nat), 8 * q ≤ N → ∀ (a0 : zjo), ∀ (r : Bool), zj3 q a0 = some r → (orc T N).deep F.zj3 [zjo.enc a0] = some [V.bool r] := by
 intro q N hM a0 r h
 rcases q with _ | q
 ·cases h
 obtain ⟨M, rfl⟩ : ∃ M, N = M + 8 := ⟨N - 8, by omega⟩
 generalize hR : some [V.bool r] = R
 rw [zhu, z45, y4, zhs znu rfl]
 rw [zj3] at h
 replace h := br h; rcases h with ⟨h1, h⟩ | ⟨h1, h⟩
 ·replace h := br h; rcases h with ⟨h2, h⟩ | ⟨h2, h⟩
  ·replace h := ob h; obtain ⟨r1, h3, h⟩ := h
   replace h3 := zbdr q (M + 7) (by omega) _ _ h3
   try simp only [kf, simprocAttr] at h3
   replace h := bb h; rcases h with ⟨h4', h4, h⟩ | ⟨h4', h4, h⟩
   ·replace h := ob h; obtain ⟨r2, h5, h⟩ := h
    replace h5 := zbdy q (M + 7) (by omega) _ _ h5
    try simp only [kf, simprocAttr] at h5
    cases h; subst hR; simp only [zbdz, simprocAttr, *]
   ·cases h; subst hR; simp only [zbdz, simprocAttr, *]
  ·cases h; subst hR; simp only [zbdz, simprocAttr, *]
 ·cases h; subst hR; simp only [zbdz, simprocAttr, *]
def zbd1 := And.intro @kk <| And.intro @ke <| And.intro @kn <| And.intro @z7i <| @z7k
theorem zbd2 : ∀ (q N : Nat), 8 * q ≤ N → ∀ (a0 : (Sl Int)), ∀ (r : (Ow Int)), zj4 q a0 = some r → (orc T N).deep F.zj4 [(Sl.enc (V.int .i64)) a0] = some [(Ow.enc 1 (V.int .i64)) r] := by
 intro q N hM a0 r h
 rcases q with _ | q
 ·cases h
 obtain ⟨M, rfl⟩ : ∃ M, N = M + 8 := ⟨N - 8, by omega⟩
 generalize hR : some [(Ow.enc 1 (V.int .i64)) r] = R
 rw [zhu, z5d, y4, zhs zo5 rfl]
 rw [zj4] at h
 replace h := bb h; rcases h with ⟨h1', h1, h⟩ | ⟨h1', h1, h⟩
 ·cases h; subst hR; simp only [zbd1, simprocAttr, *]
 ·replace h := bn h; obtain ⟨h2, h⟩ := h
  cases h; subst hR; simp only [zbd1, simprocAttr, *]
def zbd3 := And.intro @kk <| And.intro @ke <| And.intro @kn <| And.intro @z79 <| @z8b
theorem zbd4 : ∀ (q N : Nat), 8 * q ≤ N → ∀ (a0 : (Sl zjn)), ∀ (r : (Ow zjn)), zj5 q a0 = some r → (orc T N).deep F.zj5 [(Sl.enc zjn.enc) a0] = some [(Ow.enc 3 zjn.enc) r] := by
 intro q N hM a0 r h
 rcases q with _ | q
 ·cases h
 obtain ⟨M, rfl⟩ : ∃ M, N = M + 8 := ⟨N - 8, by omega⟩
 generalize hR : some [(Ow.enc 3 zjn.enc) r] = R
 rw [zhu, z5m, y4, zhs zry rfl]
 rw [zj5] at h
 replace h := bb h; rcases h with ⟨h1', h1, h⟩ | ⟨h1', h1, h⟩
 ·cases h; subst hR; simp only [zbd3, simprocAttr, *]
 ·replace h := bn h; obtain ⟨h2, h⟩ := h
  cases h; subst hR; simp only [zbd3, simprocAttr, *]
theorem zbd5 : ∀ (q N : Nat), 8 * q ≤ N → ∀ (a0 : (Ow zjn)) (a1 : Int) (a2 : (Ow zjn)), ∀ (r : (Ow zjn)), zj6 q a0 a1 a2 = some r → (orc T N).deep F.zj6 [(Ow.enc 3 zjn.enc) a0, (V.int .i64) a1, (Ow.enc 3 zjn.enc) a2] = some [(Ow.enc 3 zjn.enc) r] := by
 intro q N hM a0 a1 a2 r h
 rcases q with _ | q
 ·cases h
 obtain ⟨M, rfl⟩ : ∃ M, N = M + 8 := ⟨N - 8, by omega⟩
 rw [zhu, z5q, y4, zhr zsd rfl]
 rw [zj6] at h
 by_cases c : insOk a0 a1 a2
 ·rw [if_pos c] at h; cases h; exact zi0 zjn.enc 3 c
 ·rw [if_neg c] at h; cases h
def zbd6 (q : Nat) : Prop := ∀ (M : Nat) (hM : 8 * q ≤ M) (j : Nat) (hj : q ≤ j) (w1 : Nat) (v7 v8 h0_0 h0_1 h0_2 h0_3 h0_4 h0_5 h0_6 : Int) (h1z : Bool) (h1l : List zjn) (h1x : Bool) (r : Int) (_ : zj7 q v7 v8 h0_0 h0_1 h0_2 h0_3 h0_4 h0_5 h0_6 h1z h1l h1x = some r) (R : Option (List V × Hp)) (_ : (some ([(.int .i64 r)], [(.box [(.int .i64 h0_0), (.int .i64 h0_1), (.int .i64 h0_2), (.int .i64 h0_3), (.int .i64 h0_4), (.int .i64 h0_5), (.int .i64 h0_6)]), (.row w1 h1z 3 (List.map zjn.enc h1l) h1x)]) : Option (List V × Hp)) = R) (fr : Fr) (H : Hp) (_ : canon 2 [0, 1, 7, 8] fr H = ([(0, (.vw 1 w1 0 h1l.length 1)), (1, (.fn F.zmt [(.ptr 0 0)])), (7, (.int .i64 v7)), (8, (.int .i64 v8))], [(.box [(.int .i64 h0_0), (.int .i64 h0_1), (.int .i64 h0_2), (.int .i64 h0_3), (.int .i64 h0_4), (.int .i64 h0_5), (.int .i64 h0_6)]), (.row w1 h1z 3 (List.map zjn.enc h1l) h1x)])), finI 2 false [.tmp 4] (unw T (orc T (M + 5)) (M + 5) 2 [.blk 0, .code zr7] (iter 2 [0, 1, 7, 8] (exec T (orc T (M + 5)) (M + 5) 2 zr4) j fr H)) = R
def zbd7 := And.intro @kk <| And.intro @ke <| And.intro @kn <| And.intro @z8c <| And.intro @z8f <| And.intro @z8d <| @z8e
theorem zbd8 (q : Nat) (zbhp : zbd6 q) : zbd6 (q + 1) := by
 intro M hM j hj w1 v7 v8 h0_0 h0_1 h0_2 h0_3 h0_4 h0_5 h0_6 h1z h1l h1x r h R hR fr H hc
 obtain ⟨j, rfl⟩ : ∃ i, j = i + 1 := ⟨j - 1, by omega⟩
 rw [zhk, hc]; clear hc
 rw [zj7] at h
 replace h := br h; rcases h with ⟨h1, h⟩ | ⟨h1, h⟩
 ·replace h := bn h; obtain ⟨h2, h⟩ := h
  replace h := bn h; obtain ⟨h3, h⟩ := h
  replace h := ob h; obtain ⟨e1, h4, h⟩ := h
  replace h := br h; rcases h with ⟨h5, h⟩ | ⟨h5, h⟩
  ·cases h; subst hR; simp only [zbd7, simprocAttr, *]
  ·replace h := zbhp M (by omega) j (by omega) w1 _ _ _ _ _ _ _ _ _ _ _ _ _ h R hR
   simp only [zbd7, simprocAttr, *]
 ·cases h; subst hR; simp only [zbd7, simprocAttr, *]
theorem zbd9 : ∀ q, zbd6 q
 | 0 => by intro M hM j hj; intros; rename_i h _ _ _ _ _; cases h
 | q + 1 => by have i0 := zbd9 q; exact zbd8 q i0
theorem zbea : ∀ (q M : Nat), 8 * q ≤ M → ∀ (w1 : Nat), ∀ (h0_0 h0_1 h0_2 h0_3 h0_4 h0_5 h0_6 : Int), ∀ (h1z : Bool), ∀ (h1l : List zjn), ∀ (h1x : Bool), ∀ (r : Int), zj8 q h0_0 h0_1 h0_2 h0_3 h0_4 h0_5 h0_6 h1z h1l h1x = some r → (orc T (M + 6)).inl F.zmu [(.vw 1 w1 0 h1l.length 1), (.fn F.zmt [(.ptr 0 0)])] [(.box [(.int .i64 h0_0), (.int .i64 h0_1), (.int .i64 h0_2), (.int .i64 h0_3), (.int .i64 h0_4), (.int .i64 h0_5), (.int .i64 h0_6)]), (.row w1 h1z 3 (List.map zjn.enc h1l) h1x)] = (some ([(.int .i64 r)], [(.box [(.int .i64 h0_0), (.int .i64 h0_1), (.int .i64 h0_2), (.int .i64 h0_3), (.int .i64 h0_4), (.int .i64 h0_5), (.int .i64 h0_6)]), (.row w1 h1z 3 (List.map zjn.enc h1l) h1x)]) : Option (List V × Hp)) := by
 intro q M hM w1 h0_0 h0_1 h0_2 h0_3 h0_4 h0_5 h0_6 h1z h1l h1x r h
 rcases q with _ | q
 ·cases h
 have zbhp := (zbd9 q)
 generalize hR : (some ([(.int .i64 r)], [(.box [(.int .i64 h0_0), (.int .i64 h0_1), (.int .i64 h0_2), (.int .i64 h0_3), (.int .i64 h0_4), (.int .i64 h0_5), (.int .i64 h0_6)]), (.row w1 h1z 3 (List.map zjn.enc h1l) h1x)]) : Option (List V × Hp)) = R
 rw [z8h (n := M + 5)]
 rw [zj8] at h
 replace h := zbhp M (by omega) (M + 5) (by omega) w1 _ _ _ _ _ _ _ _ _ _ _ _ _ h R hR
 simp only [zbd7, simprocAttr, *]
def zbeb (q : Nat) : Prop := ∀ (M : Nat) (hM : 8 * q ≤ M) (j : Nat) (hj : q ≤ j) (w1 : Nat) (v5 v6 h0_0 h0_1 h0_2 h0_3 h0_4 h0_5 h0_6 : Int) (h1z : Bool) (h1l : List zjn) (h1x : Bool) (r : Nat × (List zjn) × Bool) (_ : zj9 q v5 v6 h0_0 h0_1 h0_2 h0_3 h0_4 h0_5 h0_6 h1z h1l h1x = some r) (R : Option (List V × Hp)) (_ : (some ([(.vw 1 w1 0 r.1 0)], [(.box [(.int .i64 h0_0), (.int .i64 h0_1), (.int .i64 h0_2), (.int .i64 h0_3), (.int .i64 h0_4), (.int .i64 h0_5), (.int .i64 h0_6)]), (.row w1 h1z 3 (List.map zjn.enc r.2.1) r.2.2)]) : Option (List V × Hp)) = R) (fr : Fr) (H : Hp) (_ : canon 2 [0, 1, 5, 6] fr H = ([(0, (.vw 1 w1 0 h1l.length 1)), (1, (.fn F.zmt [(.ptr 0 0)])), (5, (.int .i64 v5)), (6, (.int .i64 v6))], [(.box [(.int .i64 h0_0), (.int .i64 h0_1), (.int .i64 h0_2), (.int .i64 h0_3), (.int .i64 h0_4), (.int .i64 h0_5), (.int .i64 h0_6)]), (.row w1 h1z 3 (List.map zjn.enc h1l) h1x)])), finI 2 true [.tmp 4] (unw T (orc T (M + 6)) (M + 6) 2 [.blk 0, .code zrr] (iter 2 [0, 1, 5, 6] (exec T (orc T (M + 6)) (M + 6) 2 zrm) j fr H)) = R
def zbec := And.intro @kk <| And.intro @ke <| And.intro @kn <| And.intro @z76 <| And.intro @z8c <| And.intro @z8g <| And.intro @z8d <| @z8e
theorem zbed (q : Nat) (zbhq : zbeb q) : zbeb (q + 1) := by
 intro M hM j hj w1 v5 v6 h0_0 h0_1 h0_2 h0_3 h0_4 h0_5 h0_6 h1z h1l h1x r h R hR fr H hc
 obtain ⟨j, rfl⟩ : ∃ i, j = i + 1 := ⟨j - 1, by omega⟩
 rw [zhk, hc]; clear hc
 rw [zj9] at h
 replace h := br h; rcases h with ⟨h1, h⟩ | ⟨h1, h⟩
 ·replace h := bn h; obtain ⟨h2, h⟩ := h
  replace h := bn h; obtain ⟨h3, h⟩ := h
  replace h := ob h; obtain ⟨e2, h4, h⟩ := h
  replace h := br h; rcases h with ⟨h5, h⟩ | ⟨h5, h⟩
  ·replace h := zbhq M (by omega) j (by omega) w1 _ _ _ _ _ _ _ _ _ _ _ _ _ h R hR
   simp only [zbec, simprocAttr, *]
  ·replace h := bn h; obtain ⟨h6, h⟩ := h
   replace h := bn h; obtain ⟨h7, h⟩ := h
   replace h := ob h; obtain ⟨e3, h8, h⟩ := h
   replace h := bb h; rcases h with ⟨h9', h9, h⟩ | ⟨h9', h9, h⟩
   ·replace h := zbhq M (by omega) j (by omega) w1 _ _ _ _ _ _ _ _ _ _ _ _ _ h R hR
    simp only [zbec, simprocAttr, *]
   ·cases h
 ·replace h := bn h; obtain ⟨h10, h⟩ := h
  replace h := bn h; obtain ⟨h11, h⟩ := h
  replace h := bb h; rcases h with ⟨h12', h12, h⟩ | ⟨h12', h12, h⟩
  ·replace h := bn h; obtain ⟨h13, h⟩ := h
   replace h := bb h; rcases h with ⟨h14', h14, h⟩ | ⟨h14', h14, h⟩
   ·cases h; subst hR; simp only [zbec, simprocAttr, *]
   ·cases h; subst hR; simp only [zbec, simprocAttr, *]
  ·cases h
theorem zbee : ∀ q, zbeb q
 | 0 => by intro M hM j hj; intros; rename_i h _ _ _ _ _; cases h
 | q + 1 => by have i0 := zbee q; exact zbed q i0
theorem zbef : ∀ (q M : Nat), 8 * q ≤ M → ∀ (w1 : Nat), ∀ (h0_0 h0_1 h0_2 h0_3 h0_4 h0_5 h0_6 : Int), ∀ (h1z : Bool), ∀ (h1l : List zjn), ∀ (h1x : Bool), ∀ (r : Nat × (List zjn) × Bool), zka q h0_0 h0_1 h0_2 h0_3 h0_4 h0_5 h0_6 h1z h1l h1x = some r → (orc T (M + 7)).inl F.zms [(.vw 1 w1 0 h1l.length 1), (.fn F.zmt [(.ptr 0 0)])] [(.box [(.int .i64 h0_0), (.int .i64 h0_1), (.int .i64 h0_2), (.int .i64 h0_3), (.int .i64 h0_4), (.int .i64 h0_5), (.int .i64 h0_6)]), (.row w1 h1z 3 (List.map zjn.enc h1l) h1x)] = (some ([(.vw 1 w1 0 r.1 0)], [(.box [(.int .i64 h0_0), (.int .i64 h0_1), (.int .i64 h0_2), (.int .i64 h0_3), (.int .i64 h0_4), (.int .i64 h0_5), (.int .i64 h0_6)]), (.row w1 h1z 3 (List.map zjn.enc r.2.1) r.2.2)]) : Option (List V × Hp)) := by
 intro q M hM w1 h0_0 h0_1 h0_2 h0_3 h0_4 h0_5 h0_6 h1z h1l h1x r h
 rcases q with _ | q
 ·cases h
 have zbhq := (zbee q)
 generalize hR : (some ([(.vw 1 w1 0 r.1 0)], [(.box [(.int .i64 h0_0), (.int .i64 h0_1), (.int .i64 h0_2), (.int .i64 h0_3), (.int .i64 h0_4), (.int .i64 h0_5), (.int .i64 h0_6)]), (.row w1 h1z 3 (List.map zjn.enc r.2.1) r.2.2)]) : Option (List V × Hp)) = R
 rw [z78 (n := M + 6)]
 rw [zka] at h
 replace h := ob h; obtain ⟨r1, h1, h⟩ := h
 replace h1 := zbea q M (by omega) w1 _ _ _ _ _ _ _ _ _ _ _ h1
 try simp only [kf, simprocAttr] at h1
 replace h := br h; rcases h with ⟨h2, h⟩ | ⟨h2, h⟩
 ·cases h; subst hR; simp only [zbec, simprocAttr, *]
 ·replace h := zbhq M (by omega) (M + 6) (by omega) w1 _ _ _ _ _ _ _ _ _ _ _ _ _ h R hR
  simp only [zbec, simprocAttr, *]
def zbeg (q : Nat) : Prop := ∀ (M : Nat) (hM : 8 * q ≤ M) (j : Nat) (hj : q ≤ j) (w1 v0len : Nat) (v7 v8 h0_0 h0_1 h0_2 h0_3 h0_4 h0_5 h0_6 : Int) (h1z : Bool) (h1l : List zjn) (h1x : Bool) (r : Int) (_ : zkb q v0len v7 v8 h0_0 h0_1 h0_2 h0_3 h0_4 h0_5 h0_6 h1z h1l h1x = some r) (R : Option (List V × Hp)) (_ : (some ([(.int .i64 r)], [(.box [(.int .i64 h0_0), (.int .i64 h0_1), (.int .i64 h0_2), (.int .i64 h0_3), (.int .i64 h0_4), (.int .i64 h0_5), (.int .i64 h0_6)]), (.row w1 h1z 3 (List.map zjn.enc h1l) h1x)]) : Option (List V × Hp)) = R) (fr : Fr) (H : Hp) (_ : canon 2 [0, 1, 7, 8] fr H = ([(0, (.vw 1 w1 0 v0len 0)), (1, (.fn F.zmv [(.ptr 0 0)])), (7, (.int .i64 v7)), (8, (.int .i64 v8))], [(.box [(.int .i64 h0_0), (.int .i64 h0_1), (.int .i64 h0_2), (.int .i64 h0_3), (.int .i64 h0_4), (.int .i64 h0_5), (.int .i64 h0_6)]), (.row w1 h1z 3 (List.map zjn.enc h1l) h1x)])), finI 2 false [.tmp 4] (unw T (orc T (M + 6)) (M + 6) 2 [.blk 0, .code zr7] (iter 2 [0, 1, 7, 8] (exec T (orc T (M + 6)) (M + 6) 2 zr4) j fr H)) = R
def zbeh := And.intro @kk <| And.intro @ke <| And.intro @kn <| And.intro @z8f <| And.intro @z8i <| And.intro @z8j <| @z8k
theorem zbei (q : Nat) (zbhr : zbeg q) : zbeg (q + 1) := by
 intro M hM j hj w1 v0len v7 v8 h0_0 h0_1 h0_2 h0_3 h0_4 h0_5 h0_6 h1z h1l h1x r h R hR fr H hc
 obtain ⟨j, rfl⟩ : ∃ i, j = i + 1 := ⟨j - 1, by omega⟩
 rw [zhk, hc]; clear hc
 rw [zkb] at h
 replace h := br h; rcases h with ⟨h1, h⟩ | ⟨h1, h⟩
 ·replace h := bn h; obtain ⟨h2, h⟩ := h
  replace h := bn h; obtain ⟨h3, h⟩ := h
  replace h := ob h; obtain ⟨e1, h4, h⟩ := h
  replace h := br h; rcases h with ⟨h5, h⟩ | ⟨h5, h⟩
  ·cases h; subst hR; simp only [zbeh, simprocAttr, *]
  ·replace h := zbhr M (by omega) j (by omega) w1 _ _ _ _ _ _ _ _ _ _ _ _ _ _ h R hR
   simp only [zbeh, simprocAttr, *]
 ·cases h; subst hR; simp only [zbeh, simprocAttr, *]
theorem zbej : ∀ q, zbeg q
 | 0 => by intro M hM j hj; intros; rename_i h _ _ _ _ _; cases h
 | q + 1 => by have i0 := zbej q; exact zbei q i0
theorem zbek : ∀ (q M : Nat), 8 * q ≤ M → ∀ (w1 v0len : Nat), ∀ (h0_0 h0_1 h0_2 h0_3 h0_4 h0_5 h0_6 : Int), ∀ (h1z : Bool), ∀ (h1l : List zjn), ∀ (h1x : Bool), ∀ (r : Int), zkc q v0len h0_0 h0_1 h0_2 h0_3 h0_4 h0_5 h0_6 h1z h1l h1x = some r → (orc T (M + 7)).inl F.zmu [(.vw 1 w1 0 v0len 0), (.fn F.zmv [(.ptr 0 0)])] [(.box [(.int .i64 h0_0), (.int .i64 h0_1), (.int .i64 h0_2), (.int .i64 h0_3), (.int .i64 h0_4), (.int .i64 h0_5), (.int .i64 h0_6)]), (.row w1 h1z 3 (List.map zjn.enc h1l) h1x)] = (some ([(.int .i64 r)], [(.box [(.int .i64 h0_0), (.int .i64 h0_1), (.int .i64 h0_2), (.int .i64 h0_3), (.int .i64 h0_4), (.int .i64 h0_5), (.int .i64 h0_6)]), (.row w1 h1z 3 (List.map zjn.enc h1l) h1x)]) : Option (List V × Hp)) := by
 intro q M hM w1 v0len h0_0 h0_1 h0_2 h0_3 h0_4 h0_5 h0_6 h1z h1l h1x r h
 rcases q with _ | q
 ·cases h
 have zbhr := (zbej q)
 generalize hR : (some ([(.int .i64 r)], [(.box [(.int .i64 h0_0), (.int .i64 h0_1), (.int .i64 h0_2), (.int .i64 h0_3), (.int .i64 h0_4), (.int .i64 h0_5), (.int .i64 h0_6)]), (.row w1 h1z 3 (List.map zjn.enc h1l) h1x)]) : Option (List V × Hp)) = R
 rw [z8h (n := M + 6)]
 rw [zkc] at h
 replace h := zbhr M (by omega) (M + 6) (by omega) w1 _ _ _ _ _ _ _ _ _ _ _ _ _ _ h R hR
 simp only [zbeh, simprocAttr, *]
def zbel := And.intro @kk <| And.intro @ke <| And.intro @kn <| And.intro @z66 <| And.intro @z77 <| And.intro @z8a <| And.intro @z8g <| And.intro @z8l <| @z68
theorem zbem : ∀ (q N : Nat), 8 * q ≤ N → ∀ (a0 : (Sl zjn)) (a1 : zjr), ∀ (r : (Ow zjn)), zkd q a0 a1 = some r → (orc T N).deep F.zkd [(Sl.enc zjn.enc) a0, zjr.enc a1] = some [(Ow.enc 3 zjn.enc) r] := by
 intro q N hM a0 a1 r h
 rcases q with _ | q
 ·cases h
 obtain ⟨M, rfl⟩ : ∃ M, N = M + 8 := ⟨N - 8, by omega⟩
 generalize hR : some [(Ow.enc 3 zjn.enc) r] = R
 rw [zhu, z49, y4, zhs zoj rfl]
 rw [zkd] at h
 replace h := ob h; obtain ⟨r1, h1, h⟩ := h
 replace h1 := zbd4 q (M + 7) (by omega) _ _ h1
 try simp only [kf, simprocAttr] at h1
 replace h := ob h; obtain ⟨r2, h2, h⟩ := h
 replace h2 := zbef q M (by omega) 0 _ _ _ _ _ _ _ _ _ _ _ h2
 try simp only [kf, simprocAttr] at h2
 replace h := ob h; obtain ⟨r3, h3, h⟩ := h
 replace h3 := zbek q M (by omega) 0 _ _ _ _ _ _ _ _ _ _ _ _ h3
 try simp only [kf, simprocAttr] at h3
 replace h := br h; rcases h with ⟨h4, h⟩ | ⟨h4, h⟩
 ·replace h := bb h; rcases h with ⟨h5', h5, h⟩ | ⟨h5', h5, h⟩
  ·replace h := ob h; obtain ⟨r4, h6, h⟩ := h
   replace h6 := zbd5 q (M + 7) (by omega) _ _ _ _ h6
   try simp only [kf, simprocAttr] at h6
   cases h; subst hR; simp only [zbel, simprocAttr, *]
  ·cases h
 ·replace h := bb h; rcases h with ⟨h7', h7, h⟩ | ⟨h7', h7, h⟩
  ·replace h := ob h; obtain ⟨r5, h8, h⟩ := h
   replace h8 := zbd5 q (M + 7) (by omega) _ _ _ _ h8
   try simp only [kf, simprocAttr] at h8
   cases h; subst hR; simp only [zbel, simprocAttr, *]
  ·cases h
def zben (q : Nat) : Prop := ∀ (M : Nat) (hM : 8 * q ≤ M) (j : Nat) (hj : q ≤ j) (v0z : Bool) (v0l : List Int) (v1z : Bool) (v1l : List Int) (v12 v13 : Int) (r : Bool) (_ : zke q v0z v0l v1z v1l v12 v13 = some r) (R : Option (List V)) (_ : some [V.bool r] = R) (fr : Fr) (H : Hp) (_ : canon 0 [0, 1, 12, 13] fr H = ([(0, (.sl v0z (List.map (V.int .i64) v0l))), (1, (.sl v1z (List.map (V.int .i64) v1l))), (12, (.int .i64 v12)), (13, (.int .i64 v13))], [])), fin zsr (unw T (orc T (M + 7)) (M + 7) 0 [.blk 0, .code zsn] (iter 0 [0, 1, 12, 13] (exec T (orc T (M + 7)) (M + 7) 0 zsk) j fr H)) = R
def zbeo := And.intro @kk <| And.intro @ke <| And.intro @kn <| And.intro @z8n <| @z8p
theorem zbep (q : Nat) (zbhs : zben q) : zben (q + 1) := by
 intro M hM j hj v0z v0l v1z v1l v12 v13 r h R hR fr H hc
 obtain ⟨j, rfl⟩ : ∃ i, j = i + 1 := ⟨j - 1, by omega⟩
 rw [zhk, hc]; clear hc
 rw [zke] at h
 replace h := br h; rcases h with ⟨h1, h⟩ | ⟨h1, h⟩
 ·replace h := bn h; obtain ⟨h2, h⟩ := h
  replace h := ob h; obtain ⟨e1, h3, h⟩ := h
  replace h := ob h; obtain ⟨e2, h4, h⟩ := h
  replace h := br h; rcases h with ⟨h5, h⟩ | ⟨h5, h⟩
  ·replace h := zbhs M (by omega) j (by omega) _ _ _ _ _ _ _ h R hR
   simp only [zbeo, simprocAttr, *]
  ·cases h; subst hR; simp only [zbeo, simprocAttr, *]
 ·cases h; subst hR; simp only [zbeo, simprocAttr, *]
theorem zbeq : ∀ q, zben q
 | 0 => by intro M hM j hj; intros; rename_i h _ _ _ _ _; cases h
 | q + 1 => by have i0 := zbeq q; exact zbep q i0
theorem zber : ∀ (q N : Nat), 8 * q ≤ N → ∀ (a0 a1 : (Sl Int)), ∀ (r : Bool), zkf q a0 a1 = some r → (orc T N).deep F.zkf [(Sl.enc (V.int .i64)) a0, (Sl.enc (V.int .i64)) a1] = some [V.bool r] := by
 intro q N hM a0 a1 r h
 rcases q with _ | q
 ·cases h
 obtain ⟨M, rfl⟩ : ∃ M, N = M + 8 := ⟨N - 8, by omega⟩
 have zbhs := (zbeq q)
 generalize hR : some [V.bool r] = R
 rw [zhu, z5r, y4, zhs zsr rfl]
 rw [zkf] at h
 replace h := br h; rcases h with ⟨h1, h⟩ | ⟨h1, h⟩
 ·replace h := zbhs M (by omega) (M + 7) (by omega) _ _ _ _ _ _ _ h R hR
  simp only [zbeo, simprocAttr, *]
 ·cases h; subst hR; simp only [zbeo, simprocAttr, *]
def zbes := And.intro @kk <| And.intro @ke <| And.intro @kn <| And.intro @z7c <| And.intro @z8o <| @z7e
theorem zbet : ∀ (q N : Nat), 8 * q ≤ N → ∀ (a0 a1 : zjm), ∀ (r : Bool), zkg q a0 a1 = some r → (orc T N).deep F.zkg [zjm.enc a0, zjm.enc a1] = some [V.bool r] := by
 intro q N hM a0 a1 r h
 rcases q with _ | q
 ·cases h
 obtain ⟨M, rfl⟩ : ∃ M, N = M + 8 := ⟨N - 8, by omega⟩
 generalize hR : some [V.bool r] = R
 rw [zhu, z5b, y4, zhs zo1 rfl]
 rw [zkg] at h
 replace h := br h; rcases h with ⟨h1, h⟩ | ⟨h1, h⟩
 ·replace h := bb h; rcases h with ⟨h2', h2, h⟩ | ⟨h2', h2, h⟩
  ·replace h := br h; rcases h with ⟨h3, h⟩ | ⟨h3, h⟩
   ·replace h := ob h; obtain ⟨r1, h4, h⟩ := h
    replace h4 := zber q (M + 7) (by omega) _ _ _ h4
    try simp only [kf, simprocAttr] at h4
    cases h; subst hR; simp only [zbes, simprocAttr, *]
   ·cases h; subst hR; simp only [zbes, simprocAttr, *]
  ·cases h; subst hR; simp only [zbes, simprocAttr, *]
 ·cases h; subst hR; simp only [zbes, simprocAttr, *]
def zbeu (q : Nat) : Prop := ∀ (M : Nat) (hM : 8 * q ≤ M) (j : Nat) (hj : q ≤ j) (v0z : Bool) (v0l : List zjn) (v1z : Bool) (v1l : List zjn) (v12 v13 : Int) (r : Bool) (_ : zkh q v0z v0l v1z v1l v12 v13 = some r) (R : Option (List V)) (_ : some [V.bool r] = R) (fr : Fr) (H : Hp) (_ : canon 0 [0, 1, 12, 13] fr H = ([(0, (.sl v0z (List.map zjn.enc v0l))), (1, (.sl v1z (List.map zjn.enc v1l))), (12, (.int .i64 v12)), (13, (.int .i64 v13))], [])), fin zq8 (unw T (orc T (M + 7)) (M + 7) 0 [.blk 0, .code zq4] (iter 0 [0, 1, 12, 13] (exec T (orc T (M + 7)) (M + 7) 0 zq1) j fr H)) = R
def zbev := And.intro @kk <| And.intro @ke <| And.intro @kn <| And.intro @z7x <| @z7z
theorem zbew (q : Nat) (zbht : zbeu q) : zbeu (q + 1) := by
 intro M hM j hj v0z v0l v1z v1l v12 v13 r h R hR fr H hc
 obtain ⟨j, rfl⟩ : ∃ i, j = i + 1 := ⟨j - 1, by omega⟩
 rw [zhk, hc]; clear hc
 rw [zkh] at h
 replace h := br h; rcases h with ⟨h1, h⟩ | ⟨h1, h⟩
 ·replace h := bn h; obtain ⟨h2, h⟩ := h
  replace h := ob h; obtain ⟨e1, h3, h⟩ := h
  replace h := ob h; obtain ⟨e2, h4, h⟩ := h
  replace h := br h; rcases h with ⟨h5, h⟩ | ⟨h5, h⟩
  ·replace h := br h; rcases h with ⟨h6, h⟩ | ⟨h6, h⟩
   ·replace h := br h; rcases h with ⟨h7, h⟩ | ⟨h7, h⟩
    ·replace h := zbht M (by omega) j (by omega) _ _ _ _ _ _ _ h R hR
     simp only [zbev, simprocAttr, *]
    ·cases h; subst hR; simp only [zbev, simprocAttr, *]
   ·cases h; subst hR; simp only [zbev, simprocAttr, *]
  ·cases h; subst hR; simp only [zbev, simprocAttr, *]
 ·cases h; subst hR; simp only [zbev, simprocAttr, *]
theorem zbex : ∀ q, zbeu q
 | 0 => by intro M hM j hj; intros; rename_i h _ _ _ _ _; cases h
 | q + 1 => by have i0 := zbex q; exact zbew q i0
theorem zbey : ∀ (q N : Nat), 8 * q ≤ N → ∀ (a0 a1 : (Sl zjn)), ∀ (r : Bool), zki q a0 a1 = some r → (orc T N).deep F.zki [(Sl.enc zjn.enc) a0, (Sl.enc zjn.enc) a1] = some [V.bool r] := by
 intro q N hM a0 a1 r h
 rcases q with _ | q
 ·cases h
 obtain ⟨M, rfl⟩ : ∃ M, N = M + 8 := ⟨N - 8, by omega⟩
 have zbht := (zbex q)
 generalize hR : some [V.bool r] = R
 rw [zhu, z5i, y4, zhs zq8 rfl]
 rw [zki] at h
 replace h := br h; rcases h with ⟨h1, h⟩ | ⟨h1, h⟩
 ·replace h := zbht M (by omega) (M + 7) (by omega) _ _ _ _ _ _ _ h R hR
  simp only [zbev, simprocAttr, *]
 ·cases h; subst hR; simp only [zbev, simprocAttr, *]
def zbez := And.intro @kk <| And.intro @ke <| And.intro @kn <| And.intro @z60 <| And.intro @z7d <| And.intro @z7y <| @z62
theorem zbe0 : ∀ (q N : Nat), 8 * q ≤ N → ∀ (a0 a1 : zjo), ∀ (r : Bool), zkj q a0 a1 = some r → (orc T N).deep F.zkj [zjo.enc a0, zjo.enc a1] = some [V.bool r] := by
 intro q N hM a0 a1 r h
 rcases q with _ | q
 ·cases h
 obtain ⟨M, rfl⟩ : ∃ M, N = M + 8 := ⟨N - 8, by omega⟩
 generalize hR : some [V.bool r] = R
 rw [zhu, z47, y4, zhs zod rfl]
 rw [zkj] at h
 replace h := br h; rcases h with ⟨h1, h⟩ | ⟨h1, h⟩
 ·replace h := ob h; obtain ⟨r1, h2, h⟩ := h
  replace h2 := zbet q (M + 7) (by omega) _ _ _ h2
  try simp only [kf, simprocAttr] at h2
  replace h := bb h; rcases h with ⟨h3', h3, h⟩ | ⟨h3', h3, h⟩
  ·replace h := ob h; obtain ⟨r2, h4, h⟩ := h
   replace h4 := zbey q (M + 7) (by omega) _ _ _ h4
   try simp only [kf, simprocAttr] at h4
   cases h; subst hR; simp only [zbez, simprocAttr, *]
  ·cases h; subst hR; simp only [zbez, simprocAttr, *]
 ·cases h; subst hR; simp only [zbez, simprocAttr, *]
def zbe1 := And.intro @kk <| And.intro @ke <| And.intro @kn <| And.intro @z7f <| @z7h
theorem zbe2 : ∀ (q N : Nat), 8 * q ≤ N → ∀ (a0 : zjm), ∀ (r : Bool), zkk q a0 = some r → (orc T N).deep F.zkk [zjm.enc a0] = some [V.bool r] := by
 intro q N hM a0 r h
 rcases q with _ | q
 ·cases h
 obtain ⟨M, rfl⟩ : ∃ M, N = M + 8 := ⟨N - 8, by omega⟩
 generalize hR : some [V.bool r] = R
 rw [zhu, z5c, y4, zhs zo3 rfl]
 rw [zkk] at h
 cases h; subst hR; simp only [zbe1, simprocAttr, *]
def zbe3 := And.intro @kk <| And.intro @ke <| And.intro @kn <| And.intro @z6r <| And.intro @z7g <| @z6t
theorem zbe4 : ∀ (q N : Nat), 8 * q ≤ N → ∀ (a0 : zjo), ∀ (r : Bool), zkl q a0 = some r → (orc T N).deep F.zkl [zjo.enc a0] = some [V.bool r] := by
 intro q N hM a0 r h
 rcases q with _ | q
 ·cases h
 obtain ⟨M, rfl⟩ : ∃ M, N = M + 8 := ⟨N - 8, by omega⟩
 generalize hR : some [V.bool r] = R
 rw [zhu, z44, y4, zhs zns rfl]
 rw [zkl] at h
 replace h := ob h; obtain ⟨r1, h1, h⟩ := h
 replace h1 := zbe2 q (M + 7) (by omega) _ _ h1
 try simp only [kf, simprocAttr] at h1
 replace h := bb h; rcases h with ⟨h2', h2, h⟩ | ⟨h2', h2, h⟩
 ·cases h; subst hR; simp only [zbe3, simprocAttr, *]
 ·cases h; subst hR; simp only [zbe3, simprocAttr, *]
def zbe5 := And.intro @kk <| And.intro @ke <| And.intro @kn <| And.intro @z9n <| And.intro @z9f <| @z9p
theorem zbe6 : ∀ (q N : Nat), 8 * q ≤ N → ∀ (a0 : zjq), ∀ (r : Bool), zkm q a0 = some r → (orc T N).deep F.zkm [zjq.enc a0] = some [V.bool r] := by
 intro q N hM a0 r h
 rcases q with _ | q
 ·cases h
 obtain ⟨M, rfl⟩ : ∃ M, N = M + 8 := ⟨N - 8, by omega⟩
 generalize hR : some [V.bool r] = R
 rw [zhu, z53, y4, zhs zur rfl]
 rw [zkm] at h
 replace h := br h; rcases h with ⟨h1, h⟩ | ⟨h1, h⟩
 ·replace h := br h; rcases h with ⟨h2, h⟩ | ⟨h2, h⟩
  ·replace h := ob h; obtain ⟨r1, h3, h⟩ := h
   replace h3 := zbdd q (M + 7) (by omega) _ _ h3
   replace h := br h; rcases h with ⟨h4, h⟩ | ⟨h4, h⟩
   ·replace h := ob h; obtain ⟨r2, h5, h⟩ := h
    replace h5 := zbdd q (M + 7) (by omega) _ _ h5
    cases h; subst hR; simp only [zbe5, simprocAttr, *]
   ·cases h; subst hR; simp only [zbe5, simprocAttr, *]
  ·cases h; subst hR; simp only [zbe5, simprocAttr, *]
 ·cases h; subst hR; simp only [zbe5, simprocAttr, *]
def zbe7 := And.intro @kk <| And.intro @ke <| And.intro @kn <| And.intro @z7r <| And.intro @z9o <| @z7t
theorem zbe8 : ∀ (q N : Nat), 8 * q ≤ N → ∀ (a0 : zjr), ∀ (r : Bool), zkn q a0 = some r → (orc T N).deep F.zkn [zjr.enc a0] = some [V.bool r] := by
 intro q N hM a0 r h
 rcases q with _ | q
 ·cases h
 obtain ⟨M, rfl⟩ : ∃ M, N = M + 8 := ⟨N - 8, by omega⟩
 generalize hR : some [V.bool r] = R
 rw [zhu, z5g, y4, zhs zp2 rfl]
 rw [zkn] at h
 replace h := br h; rcases h with ⟨h1, h⟩ | ⟨h1, h⟩
 ·replace h := br h; rcases h with ⟨h2, h⟩ | ⟨h2, h⟩
  ·replace h := br h; rcases h with ⟨h3, h⟩ | ⟨h3, h⟩
   ·replace h := br h; rcases h with ⟨h4, h⟩ | ⟨h4, h⟩
    ·replace h := br h; rcases h with ⟨h5, h⟩ | ⟨h5, h⟩
     ·replace h := br h; rcases h with ⟨h6, h⟩ | ⟨h6, h⟩
      ·replace h := ob h; obtain ⟨r1, h7, h⟩ := h
       replace h7 := zbe6 q (M + 7) (by omega) _ _ h7
       try simp only [kf, simprocAttr] at h7
       replace h := bb h; rcases h with ⟨h8', h8, h⟩ | ⟨h8', h8, h⟩
       ·replace h := br h; rcases h with ⟨h9, h⟩ | ⟨h9, h⟩
        ·cases h; subst hR; simp only [zbe7, simprocAttr, *]
        ·cases h; subst hR; simp only [zbe7, simprocAttr, *]
       ·cases h; subst hR; simp only [zbe7, simprocAttr, *]
      ·cases h; subst hR; simp only [zbe7, simprocAttr, *]
     ·cases h; subst hR; simp only [zbe7, simprocAttr, *]
    ·cases h; subst hR; simp only [zbe7, simprocAttr, *]
   ·cases h; subst hR; simp only [zbe7, simprocAttr, *]
  ·cases h; subst hR; simp only [zbe7, simprocAttr, *]
 ·cases h; subst hR; simp only [zbe7, simprocAttr, *]
def zbe9 := And.intro @kk <| And.intro @ke <| And.intro @kn <| And.intro @z9q <| And.intro @z9f <| @z9s
theorem zbfa : ∀ (q N : Nat), 8 * q ≤ N → ∀ (a0 : zjm) (a1 : zjq), ∀ (r : zjm × Int), zko q a0 a1 = some r → (orc T N).deep F.zko [zjm.enc a0, zjq.enc a1] = some [zjm.enc r.1, (V.int .i64) r.2] := by
 intro q N hM a0 a1 r h
 rcases q with _ | q
 ·cases h
 obtain ⟨M, rfl⟩ : ∃ M, N = M + 8 := ⟨N - 8, by omega⟩
 generalize hR : some [zjm.enc r.1, (V.int .i64) r.2] = R
 rw [zhu, z54, y4, zhs zvc rfl]
 rw [zko] at h
 replace h := ob h; obtain ⟨e1, h1, h⟩ := h
 replace h := br h; rcases h with ⟨h2, h⟩ | ⟨h2, h⟩
 ·cases h; subst hR; simp only [zbe9, simprocAttr, *]
 ·replace h := br h; rcases h with ⟨h3, h⟩ | ⟨h3, h⟩
  ·replace h := br h; rcases h with ⟨h4, h⟩ | ⟨h4, h⟩
   ·replace h := ob h; obtain ⟨r2, h5, h⟩ := h
    replace h5 := zbdd q (M + 7) (by omega) _ _ h5
    replace h := ob h; obtain ⟨r3, h6, h⟩ := h
    replace h6 := zbdd q (M + 7) (by omega) _ _ h6
    cases h; subst hR; simp only [zbe9, simprocAttr, *]
   ·replace h := br h; rcases h with ⟨h7, h⟩ | ⟨h7, h⟩
    ·replace h := br h; rcases h with ⟨h8, h⟩ | ⟨h8, h⟩
     ·replace h := ob h; obtain ⟨r4, h9, h⟩ := h
      replace h9 := zbdd q (M + 7) (by omega) _ _ h9
      cases h; subst hR; simp only [zbe9, simprocAttr, *]
     ·cases h; subst hR; simp only [zbe9, simprocAttr, *]
    ·cases h; subst hR; simp only [zbe9, simprocAttr, *]
  ·replace h := br h; rcases h with ⟨h10, h⟩ | ⟨h10, h⟩
   ·replace h := br h; rcases h with ⟨h11, h⟩ | ⟨h11, h⟩
    ·replace h := ob h; obtain ⟨r5, h12, h⟩ := h
     replace h12 := zbdd q (M + 7) (by omega) _ _ h12
     cases h; subst hR; simp only [zbe9, simprocAttr, *]
    ·cases h; subst hR; simp only [zbe9, simprocAttr, *]
   ·cases h; subst hR; simp only [zbe9, simprocAttr, *]
def zbfb := And.intro @kk <| And.intro @ke <| And.intro @kn <| And.intro @zbaq <| @zbas
theorem zbfc : ∀ (q N : Nat), 8 * q ≤ N → ∀ (a0 : (Ow Int)) (a1 a2 : Int), ∀ (r : (Ow Int)), zkp q a0 a1 a2 = some r → (orc T N).deep F.zkp [(Ow.enc 1 (V.int .i64)) a0, (V.int .i64) a1, (V.int .i64) a2] = some [(Ow.enc 1 (V.int .i64)) r] := by
 intro q N hM a0 a1 a2 r h
 rcases q with _ | q
 ·cases h
 obtain ⟨M, rfl⟩ : ∃ M, N = M + 8 := ⟨N - 8, by omega⟩
 generalize hR : some [(Ow.enc 1 (V.int .i64)) r] = R
 rw [zhu, z6g, y4, zhs z1x rfl]
 rw [zkp] at h
 replace h := bn h; obtain ⟨h1, h⟩ := h
 replace h := bn h; obtain ⟨h2, h⟩ := h
 replace h := bn h; obtain ⟨h3, h⟩ := h
 replace h := br h; rcases h with ⟨h4, h⟩ | ⟨h4, h⟩
 ·cases h; subst hR; simp only [zbfb, simprocAttr, *]
 ·replace h := bn h; obtain ⟨h5, h⟩ := h
  replace h := bb h; rcases h with ⟨h6', h6, h⟩ | ⟨h6', h6, h⟩
  ·replace h := bn h; obtain ⟨h7, h⟩ := h
   replace h := bn h; obtain ⟨h8, h⟩ := h
   replace h := bn h; obtain ⟨h9, h⟩ := h
   replace h := bn h; obtain ⟨h10, h⟩ := h
   replace h := bn h; obtain ⟨h11, h⟩ := h
   replace h := bm h; obtain ⟨h12, h⟩ := h
   replace h := bb h; rcases h with ⟨h13', h13, h⟩ | ⟨h13', h13, h⟩
   ·cases h; subst hR; simp only [zbfb, simprocAttr, *]
   ·cases h
  ·replace h := bn h; obtain ⟨h14, h⟩ := h
   replace h := bn h; obtain ⟨h15, h⟩ := h
   replace h := bn h; obtain ⟨h16, h⟩ := h
   replace h := bb h; rcases h with ⟨h17', h17, h⟩ | ⟨h17', h17, h⟩
   ·replace h := bn h; obtain ⟨h18, h⟩ := h
    replace h := bn h; obtain ⟨h19, h⟩ := h
    cases h; subst hR; simp only [zbfb, simprocAttr, *]
   ·cases h
def zbfd := And.intro @kk <| And.intro @ke <| And.intro @kn <| And.intro @z9t <| And.intro @z7j <| And.intro @z9f <| And.intro @zbar <| @z9v
theorem zbfe : ∀ (q N : Nat), 8 * q ≤ N → ∀ (a0 : zjm) (a1 : zjq), ∀ (r : zjm × Int), zkq q a0 a1 = some r → (orc T N).deep F.zkq [zjm.enc a0, zjq.enc a1] = some [zjm.enc r.1, (V.int .i64) r.2] := by
 intro q N hM a0 a1 r h
 rcases q with _ | q
 ·cases h
 obtain ⟨M, rfl⟩ : ∃ M, N = M + 8 := ⟨N - 8, by omega⟩
 generalize hR : some [zjm.enc r.1, (V.int .i64) r.2] = R
 rw [zhu, z55, y4, zhs zwa rfl]
 rw [zkq] at h
 replace h := br h; rcases h with ⟨h1, h⟩ | ⟨h1, h⟩
 ·cases h; subst hR; simp only [zbfd, simprocAttr, *]
 ·replace h := br h; rcases h with ⟨h2, h⟩ | ⟨h2, h⟩
  ·replace h := br h; rcases h with ⟨h3, h⟩ | ⟨h3, h⟩
   ·replace h := ob h; obtain ⟨r1, h4, h⟩ := h
    replace h4 := zbd2 q (M + 7) (by omega) _ _ h4
    try simp only [kf, simprocAttr] at h4
    replace h := ob h; obtain ⟨r2, h5, h⟩ := h
    replace h5 := zbdd q (M + 7) (by omega) _ _ h5
    replace h := bn h; obtain ⟨h6, h⟩ := h
    cases h; subst hR; simp only [zbfd, simprocAttr, *]
   ·cases h; subst hR; simp only [zbfd, simprocAttr, *]
  ·replace h := br h; rcases h with ⟨h7, h⟩ | ⟨h7, h⟩
   ·replace h := br h; rcases h with ⟨h8, h⟩ | ⟨h8, h⟩
    ·cases h; subst hR; simp only [zbfd, simprocAttr, *]
    ·replace h := br h; rcases h with ⟨h9, h⟩ | ⟨h9, h⟩
     ·replace h := ob h; obtain ⟨e3, h10, h⟩ := h
      replace h := ob h; obtain ⟨r4, h11, h⟩ := h
      replace h11 := zbd2 q (M + 7) (by omega) _ _ h11
      try simp only [kf, simprocAttr] at h11
      replace h := ob h; obtain ⟨r5, h12, h⟩ := h
      replace h12 := zbfc q (M + 7) (by omega) _ _ _ _ h12
      try simp only [kf, simprocAttr] at h12
      cases h; subst hR; simp only [zbfd, simprocAttr, *]
     ·replace h := bn h; obtain ⟨h13, h⟩ := h
      replace h := ob h; obtain ⟨e6, h14, h⟩ := h
      replace h := ob h; obtain ⟨r7, h15, h⟩ := h
      replace h15 := zbd2 q (M + 7) (by omega) _ _ h15
      try simp only [kf, simprocAttr] at h15
      replace h := ob h; obtain ⟨r8, h16, h⟩ := h
      replace h16 := zbfc q (M + 7) (by omega) _ _ _ _ h16
      try simp only [kf, simprocAttr] at h16
      cases h; subst hR; simp only [zbfd, simprocAttr, *]
   ·cases h; subst hR; simp only [zbfd, simprocAttr, *]
def zbff (q : Nat) : Prop := ∀ (M : Nat) (hM : 8 * q ≤ M) (j : Nat) (hj : q ≤ j) (v0z : Bool) (v0l : List Int) (v1 v6 : Int) (r : Int × Bool) (_ : zkr q v0z v0l v1 v6 = some r) (R : Option (List V)) (_ : some [(V.int .i64) r.1, V.bool r.2] = R) (fr : Fr) (H : Hp) (_ : canon 0 [0, 1, 6] fr H = ([(0, (.sl v0z (List.map (V.int .i64) v0l))), (1, (.int .i64 v1)), (6, (.int .i64 v6))], [])), fin z2l (unw T (orc T (M + 7)) (M + 7) 0 [.blk 0, .code z2h] (iter 0 [0, 1, 6] (exec T (orc T (M + 7)) (M + 7) 0 z2f) j fr H)) = R
def zbfg := And.intro @kk <| And.intro @ke <| And.intro @kn <| And.intro @zbaw <| @zbay
theorem zbfh (q : Nat) (zbhu : zbff q) : zbff (q + 1) := by
 intro M hM j hj v0z v0l v1 v6 r h R hR fr H hc
 obtain ⟨j, rfl⟩ : ∃ i, j = i + 1 := ⟨j - 1, by omega⟩
 rw [zhk, hc]; clear hc
 rw [zkr] at h
 replace h := br h; rcases h with ⟨h1, h⟩ | ⟨h1, h⟩
 ·replace h := bn h; obtain ⟨h2, h⟩ := h
  replace h := ob h; obtain ⟨e1, h3, h⟩ := h
  replace h := br h; rcases h with ⟨h4, h⟩ | ⟨h4, h⟩
  ·replace h := zbhu M (by omega) j (by omega) _ _ _ _ _ h R hR
   simp only [zbfg, simprocAttr, *]
  ·cases h; subst hR; simp only [zbfg, simprocAttr, *]
 ·cases h; subst hR; simp only [zbfg, simprocAttr, *]
theorem zbfi : ∀ q, zbff q
 | 0 => by intro M hM j hj; intros; rename_i h _ _ _ _ _; cases h
 | q + 1 => by have i0 := zbfi q; exact zbfh q i0
theorem zbfj : ∀ (q N : Nat), 8 * q ≤ N → ∀ (a0 : (Sl Int)) (a1 : Int), ∀ (r : Int × Bool), zks q a0 a1 = some r → (orc T N).deep F.zks [(Sl.enc (V.int .i64)) a0, (V.int .i64) a1] = some [(V.int .i64) r.1, V.bool r.2] := by
 intro q N hM a0 a1 r h
 rcases q with _ | q
 ·cases h
 obtain ⟨M, rfl⟩ : ∃ M, N = M + 8 := ⟨N - 8, by omega⟩
 have zbhu := (zbfi q)
 generalize hR : some [(V.int .i64) r.1, V.bool r.2] = R
 rw [zhu, z6i, y4, zhs z2l rfl]
 rw [zks] at h
 replace h := zbhu M (by omega) (M + 7) (by omega) _ _ _ _ _ h R hR
 simp only [zbfg, simprocAttr, *]
def zbfk := And.intro @kk <| And.intro @ke <| And.intro @kn <| And.intro @zbat <| And.intro @zbax <| @zbav
theorem zbfl : ∀ (q N : Nat), 8 * q ≤ N → ∀ (a0 : (Sl Int)) (a1 : Int), ∀ (r : Int), zkt q a0 a1 = some r → (orc T N).deep F.zkt [(Sl.enc (V.int .i64)) a0, (V.int .i64) a1] = some [(V.int .i64) r] := by
 intro q N hM a0 a1 r h
 rcases q with _ | q
 ·cases h
 obtain ⟨M, rfl⟩ : ∃ M, N = M + 8 := ⟨N - 8, by omega⟩
 generalize hR : some [(V.int .i64) r] = R
 rw [zhu, z6h, y4, zhs z18 rfl]
 rw [zkt] at h
 replace h := ob h; obtain ⟨r1, h1, h⟩ := h
 replace h1 := zbfj q (M + 7) (by omega) _ _ _ h1
 try simp only [kf, simprocAttr] at h1
 replace h := bb h; rcases h with ⟨h2', h2, h⟩ | ⟨h2', h2, h⟩
 ·replace h := bn h; obtain ⟨h3, h⟩ := h
  replace h := ob h; obtain ⟨e2, h4, h⟩ := h
  cases h; subst hR; simp only [zbfk, simprocAttr, *]
 ·cases h; subst hR; simp only [zbfk, simprocAttr, *]
theorem zbfm : ∀ (q N : Nat), 8 * q ≤ N → ∀ (a0 : (Ow Int)) (a1 : Int) (a2 : (Ow Int)), ∀ (r : (Ow Int)), zku q a0 a1 a2 = some r → (orc T N).deep F.zku [(Ow.enc 1 (V.int .i64)) a0, (V.int .i64) a1, (Ow.enc 1 (V.int .i64)) a2] = some [(Ow.enc 1 (V.int .i64)) r] := by
 intro q N hM a0 a1 a2 r h
 rcases q with _ | q
 ·cases h
 obtain ⟨M, rfl⟩ : ∃ M, N = M + 8 := ⟨N - 8, by omega⟩
 rw [zhu, z6n, y4, zhr z42 rfl]
 rw [zku] at h
 by_cases c : insOk a0 a1 a2
 ·rw [if_pos c] at h; cases h; exact zi0 (V.int .i64) 1 c
 ·rw [if_neg c] at h; cases h
def zbfn := And.intro @kk <| And.intro @ke <| And.intro @kn <| And.intro @zbaz <| And.intro @z7j <| And.intro @zbax <| And.intro @zbbb <| @zba1
theorem zbfo : ∀ (q N : Nat), 8 * q ≤ N → ∀ (a0 : (Sl Int)) (a1 a2 : Int), ∀ (r : (Sl Int) × Bool), zkv q a0 a1 a2 = some r → (orc T N).deep F.zkv [(Sl.enc (V.int .i64)) a0, (V.int .i64) a1, (V.int .i64) a2] = some [(Sl.enc (V.int .i64)) r.1, V.bool r.2] := by
 intro q N hM a0 a1 a2 r h
 rcases q with _ | q
 ·cases h
 obtain ⟨M, rfl⟩ : ∃ M, N = M + 8 := ⟨N - 8, by omega⟩
 generalize hR : some [(Sl.enc (V.int .i64)) r.1, V.bool r.2] = R
 rw [zhu, z6j, y4, zhs z23 rfl]
 rw [zkv] at h
 replace h := ob h; obtain ⟨r1, h1, h⟩ := h
 replace h1 := zbfj q (M + 7) (by omega) _ _ _ h1
 try simp only [kf, simprocAttr] at h1
 replace h := bb h; rcases h with ⟨h2', h2, h⟩ | ⟨h2', h2, h⟩
 ·replace h := ob h; obtain ⟨r2, h3, h⟩ := h
  replace h3 := zbd2 q (M + 7) (by omega) _ _ h3
  try simp only [kf, simprocAttr] at h3
  replace h := bn h; obtain ⟨h4, h⟩ := h
  replace h := bn h; obtain ⟨h5, h⟩ := h
  replace h := ob h; obtain ⟨e3, h6, h⟩ := h
  replace h := bb h; rcases h with ⟨h7', h7, h⟩ | ⟨h7', h7, h⟩
  ·cases h; subst hR; simp only [zbfn, simprocAttr, *]
  ·cases h
 ·replace h := br h; rcases h with ⟨h8, h⟩ | ⟨h8, h⟩
  ·cases h; subst hR; simp only [zbfn, simprocAttr, *]
  ·replace h := ob h; obtain ⟨r4, h9, h⟩ := h
   replace h9 := zbd2 q (M + 7) (by omega) _ _ h9
   try simp only [kf, simprocAttr] at h9
   replace h := ob h; obtain ⟨r5, h10, h⟩ := h
   replace h10 := zbfm q (M + 7) (by omega) _ _ _ _ h10
   try simp only [kf, simprocAttr] at h10
   cases h; subst hR; simp only [zbfn, simprocAttr, *]
def zbfp := And.intro @kk <| And.intro @ke <| And.intro @kn <| And.intro @z9w <| And.intro @z7j <| And.intro @z9f <| And.intro @zbar <| And.intro @zbau <| And.intro @zbax <| And.intro @zba0 <| @z9y
theorem zbfq : ∀ (q N : Nat), 8 * q ≤ N → ∀ (a0 : zjm) (a1 : zjq), ∀ (r : zjm × Int), zkw q a0 a1 = some r → (orc T N).deep F.zkw [zjm.enc a0, zjq.enc a1] = some [zjm.enc r.1, (V.int .i64) r.2] := by
 intro q N hM a0 a1 r h
 rcases q with _ | q
 ·cases h
 obtain ⟨M, rfl⟩ : ∃ M, N = M + 8 := ⟨N - 8, by omega⟩
 generalize hR : some [zjm.enc r.1, (V.int .i64) r.2] = R
 rw [zhu, z56, y4, zhs zxa rfl]
 rw [zkw] at h
 replace h := br h; rcases h with ⟨h1, h⟩ | ⟨h1, h⟩
 ·replace h := br h; rcases h with ⟨h2, h⟩ | ⟨h2, h⟩
  ·cases h; subst hR; simp only [zbfp, simprocAttr, *]
  ·replace h := br h; rcases h with ⟨h3, h⟩ | ⟨h3, h⟩
   ·cases h; subst hR; simp only [zbfp, simprocAttr, *]
   ·replace h := ob h; obtain ⟨r1, h4, h⟩ := h
    replace h4 := zbfl q (M + 7) (by omega) _ _ _ h4
    try simp only [kf, simprocAttr] at h4
    replace h := ob h; obtain ⟨r2, h5, h⟩ := h
    replace h5 := zbfj q (M + 7) (by omega) _ _ _ h5
    try simp only [kf, simprocAttr] at h5
    replace h := br h; rcases h with ⟨h6, h⟩ | ⟨h6, h⟩
    ·replace h := bb h; rcases h with ⟨h7', h7, h⟩ | ⟨h7', h7, h⟩
     ·replace h := ob h; obtain ⟨r3, h8, h⟩ := h
      replace h8 := zbd2 q (M + 7) (by omega) _ _ h8
      try simp only [kf, simprocAttr] at h8
      replace h := ob h; obtain ⟨r4, h9, h⟩ := h
      replace h9 := zbfc q (M + 7) (by omega) _ _ _ _ h9
      try simp only [kf, simprocAttr] at h9
      cases h; subst hR; simp only [zbfp, simprocAttr, *]
     ·replace h := br h; rcases h with ⟨h10, h⟩ | ⟨h10, h⟩
      ·replace h := ob h; obtain ⟨r5, h11, h⟩ := h
       replace h11 := zbdd q (M + 7) (by omega) _ _ h11
       replace h := ob h; obtain ⟨r6, h12, h⟩ := h
       replace h12 := zbfo q (M + 7) (by omega) _ _ _ _ h12
       try simp only [kf, simprocAttr] at h12
       replace h := bb h; rcases h with ⟨h13', h13, h⟩ | ⟨h13', h13, h⟩
       ·cases h; subst hR; simp only [zbfp, simprocAttr, *]
       ·cases h; subst hR; simp only [zbfp, simprocAttr, *]
      ·cases h; subst hR; simp only [zbfp, simprocAttr, *]
    ·replace h := br h; rcases h with ⟨h14, h⟩ | ⟨h14, h⟩
     ·replace h := ob h; obtain ⟨r7, h15, h⟩ := h
      replace h15 := zbdd q (M + 7) (by omega) _ _ h15
      replace h := ob h; obtain ⟨r8, h16, h⟩ := h
      replace h16 := zbfo q (M + 7) (by omega) _ _ _ _ h16
      try simp only [kf, simprocAttr] at h16
      replace h := bb h; rcases h with ⟨h17', h17, h⟩ | ⟨h17', h17, h⟩
      ·cases h; subst hR; simp only [zbfp, simprocAttr, *]
      ·cases h; subst hR; simp only [zbfp, simprocAttr, *]
     ·cases h; subst hR; simp only [zbfp, simprocAttr, *]
 ·replace h := br h; rcases h with ⟨h18, h⟩ | ⟨h18, h⟩
  ·replace h := br h; rcases h with ⟨h19, h⟩ | ⟨h19, h⟩
   ·cases h; subst hR; simp only [zbfp, simprocAttr, *]
   ·replace h := br h; rcases h with ⟨h20, h⟩ | ⟨h20, h⟩
    ·cases h; subst hR; simp only [zbfp, simprocAttr, *]
    ·replace h := ob h; obtain ⟨r9, h21, h⟩ := h
     replace h21 := zbfl q (M + 7) (by omega) _ _ _ h21
     try simp only [kf, simprocAttr] at h21
     replace h := ob h; obtain ⟨r10, h22, h⟩ := h
     replace h22 := zbfj q (M + 7) (by omega) _ _ _ h22
     try simp only [kf, simprocAttr] at h22
     replace h := bb h; rcases h with ⟨h23', h23, h⟩ | ⟨h23', h23, h⟩
     ·replace h := ob h; obtain ⟨r11, h24, h⟩ := h
      replace h24 := zbd2 q (M + 7) (by omega) _ _ h24
      try simp only [kf, simprocAttr] at h24
      replace h := ob h; obtain ⟨r12, h25, h⟩ := h
      replace h25 := zbfc q (M + 7) (by omega) _ _ _ _ h25
      try simp only [kf, simprocAttr] at h25
      cases h; subst hR; simp only [zbfp, simprocAttr, *]
     ·replace h := br h; rcases h with ⟨h26, h⟩ | ⟨h26, h⟩
      ·replace h := ob h; obtain ⟨r13, h27, h⟩ := h
       replace h27 := zbdd q (M + 7) (by omega) _ _ h27
       replace h := ob h; obtain ⟨r14, h28, h⟩ := h
       replace h28 := zbfo q (M + 7) (by omega) _ _ _ _ h28
       try simp only [kf, simprocAttr] at h28
       replace h := bb h; rcases h with ⟨h29', h29, h⟩ | ⟨h29', h29, h⟩
       ·cases h; subst hR; simp only [zbfp, simprocAttr, *]
       ·cases h; subst hR; simp only [zbfp, simprocAttr, *]
      ·cases h; subst hR; simp only [zbfp, simprocAttr, *]
  ·replace h := br h; rcases h with ⟨h30, h⟩ | ⟨h30, h⟩
   ·replace h := br h; rcases h with ⟨h31, h⟩ | ⟨h31, h⟩
    ·cases h; subst hR; simp only [zbfp, simprocAttr, *]
    ·replace h := br h; rcases h with ⟨h32, h⟩ | ⟨h32, h⟩
     ·cases h; subst hR; simp only [zbfp, simprocAttr, *]
     ·replace h := ob h; obtain ⟨r15, h33, h⟩ := h
      replace h33 := zbfl q (M + 7) (by omega) _ _ _ h33
      try simp only [kf, simprocAttr] at h33
      replace h := ob h; obtain ⟨r16, h34, h⟩ := h
      replace h34 := zbfj q (M + 7) (by omega) _ _ _ h34
      try simp only [kf, simprocAttr] at h34
      replace h := ob h; obtain ⟨r17, h35, h⟩ := h
      replace h35 := zbdd q (M + 7) (by omega) _ _ h35
      replace h := ob h; obtain ⟨r18, h36, h⟩ := h
      replace h36 := zbfo q (M + 7) (by omega) _ _ _ _ h36
      try simp only [kf, simprocAttr] at h36
      replace h := bb h; rcases h with ⟨h37', h37, h⟩ | ⟨h37', h37, h⟩
      ·cases h; subst hR; simp only [zbfp, simprocAttr, *]
      ·cases h; subst hR; simp only [zbfp, simprocAttr, *]
   ·cases h; subst hR; simp only [zbfp, simprocAttr, *]
def zbfr := And.intro @kk <| And.intro @ke <| And.intro @kn <| And.intro @zba2 <| And.intro @zbau <| And.intro @zba0 <| @zba4
theorem zbfs : ∀ (q N : Nat), 8 * q ≤ N → ∀ (a0 : zjm) (a1 : zjq), ∀ (r : zjm × Int), zkx q a0 a1 = some r → (orc T N).deep F.zkx [zjm.enc a0, zjq.enc a1] = some [zjm.enc r.1, (V.int .i64) r.2] := by
 intro q N hM a0 a1 r h
 rcases q with _ | q
 ·cases h
 obtain ⟨M, rfl⟩ : ∃ M, N = M + 8 := ⟨N - 8, by omega⟩
 generalize hR : some [zjm.enc r.1, (V.int .i64) r.2] = R
 rw [zhu, z6k, y4, zhs z3v rfl]
 rw [zkx] at h
 replace h := br h; rcases h with ⟨h1, h⟩ | ⟨h1, h⟩
 ·cases h; subst hR; simp only [zbfr, simprocAttr, *]
 ·replace h := br h; rcases h with ⟨h2, h⟩ | ⟨h2, h⟩
  ·cases h; subst hR; simp only [zbfr, simprocAttr, *]
  ·replace h := br h; rcases h with ⟨h3, h⟩ | ⟨h3, h⟩
   ·cases h; subst hR; simp only [zbfr, simprocAttr, *]
   ·replace h := ob h; obtain ⟨r1, h4, h⟩ := h
    replace h4 := zbfl q (M + 7) (by omega) _ _ _ h4
    try simp only [kf, simprocAttr] at h4
    replace h := ob h; obtain ⟨r2, h5, h⟩ := h
    replace h5 := zbfl q (M + 7) (by omega) _ _ _ h5
    try simp only [kf, simprocAttr] at h5
    replace h := br h; rcases h with ⟨h6, h⟩ | ⟨h6, h⟩
    ·cases h; subst hR; simp only [zbfr, simprocAttr, *]
    ·replace h := br h; rcases h with ⟨h7, h⟩ | ⟨h7, h⟩
     ·cases h; subst hR; simp only [zbfr, simprocAttr, *]
     ·replace h := ob h; obtain ⟨r3, h8, h⟩ := h
      replace h8 := zbfo q (M + 7) (by omega) _ _ _ _ h8
      try simp only [kf, simprocAttr] at h8
      replace h := bb h; rcases h with ⟨h9', h9, h⟩ | ⟨h9', h9, h⟩
      ·replace h := br h; rcases h with ⟨h10, h⟩ | ⟨h10, h⟩
       ·cases h; subst hR; simp only [zbfr, simprocAttr, *]
       ·replace h := ob h; obtain ⟨r4, h11, h⟩ := h
        replace h11 := zbfo q (M + 7) (by omega) _ _ _ _ h11
        try simp only [kf, simprocAttr] at h11
        cases h; subst hR; simp only [zbfr, simprocAttr, *]
      ·cases h; subst hR; simp only [zbfr, simprocAttr, *]
def zbft := And.intro @kk <| And.intro @ke <| And.intro @kn <| And.intro @z9z <| And.intro @z9f <| And.intro @zbau <| And.intro @zba0 <| And.intro @zba3 <| @z91
theorem zbfu : ∀ (q N : Nat), 8 * q ≤ N → ∀ (a0 : zjm) (a1 : zjq), ∀ (r : zjm × Int), zky q a0 a1 = some r → (orc T N).deep F.zky [zjm.enc a0, zjq.enc a1] = some [zjm.enc r.1, (V.int .i64) r.2] := by
 intro q N hM a0 a1 r h
 rcases q with _ | q
 ·cases h
 obtain ⟨M, rfl⟩ : ∃ M, N = M + 8 := ⟨N - 8, by omega⟩
 generalize hR : some [zjm.enc r.1, (V.int .i64) r.2] = R
 rw [zhu, z57, y4, zhs zx5 rfl]
 rw [zky] at h
 replace h := br h; rcases h with ⟨h1, h⟩ | ⟨h1, h⟩
 ·replace h := ob h; obtain ⟨r1, h2, h⟩ := h
  replace h2 := zbfs q (M + 7) (by omega) _ _ _ h2
  try simp only [kf, simprocAttr] at h2
  cases h; subst hR; simp only [zbft, simprocAttr, *]
 ·replace h := br h; rcases h with ⟨h3, h⟩ | ⟨h3, h⟩
  ·replace h := br h; rcases h with ⟨h4, h⟩ | ⟨h4, h⟩
   ·cases h; subst hR; simp only [zbft, simprocAttr, *]
   ·replace h := br h; rcases h with ⟨h5, h⟩ | ⟨h5, h⟩
    ·cases h; subst hR; simp only [zbft, simprocAttr, *]
    ·replace h := ob h; obtain ⟨r2, h6, h⟩ := h
     replace h6 := zbfl q (M + 7) (by omega) _ _ _ h6
     try simp only [kf, simprocAttr] at h6
     cases h; subst hR; simp only [zbft, simprocAttr, *]
  ·replace h := br h; rcases h with ⟨h7, h⟩ | ⟨h7, h⟩
   ·replace h := br h; rcases h with ⟨h8, h⟩ | ⟨h8, h⟩
    ·cases h; subst hR; simp only [zbft, simprocAttr, *]
    ·replace h := br h; rcases h with ⟨h9, h⟩ | ⟨h9, h⟩
     ·cases h; subst hR; simp only [zbft, simprocAttr, *]
     ·replace h := br h; rcases h with ⟨h10, h⟩ | ⟨h10, h⟩
      ·cases h; subst hR; simp only [zbft, simprocAttr, *]
      ·replace h := ob h; obtain ⟨r3, h11, h⟩ := h
       replace h11 := zbfl q (M + 7) (by omega) _ _ _ h11
       try simp only [kf, simprocAttr] at h11
       replace h := ob h; obtain ⟨r4, h12, h⟩ := h
       replace h12 := zbdd q (M + 7) (by omega) _ _ h12
       replace h := ob h; obtain ⟨r5, h13, h⟩ := h
       replace h13 := zbdd q (M + 7) (by omega) _ _ h13
       replace h := ob h; obtain ⟨r6, h14, h⟩ := h
       replace h14 := zbfo q (M + 7) (by omega) _ _ _ _ h14
       try simp only [kf, simprocAttr] at h14
       replace h := bb h; rcases h with ⟨h15', h15, h⟩ | ⟨h15', h15, h⟩
       ·cases h; subst hR; simp only [zbft, simprocAttr, *]
       ·cases h; subst hR; simp only [zbft, simprocAttr, *]
   ·cases h; subst hR; simp only [zbft, simprocAttr, *]
def zbfv := And.intro @kk <| And.intro @ke <| And.intro @kn <| And.intro @z7u <| And.intro @z7m <| And.intro @z9r <| And.intro @z9u <| And.intro @z9x <| And.intro @z90 <| @z7w
theorem zbfw : ∀ (q N : Nat), 8 * q ≤ N → ∀ (a0 : zjm) (a1 : zjq), ∀ (r : zjm × Int), zkz q a0 a1 = some r → (orc T N).deep F.zkz [zjm.enc a0, zjq.enc a1] = some [zjm.enc r.1, (V.int .i64) r.2] := by
 intro q N hM a0 a1 r h
 rcases q with _ | q
 ·cases h
 obtain ⟨M, rfl⟩ : ∃ M, N = M + 8 := ⟨N - 8, by omega⟩
 generalize hR : some [zjm.enc r.1, (V.int .i64) r.2] = R
 rw [zhu, z5h, y4, zhs zqu rfl]
 rw [zkz] at h
 replace h := ob h; obtain ⟨r1, h1, h⟩ := h
 replace h1 := zbdr q (M + 7) (by omega) _ _ h1
 try simp only [kf, simprocAttr] at h1
 replace h := bb h; rcases h with ⟨h2', h2, h⟩ | ⟨h2', h2, h⟩
 ·replace h := bb h; rcases h with ⟨h3', h3, h⟩ | ⟨h3', h3, h⟩
  ·cases h; subst hR; simp only [zbfv, simprocAttr, *]
  ·replace h := br h; rcases h with ⟨h4, h⟩ | ⟨h4, h⟩
   ·replace h := br h; rcases h with ⟨h5, h⟩ | ⟨h5, h⟩
    ·replace h := br h; rcases h with ⟨h6, h⟩ | ⟨h6, h⟩
     ·cases h; subst hR; simp only [zbfv, simprocAttr, *]
     ·cases h; subst hR; simp only [zbfv, simprocAttr, *]
    ·cases h; subst hR; simp only [zbfv, simprocAttr, *]
   ·replace h := br h; rcases h with ⟨h7, h⟩ | ⟨h7, h⟩
    ·replace h := ob h; obtain ⟨r2, h8, h⟩ := h
     replace h8 := zbfa q (M + 7) (by omega) _ _ _ h8
     try simp only [kf, simprocAttr] at h8
     cases h; subst hR; simp only [zbfv, simprocAttr, *]
    ·replace h := br h; rcases h with ⟨h9, h⟩ | ⟨h9, h⟩
     ·replace h := ob h; obtain ⟨r3, h10, h⟩ := h
      replace h10 := zbfa q (M + 7) (by omega) _ _ _ h10
      try simp only [kf, simprocAttr] at h10
      cases h; subst hR; simp only [zbfv, simprocAttr, *]
     ·replace h := br h; rcases h with ⟨h11, h⟩ | ⟨h11, h⟩
      ·replace h := ob h; obtain ⟨r4, h12, h⟩ := h
       replace h12 := zbfe q (M + 7) (by omega) _ _ _ h12
       try simp only [kf, simprocAttr] at h12
       cases h; subst hR; simp only [zbfv, simprocAttr, *]
      ·replace h := br h; rcases h with ⟨h13, h⟩ | ⟨h13, h⟩
       ·replace h := ob h; obtain ⟨r5, h14, h⟩ := h
        replace h14 := zbfe q (M + 7) (by omega) _ _ _ h14
        try simp only [kf, simprocAttr] at h14
        cases h; subst hR; simp only [zbfv, simprocAttr, *]
       ·replace h := br h; rcases h with ⟨h15, h⟩ | ⟨h15, h⟩
        ·replace h := ob h; obtain ⟨r6, h16, h⟩ := h
         replace h16 := zbfq q (M + 7) (by omega) _ _ _ h16
         try simp only [kf, simprocAttr] at h16
         cases h; subst hR; simp only [zbfv, simprocAttr, *]
        ·replace h := ob h; obtain ⟨r7, h17, h⟩ := h
         replace h17 := zbfu q (M + 7) (by omega) _ _ _ h17
         try simp only [kf, simprocAttr] at h17
         cases h; subst hR; simp only [zbfv, simprocAttr, *]
 ·cases h; subst hR; simp only [zbfv, simprocAttr, *]
def zbfx (q : Nat) : Prop := ∀ (M : Nat) (hM : 8 * q ≤ M) (j : Nat) (hj : q ≤ j) (v5 : Int) (h0_0 h1_0 : List Int) (r : (List Int)) (_ : zk0 q v5 h0_0 h1_0 = some r) (R : Option (List V)) (_ : some [(arrEnc (V.int .u32)) r] = R) (fr : Fr) (H : Hp) (_ : canon 0 [0, 1, 5] fr H = ([(0, (.ptr 0 0)), (1, (.ptr 1 0)), (5, (.int .i64 v5))], [(.box (List.map (V.int .u32) h0_0)), (.box (List.map (V.int .u32) h1_0))])), fin z41 (unw T (orc T (M + 7)) (M + 7) 0 [.blk 0, .code z4x] (iter 0 [0, 1, 5] (exec T (orc T (M + 7)) (M + 7) 0 z4u) j fr H)) = R
def zbfy (q : Nat) : Prop := ∀ (M : Nat) (hM : 8 * q ≤ M) (j : Nat) (hj : q ≤ j) (j1 : Nat) (hj1 : q ≤ j1) (v2 v3 v5 v10 : Int) (h0_0 h1_0 : List Int) (r : (List Int)) (_ : zk1 q v2 v3 v5 v10 h0_0 h1_0 = some r) (R : Option (List V)) (_ : some [(arrEnc (V.int .u32)) r] = R) (fr : Fr) (H : Hp) (_ : canon 0 [0, 1, 2, 3, 5, 10] fr H = ([(0, (.ptr 0 0)), (1, (.ptr 1 0)), (2, (.int .i64 v2)), (3, (.int .u32 v3)), (5, (.int .i64 v5)), (10, (.int .i64 v10))], [(.box (List.map (V.int .u32) h0_0)), (.box (List.map (V.int .u32) h1_0))])), fin z41 (unw T (orc T (M + 7)) (M + 7) 0 [.blk 2, .code z4n, .blk 1, .code z4r, .rounds [0, 1, 5] z4u j1, .blk 0, .code z4x] (iter 0 [0, 1, 2, 3, 5, 10] (exec T (orc T (M + 7)) (M + 7) 0 z4k) j fr H)) = R
def zbfz := And.intro @kk <| And.intro @ke <| And.intro @kn <| And.intro @zba8 <| @zbba
theorem zbf0 (q : Nat) (zbhv : zbfy q) : zbfx (q + 1) := by
 intro M hM j hj v5 h0_0 h1_0 r h R hR fr H hc
 obtain ⟨j, rfl⟩ : ∃ i, j = i + 1 := ⟨j - 1, by omega⟩
 rw [zhk, hc]; clear hc
 rw [zk0] at h
 replace h := br h; rcases h with ⟨h1, h⟩ | ⟨h1, h⟩
 ·replace h := zbhv M (by omega) (M + 7) (by omega) j (by omega) _ _ _ _ _ _ _ h R hR
  simp (maxDischargeDepth := 12) only [zbfz, simprocAttr, arrEnc, *]
 ·replace h := bn h; obtain ⟨h2, h⟩ := h
  replace h := bc h; rcases h with ⟨h3, h⟩ | ⟨h3, h⟩
  ·replace h := bn h; obtain ⟨h4, h⟩ := h
   replace h := bn h; obtain ⟨h5, h⟩ := h
   cases h; subst hR; simp (maxDischargeDepth := 12) only [zbfz, simprocAttr, arrEnc, *]
  ·cases h
theorem zbf1 (q : Nat) (zbhw : zbfx q) (zbhv : zbfy q) : zbfy (q + 1) := by
 intro M hM j hj j1 hj1 v2 v3 v5 v10 h0_0 h1_0 r h R hR fr H hc
 obtain ⟨j, rfl⟩ : ∃ i, j = i + 1 := ⟨j - 1, by omega⟩
 rw [zhk, hc]; clear hc
 rw [zk1] at h
 replace h := br h; rcases h with ⟨h1, h⟩ | ⟨h1, h⟩
 ·replace h := zbhv M (by omega) j (by omega) j1 (by omega) _ _ _ _ _ _ _ h R hR
  simp (maxDischargeDepth := 12) only [zbfz, simprocAttr, arrEnc, *]
 ·replace h := bn h; obtain ⟨h2, h⟩ := h
  replace h := bn h; obtain ⟨h3, h⟩ := h
  replace h := bn h; obtain ⟨h4, h⟩ := h
  replace h := zbhw M (by omega) j1 (by omega) _ _ _ _ h R hR
  simp (maxDischargeDepth := 12) only [zbfz, simprocAttr, arrEnc, *]
theorem zbf2 : ∀ q, zbfx q ∧ zbfy q
 | 0 => by refine ⟨?_, ?_⟩ <;> (intro M hM j hj; intros; rename_i h _ _ _ _ _; cases h)
 | q + 1 => by have ⟨i0, i1⟩ := zbf2 q; exact ⟨zbf0 q i1, zbf1 q i0 i1⟩
theorem zbf3 : ∀ (q N : Nat), 8 * q ≤ N → ∀ (r : (List Int)), zk2 q = some r → (orc T N).deep F.zk2 [] = some [(arrEnc (V.int .u32)) r] := by
 intro q N hM r h
 rcases q with _ | q
 ·cases h
 obtain ⟨M, rfl⟩ : ∃ M, N = M + 8 := ⟨N - 8, by omega⟩
 have zbhw := (zbf2 q).1
 generalize hR : some [(arrEnc (V.int .u32)) r] = R
 rw [zhu, z6m, y4, zhs z41 rfl]
 rw [zk2] at h
 replace h := zbhw M (by omega) (M + 7) (by omega) _ _ _ _ h R hR
 simp (maxDischargeDepth := 12) only [zbfz, simprocAttr, arrEnc, *]
def zbf4 (q : Nat) : Prop := ∀ (M : Nat) (hM : 8 * q ≤ M) (j : Nat) (hj : q ≤ j) (v6 : Int) (v12z : Bool) (v12l : List Int) (v13 v14 : Int) (h0_0 : List Int) (r : Int) (_ : zk3 q v6 v12z v12l v13 v14 h0_0 = some r) (R : Option (List V)) (_ : some [(V.int .u32) r] = R) (fr : Fr) (H : Hp) (_ : canon 0 [5, 6, 12, 13, 14] fr H = ([(5, (.ptr 0 0)), (6, (.int .u32 v6)), (12, (.sl v12z (List.map (V.int .u8) v12l))), (13, (.int .i64 v13)), (14, (.int .i64 v14))], [(.box (List.map (V.int .u32) h0_0))])), fin z0j (unw T (orc T (M + 7)) (M + 7) 0 [.blk 0, .code z0e] (iter 0 [5, 6, 12, 13, 14] (exec T (orc T (M + 7)) (M + 7) 0 z0b) j fr H)) = R
def zbf5 := And.intro @kk <| And.intro @ke <| And.intro @kn <| And.intro @zbah <| And.intro @zba9 <| @zbaj
theorem zbf6 (q : Nat) (zbhx : zbf4 q) : zbf4 (q + 1) := by
 intro M hM j hj v6 v12z v12l v13 v14 h0_0 r h R hR fr H hc
 obtain ⟨j, rfl⟩ : ∃ i, j = i + 1 := ⟨j - 1, by omega⟩
 rw [zhk, hc]; clear hc
 rw [zk3] at h
 replace h := br h; rcases h with ⟨h1, h⟩ | ⟨h1, h⟩
 ·replace h := bn h; obtain ⟨h2, h⟩ := h
  replace h := ob h; obtain ⟨e2, h3, h⟩ := h
  replace h := bn h; obtain ⟨h4, h⟩ := h
  replace h := bn h; obtain ⟨h5, h⟩ := h
  replace h := ob h; obtain ⟨e3, h6, h⟩ := h
  replace h := zbhx M (by omega) j (by omega) _ _ _ _ _ _ _ h R hR
  simp only [zbf5, simprocAttr, arrEnc, *]
 ·cases h; subst hR; simp only [zbf5, simprocAttr, arrEnc, *]
theorem zbf7 : ∀ q, zbf4 q
 | 0 => by intro M hM j hj; intros; rename_i h _ _ _ _ _; cases h
 | q + 1 => by have i0 := zbf7 q; exact zbf6 q i0
theorem zbf8 : ∀ (q N : Nat), 8 * q ≤ N → ∀ (a0 : Int) (a1 : (Sl Int)), ∀ (r : Int), zk4 q a0 a1 = some r → (orc T N).deep F.zk4 [(V.int .u32) a0, (Sl.enc (V.int .u8)) a1] = some [(V.int .u32) r] := by
 intro q N hM a0 a1 r h
 rcases q with _ | q
 ·cases h
 obtain ⟨M, rfl⟩ : ∃ M, N = M + 8 := ⟨N - 8, by omega⟩
 have zbhx := (zbf7 q)
 generalize hR : some [(V.int .u32) r] = R
 rw [zhu, z6d, y4, zhs z0j rfl]
 rw [zk4] at h
 replace h := ob h; obtain ⟨r1, h1, h⟩ := h
 replace h1 := zbf3 q (M + 7) (by omega)  _ h1
 try simp only [kf, simprocAttr] at h1
 replace h := bc h; rcases h with ⟨h2, h⟩ | ⟨h2, h⟩
 ·replace h := zbhx M (by omega) (M + 7) (by omega) _ _ _ _ _ _ _ h R hR
  simp only [zbf5, simprocAttr, arrEnc, *]
 ·cases h
def zbf9 := And.intro @kk <| And.intro @ke <| And.intro @kn <| And.intro @z82 <| And.intro @zbai <| @z84
theorem zbga : ∀ (q N : Nat), 8 * q ≤ N → ∀ (a0 : (Sl Int)), ∀ (r : Int), zk5 q a0 = some r → (orc T N).deep F.zk5 [(Sl.enc (V.int .u8)) a0] = some [(V.int .u32) r] := by
 intro q N hM a0 r h
 rcases q with _ | q
 ·cases h
 obtain ⟨M, rfl⟩ : ∃ M, N = M + 8 := ⟨N - 8, by omega⟩
 generalize hR : some [(V.int .u32) r] = R
 rw [zhu, z5w, y4, zhs ztb rfl]
 rw [zk5] at h
 replace h := ob h; obtain ⟨r1, h1, h⟩ := h
 replace h1 := zbf8 q (M + 7) (by omega) _ _ _ h1
 try simp only [kf, simprocAttr] at h1
 cases h; subst hR; simp only [zbf9, simprocAttr, *]
def zbgb (q : Nat) : Prop := ∀ (M : Nat) (hM : 8 * q ≤ M) (j : Nat) (hj : q ≤ j) (v0 v7 v8 : Int) (h0z : Bool) (h0l : List Int) (r : (Ow Int)) (_ : zk6 q v0 v7 v8 h0z h0l = some r) (R : Option (List V)) (_ : some [(Ow.enc 1 (V.int .u8)) r] = R) (fr : Fr) (H : Hp) (_ : canon 0 [0, 5, 7, 8] fr H = ([(0, (.int .u64 v0)), (5, (.vw 0 0 0 h0l.length 1)), (7, (.int .i64 v7)), (8, (.int .i64 v8))], [(.row 0 h0z 1 (List.map (V.int .u8) h0l) true)])), fin zzy (unw T (orc T (M + 7)) (M + 7) 0 [.blk 0, .code zzu] (iter 0 [0, 5, 7, 8] (exec T (orc T (M + 7)) (M + 7) 0 zzr) j fr H)) = R
def zbgc := And.intro @kk <| And.intro @ke <| And.intro @kn <| And.intro @zbae <| @zbag
theorem zbgd (q : Nat) (zbhy : zbgb q) : zbgb (q + 1) := by
 intro M hM j hj v0 v7 v8 h0z h0l r h R hR fr H hc
 obtain ⟨j, rfl⟩ : ∃ i, j = i + 1 := ⟨j - 1, by omega⟩
 rw [zhk, hc]; clear hc
 rw [zk6] at h
 replace h := br h; rcases h with ⟨h1, h⟩ | ⟨h1, h⟩
 ·replace h := bm h; obtain ⟨h2, h⟩ := h
  replace h := bn h; obtain ⟨h3, h⟩ := h
  replace h := zbhy M (by omega) j (by omega) _ _ _ _ _ _ h R hR
  simp only [zbgc, simprocAttr, *]
 ·cases h; subst hR; simp only [zbgc, simprocAttr, *]
theorem zbge : ∀ q, zbgb q
 | 0 => by intro M hM j hj; intros; rename_i h _ _ _ _ _; cases h
 | q + 1 => by have i0 := zbge q; exact zbgd q i0
theorem zbgf : ∀ (q N : Nat), 8 * q ≤ N → ∀ (a0 a1 : Int), ∀ (r : (Ow Int)), zk7 q a0 a1 = some r → (orc T N).deep F.zk7 [(V.int .u64) a0, (V.int .i64) a1] = some [(Ow.enc 1 (V.int .u8)) r] := by
 intro q N hM a0 a1 r h
 rcases q with _ | q
 ·cases h
 obtain ⟨M, rfl⟩ : ∃ M, N = M + 8 := ⟨N - 8, by omega⟩
 have zbhy := (zbge q)
 generalize hR : some [(Ow.enc 1 (V.int .u8)) r] = R
 rw [zhu, z6c, y4, zhs zzy rfl]
 rw [zk7] at h
 replace h := zbhy M (by omega) (M + 7) (by omega) _ _ _ _ _ _ h R hR
 simp only [zbgc, simprocAttr, *]
def zbgg := And.intro @kk <| And.intro @ke <| And.intro @kn <| And.intro @z8z <| And.intro @zbaf <| @z81
theorem zbgh : ∀ (q N : Nat), 8 * q ≤ N → ∀ (a0 : Int), ∀ (r : (Ow Int)), zk8 q a0 = some r → (orc T N).deep F.zk8 [(V.int .u32) a0] = some [(Ow.enc 1 (V.int .u8)) r] := by
 intro q N hM a0 r h
 rcases q with _ | q
 ·cases h
 obtain ⟨M, rfl⟩ : ∃ M, N = M + 8 := ⟨N - 8, by omega⟩
 generalize hR : some [(Ow.enc 1 (V.int .u8)) r] = R
 rw [zhu, z5v, y4, zhs zs9 rfl]
 rw [zk8] at h
 replace h := ob h; obtain ⟨r1, h1, h⟩ := h
 replace h1 := zbgf q (M + 7) (by omega) _ _ _ h1
 try simp only [kf, simprocAttr] at h1
 cases h; subst hR; simp only [zbgg, simprocAttr, *]
def zbgi := And.intro @kk <| And.intro @ke <| And.intro @kn <| And.intro @z92 <| And.intro @z80 <| And.intro @z83 <| And.intro @zbai <| @z94
theorem zbgj : ∀ (q N : Nat), 8 * q ≤ N → ∀ (a0 a1 : (Sl Int)), ∀ (r : (Ow Int)), zk9 q a0 a1 = some r → (orc T N).deep F.zk9 [(Sl.enc (V.int .u8)) a0, (Sl.enc (V.int .u8)) a1] = some [(Ow.enc 1 (V.int .u8)) r] := by
 intro q N hM a0 a1 r h
 rcases q with _ | q
 ·cases h
 obtain ⟨M, rfl⟩ : ∃ M, N = M + 8 := ⟨N - 8, by omega⟩
 generalize hR : some [(Ow.enc 1 (V.int .u8)) r] = R
 rw [zhu, z58, y4, zhs zya rfl]
 rw [zk9] at h
 replace h := ob h; obtain ⟨r1, h1, h⟩ := h
 replace h1 := zbga q (M + 7) (by omega) _ _ h1
 try simp only [kf, simprocAttr] at h1
 replace h := ob h; obtain ⟨r2, h2, h⟩ := h
 replace h2 := zbf8 q (M + 7) (by omega) _ _ _ h2
 try simp only [kf, simprocAttr] at h2
 replace h := ob h; obtain ⟨r3, h3, h⟩ := h
 replace h3 := zbgh q (M + 7) (by omega) _ _ h3
 try simp only [kf, simprocAttr] at h3
 cases h; subst hR; simp only [zbgi, simprocAttr, *]
def zbgk (q : Nat) : Prop := ∀ (M : Nat) (hM : 8 * q ≤ M) (j : Nat) (hj : q ≤ j) (w0 : Nat) (v1 : Int) (h0z : Bool) (h0l : List Int) (h0x : Bool) (r : (Ow Int)) (_ : zla q v1 h0z h0l h0x = some r) (R : Option (List V)) (_ : some [(Ow.enc 1 (V.int .u8)) r] = R) (fr : Fr) (H : Hp) (_ : canon 1 [0, 1] fr H = ([(0, (.vw 0 w0 0 h0l.length 1)), (1, (.int .u64 v1))], [(.row w0 h0z 1 (List.map (V.int .u8) h0l) h0x)])), fin zyn (unw T (orc T (M + 7)) (M + 7) 1 [.blk 0, .code zyk] (iter 1 [0, 1] (exec T (orc T (M + 7)) (M + 7) 1 zyi) j fr H)) = R
def zbgl := And.intro @kk <| And.intro @ke <| And.intro @kn <| And.intro @z95 <| @z97
theorem zbgm (q : Nat) (zbhz : zbgk q) : zbgk (q + 1) := by
 intro M hM j hj w0 v1 h0z h0l h0x r h R hR fr H hc
 obtain ⟨j, rfl⟩ : ∃ i, j = i + 1 := ⟨j - 1, by omega⟩
 rw [zhk, hc]; clear hc
 rw [zla] at h
 replace h := br h; rcases h with ⟨h1, h⟩ | ⟨h1, h⟩
 ·replace h := bn h; obtain ⟨h2, h⟩ := h
  replace h := zbhz M (by omega) j (by omega) (w0 + 1) _ _ _ _ _ h R hR
  simp only [zbgl, simprocAttr, *]
 ·replace h := bn h; obtain ⟨h3, h⟩ := h
  cases h; subst hR; simp only [zbgl, simprocAttr, *]
theorem zbgn : ∀ q, zbgk q
 | 0 => by intro M hM j hj; intros; rename_i h _ _ _ _ _; cases h
 | q + 1 => by have i0 := zbgn q; exact zbgm q i0
theorem zbgo : ∀ (q N : Nat), 8 * q ≤ N → ∀ (a0 : (Ow Int)) (a1 : Int), ∀ (r : (Ow Int)), zlb q a0 a1 = some r → (orc T N).deep F.zlb [(Ow.enc 1 (V.int .u8)) a0, (V.int .u64) a1] = some [(Ow.enc 1 (V.int .u8)) r] := by
 intro q N hM a0 a1 r h
 rcases q with _ | q
 ·cases h
 obtain ⟨M, rfl⟩ : ∃ M, N = M + 8 := ⟨N - 8, by omega⟩
 have zbhz := (zbgn q)
 generalize hR : some [(Ow.enc 1 (V.int .u8)) r] = R
 rw [zhu, z59, y4, zhs zyn rfl]
 rw [zlb] at h
 replace h := zbhz M (by omega) (M + 7) (by omega) 0 _ _ _ _ _ h R hR
 simp only [zbgl, simprocAttr, *]
def zbgp := And.intro @kk <| And.intro @ke <| And.intro @kn <| And.intro @z8t <| And.intro @z96 <| @z8v
theorem zbgq : ∀ (q N : Nat), 8 * q ≤ N → ∀ (a0 : (Ow Int)) (a1 : Int), ∀ (r : (Ow Int)), zlc q a0 a1 = some r → (orc T N).deep F.zlc [(Ow.enc 1 (V.int .u8)) a0, (V.int .i64) a1] = some [(Ow.enc 1 (V.int .u8)) r] := by
 intro q N hM a0 a1 r h
 rcases q with _ | q
 ·cases h
 obtain ⟨M, rfl⟩ : ∃ M, N = M + 8 := ⟨N - 8, by omega⟩
 generalize hR : some [(Ow.enc 1 (V.int .u8)) r] = R
 rw [zhu, z5t, y4, zhs zs5 rfl]
 rw [zlc] at h
 replace h := br h; rcases h with ⟨h1, h⟩ | ⟨h1, h⟩
 ·cases h; subst hR; simp only [zbgp, simprocAttr, *]
 ·replace h := br h; rcases h with ⟨h2, h⟩ | ⟨h2, h⟩
  ·cases h; subst hR; simp only [zbgp, simprocAttr, *]
  ·replace h := ob h; obtain ⟨r1, h3, h⟩ := h
   replace h3 := zbgo q (M + 7) (by omega) _ _ _ h3
   try simp only [kf, simprocAttr] at h3
   cases h; subst hR; simp only [zbgp, simprocAttr, *]
def zbgr := And.intro @kk <| And.intro @ke <| And.intro @kn <| And.intro @z98 <| @zbaa
theorem zbgs : ∀ (q N : Nat), 8 * q ≤ N → ∀ (a0 r : Int), zld q a0 = some r → (orc T N).deep F.zld [(V.int .i64) a0] = some [(V.int .u64) r] := by
 intro q N hM a0 r h
 rcases q with _ | q
 ·cases h
 obtain ⟨M, rfl⟩ : ∃ M, N = M + 8 := ⟨N - 8, by omega⟩
 generalize hR : some [(V.int .u64) r] = R
 rw [zhu, z6a, y4, zhs zys rfl]
 rw [zld] at h
 cases h; subst hR; simp only [zbgr, simprocAttr, *]
def zbgt := And.intro @kk <| And.intro @ke <| And.intro @kn <| And.intro @z70 <| And.intro @z96 <| And.intro @z99 <| @z72
theorem zbgu : ∀ (q N : Nat), 8 * q ≤ N → ∀ (a0 : (Ow Int)) (a1 : Int), ∀ (r : (Ow Int)), zle q a0 a1 = some r → (orc T N).deep F.zle [(Ow.enc 1 (V.int .u8)) a0, (V.int .i64) a1] = some [(Ow.enc 1 (V.int .u8)) r] := by
 intro q N hM a0 a1 r h
 rcases q with _ | q
 ·cases h
 obtain ⟨M, rfl⟩ : ∃ M, N = M + 8 := ⟨N - 8, by omega⟩
 generalize hR : some [(Ow.enc 1 (V.int .u8)) r] = R
 rw [zhu, z5j, y4, zhs zra rfl]
 rw [zle] at h
 replace h := ob h; obtain ⟨r1, h1, h⟩ := h
 replace h1 := zbgs q (M + 7) (by omega) _ _ h1
 replace h := ob h; obtain ⟨r2, h2, h⟩ := h
 replace h2 := zbgo q (M + 7) (by omega) _ _ _ h2
 try simp only [kf, simprocAttr] at h2
 cases h; subst hR; simp only [zbgt, simprocAttr, *]
def zbgv (q : Nat) : Prop := ∀ (M : Nat) (hM : 8 * q ≤ M) (j : Nat) (hj : q ≤ j) (v0z : Bool) (v0l : List (Sl Int)) (v3 : Int) (v9z : Bool) (v9l : List (Sl Int)) (v10 v11 : Int) (r : (Ow Int)) (_ : zli q v0z v0l v3 v9z v9l v10 v11 = some r) (R : Option (List V)) (_ : some [(Ow.enc 1 (V.int .u8)) r] = R) (fr : Fr) (H : Hp) (_ : canon 0 [0, 3, 9, 10, 11] fr H = ([(0, (.sl v0z (List.map (Sl.enc (V.int .u8)) v0l))), (3, (.int .i64 v3)), (9, (.sl v9z (List.map (Sl.enc (V.int .u8)) v9l))), (10, (.int .i64 v10)), (11, (.int .i64 v11))], [])), fin zt2 (unw T (orc T (M + 7)) (M + 7) 0 [.blk 0, .code zty] (iter 0 [0, 3, 9, 10, 11] (exec T (orc T (M + 7)) (M + 7) 0 zth) j fr H)) = R
def zbgw (q : Nat) : Prop := ∀ (M : Nat) (hM : 8 * q ≤ M) (j : Nat) (hj : q ≤ j) (v6len : Nat) (v25z : Bool) (v25l : List (Sl Int)) (v26 v27 : Int) (h0z : Bool) (h0l : List Int) (r : (Ow Int)) (_ : zlf q v6len v25z v25l v26 v27 h0z h0l = some r) (R : Option (List V)) (_ : some [(Ow.enc 1 (V.int .u8)) r] = R) (fr : Fr) (H : Hp) (_ : canon 0 [6, 25, 26, 27] fr H = ([(6, (.vw 0 0 0 v6len 0)), (25, (.sl v25z (List.map (Sl.enc (V.int .u8)) v25l))), (26, (.int .i64 v26)), (27, (.int .i64 v27))], [(.row 0 h0z 1 (List.map (V.int .u8) h0l) true)])), fin zt2 (unw T (orc T (M + 7)) (M + 7) 0 [.blk 2, .code ztw] (iter 0 [6, 25, 26, 27] (exec T (orc T (M + 7)) (M + 7) 0 ztt) j fr H)) = R
def zbgx (q : Nat) : Prop := ∀ (M : Nat) (hM : 8 * q ≤ M) (j : Nat) (hj : q ≤ j) (v25z : Bool) (v25l : List (Sl Int)) (v26 : Int) (r : (Ow Int)) (_ : zlh q v25z v25l v26 = some r) (R : Option (List V)) (_ : some [(Ow.enc 1 (V.int .u8)) r] = R) (fr : Fr) (H : Hp) (_ : canon 0 [6, 25, 26, 27] fr H = ([(6, (.sl true [])), (25, (.sl v25z (List.map (Sl.enc (V.int .u8)) v25l))), (26, (.int .i64 v26)), (27, (.int .i64 0))], [])), fin zt2 (unw T (orc T (M + 7)) (M + 7) 0 [.blk 2, .code ztw] (iter 0 [6, 25, 26, 27] (exec T (orc T (M + 7)) (M + 7) 0 ztt) j fr H)) = R
def zbgy (q : Nat) : Prop := ∀ (M : Nat) (hM : 8 * q ≤ M) (j : Nat) (hj : q ≤ j) (v25z : Bool) (v25l : List (Sl Int)) (v26 v27 : Int) (h0z : Bool) (h0l : List Int) (r : (Ow Int)) (_ : zlg q v25z v25l v26 v27 h0z h0l = some r) (R : Option (List V)) (_ : some [(Ow.enc 1 (V.int .u8)) r] = R) (fr : Fr) (H : Hp) (_ : canon 0 [6, 25, 26, 27] fr H = ([(6, (.vw 0 0 0 h0l.length 1)), (25, (.sl v25z (List.map (Sl.enc (V.int .u8)) v25l))), (26, (.int .i64 v26)), (27, (.int .i64 v27))], [(.row 0 h0z 1 (List.map (V.int .u8) h0l) true)])), fin zt2 (unw T (orc T (M + 7)) (M + 7) 0 [.blk 2, .code ztw] (iter 0 [6, 25, 26, 27] (exec T (orc T (M + 7)) (M + 7) 0 ztt) j fr H)) = R
def zbgz := And.intro @kk <| And.intro @ke <| And.intro @kn <| And.intro @z85 <| And.intro @zbak <| And.intro @zbal <| And.intro @zbam <| @z87
theorem zbg0 (q : Nat) (zbh0 : zbgv q) (zbh1 : zbgw q) (zbh2 : zbgx q) : zbgv (q + 1) := by
 intro M hM j hj v0z v0l v3 v9z v9l v10 v11 r h R hR fr H hc
 obtain ⟨j, rfl⟩ : ∃ i, j = i + 1 := ⟨j - 1, by omega⟩
 rw [zhk, hc]; clear hc
 rw [zli] at h
 replace h := br h; rcases h with ⟨h1, h⟩ | ⟨h1, h⟩
 ·replace h := bn h; obtain ⟨h2, h⟩ := h
  replace h := ob h; obtain ⟨e1, h3, h⟩ := h
  replace h := bm h; obtain ⟨h4, h⟩ := h
  replace h := zbh0 M (by omega) j (by omega) _ _ _ _ _ _ _ _ h R hR
  simp only [zbgz, simprocAttr, *]
 ·replace h := bm h; obtain ⟨h5, h⟩ := h
  replace h := br h; rcases h with ⟨h6, h⟩ | ⟨h6, h⟩
  ·replace h := bn h; obtain ⟨h7, h⟩ := h
   replace h := bn h; obtain ⟨h8, h⟩ := h
   replace h := bm h; obtain ⟨h9, h⟩ := h
   replace h := zbh1 M (by omega) (M + 7) (by omega) _ _ _ _ _ _ _ _ h R hR
   simp only [zbgz, simprocAttr, *]
  ·replace h := zbh2 M (by omega) (M + 7) (by omega) _ _ _ _ h R hR
   simp only [zbgz, simprocAttr, *]
theorem zbg1 (q : Nat) (zbh1 : zbgw q) : zbgw (q + 1) := by
 intro M hM j hj v6len v25z v25l v26 v27 h0z h0l r h R hR fr H hc
 obtain ⟨j, rfl⟩ : ∃ i, j = i + 1 := ⟨j - 1, by omega⟩
 rw [zhk, hc]; clear hc
 rw [zlf] at h
 replace h := br h; rcases h with ⟨h1, h⟩ | ⟨h1, h⟩
 ·replace h := bn h; obtain ⟨h2, h⟩ := h
  replace h := ob h; obtain ⟨e2, h3, h⟩ := h
  replace h := bn h; obtain ⟨h4, h⟩ := h
  replace h := zbh1 M (by omega) j (by omega) _ _ _ _ _ _ _ _ h R hR
  simp only [zbgz, simprocAttr, *]
 ·cases h; subst hR; simp only [zbgz, simprocAttr, *]
theorem zbg2 (q : Nat) (zbh3 : zbgy q) : zbgx (q + 1) := by
 intro M hM j hj v25z v25l v26 r h R hR fr H hc
 obtain ⟨j, rfl⟩ : ∃ i, j = i + 1 := ⟨j - 1, by omega⟩
 rw [zhk, hc]; clear hc
 rw [zlh] at h
 replace h := br h; rcases h with ⟨h1, h⟩ | ⟨h1, h⟩
 ·replace h := ob h; obtain ⟨e3, h2, h⟩ := h
  replace h := bn h; obtain ⟨h3, h⟩ := h
  replace h := zbh3 M (by omega) j (by omega) _ _ _ _ _ _ _ h R hR
  simp only [zbgz, simprocAttr, *]
 ·cases h; subst hR; simp only [zbgz, simprocAttr, *]
theorem zbg3 (q : Nat) (zbh3 : zbgy q) : zbgy (q + 1) := by
 intro M hM j hj v25z v25l v26 v27 h0z h0l r h R hR fr H hc
 obtain ⟨j, rfl⟩ : ∃ i, j = i + 1 := ⟨j - 1, by omega⟩
 rw [zhk, hc]; clear hc
 rw [zlg] at h
 replace h := br h; rcases h with ⟨h1, h⟩ | ⟨h1, h⟩
 ·replace h := bn h; obtain ⟨h2, h⟩ := h
  replace h := ob h; obtain ⟨e4, h3, h⟩ := h
  replace h := bn h; obtain ⟨h4, h⟩ := h
  replace h := zbh3 M (by omega) j (by omega) _ _ _ _ _ _ _ h R hR
  simp only [zbgz, simprocAttr, *]
 ·cases h; subst hR; simp only [zbgz, simprocAttr, *]
theorem zbg4 : ∀ q, zbgv q ∧ zbgw q ∧ zbgx q ∧ zbgy q
 | 0 => by refine ⟨?_, ?_, ?_, ?_⟩ <;> (intro M hM j hj; intros; rename_i h _ _ _ _ _; cases h)
 | q + 1 => by have ⟨i0, i1, i2, i3⟩ := zbg4 q; exact ⟨zbg0 q i0 i1 i2, zbg1 q i1, zbg2 q i3, zbg3 q i3⟩
theorem zbg5 : ∀ (q N : Nat), 8 * q ≤ N → ∀ (a0 : (Sl (Sl Int))), ∀ (r : (Ow Int)), zlj q a0 = some r → (orc T N).deep F.zlj [(Sl.enc (Sl.enc (V.int .u8))) a0] = some [(Ow.enc 1 (V.int .u8)) r] := by
 intro q N hM a0 r h
 rcases q with _ | q
 ·cases h
 obtain ⟨M, rfl⟩ : ∃ M, N = M + 8 := ⟨N - 8, by omega⟩
 have zbh0 := (zbg4 q).1
 generalize hR : some [(Ow.enc 1 (V.int .u8)) r] = R
 rw [zhu, z5x, y4, zhs zt2 rfl]
 rw [zlj] at h
 replace h := zbh0 M (by omega) (M + 7) (by omega) _ _ _ _ _ _ _ _ h R hR
 simp only [zbgz, simprocAttr, *]
def zbg6 := And.intro @kk <| And.intro @ke <| And.intro @kn <| And.intro @z73 <| And.intro @z8u <| And.intro @z86 <| And.intro @z93 <| @z75
theorem zbg7 : ∀ (q N : Nat), 8 * q ≤ N → ∀ (a0 : (Sl Int)), ∀ (r : (Ow Int) × Int), zlk q a0 = some r → (orc T N).deep F.zlk [(Sl.enc (V.int .u8)) a0] = some [(Ow.enc 1 (V.int .u8)) r.1, (V.int .i64) r.2] := by
 intro q N hM a0 r h
 rcases q with _ | q
 ·cases h
 obtain ⟨M, rfl⟩ : ∃ M, N = M + 8 := ⟨N - 8, by omega⟩
 generalize hR : some [(Ow.enc 1 (V.int .u8)) r.1, (V.int .i64) r.2] = R
 rw [zhu, z5k, y4, zhs zrc rfl]
 rw [zlk] at h
 replace h := br h; rcases h with ⟨h1, h⟩ | ⟨h1, h⟩
 ·cases h; subst hR; simp only [zbg6, simprocAttr, *]
 ·replace h := ob h; obtain ⟨r1, h2, h⟩ := h
  replace h2 := zbgq q (M + 7) (by omega) _ _ _ h2
  try simp only [kf, simprocAttr] at h2
  replace h := ob h; obtain ⟨r2, h3, h⟩ := h
  replace h3 := zbgj q (M + 7) (by omega) _ _ _ h3
  try simp only [kf, simprocAttr] at h3
  replace h := ob h; obtain ⟨r3, h4, h⟩ := h
  replace h4 := zbg5 q (M + 7) (by omega) _ _ h4
  try simp only [kf, simprocAttr] at h4
  cases h; subst hR; simp only [zbg6, simprocAttr, *]
def zbg8 := And.intro @kk <| And.intro @ke <| And.intro @kn <| And.intro @zba5 <| @zba7
theorem zbg9 : ∀ (q N : Nat), 8 * q ≤ N → ∀ (a0 : zjm), ∀ (r : Int), zll q a0 = some r → (orc T N).deep F.zll [zjm.enc a0] = some [(V.int .i64) r] := by
 intro q N hM a0 r h
 rcases q with _ | q
 ·cases h
 obtain ⟨M, rfl⟩ : ∃ M, N = M + 8 := ⟨N - 8, by omega⟩
 generalize hR : some [(V.int .i64) r] = R
 rw [zhu, z6l, y4, zhs z34 rfl]
 rw [zll] at h
 replace h := bb h; rcases h with ⟨h1', h1, h⟩ | ⟨h1', h1, h⟩
 ·cases h; subst hR; simp only [zbg8, simprocAttr, *]
 ·cases h; subst hR; simp only [zbg8, simprocAttr, *]
def zbha (q : Nat) : Prop := ∀ (M : Nat) (hM : 8 * q ≤ M) (j : Nat) (hj : q ≤ j) (v21z : Bool) (v21l : List Int) (v22 v23 : Int) (h0z : Bool) (h0l : List Int) (h0x : Bool) (r : (Ow Int) × Int) (_ : zlm q v21z v21l v22 v23 h0z h0l h0x = some r) (R : Option (List V)) (_ : some [(Ow.enc 1 (V.int .u8)) r.1, (V.int .i64) r.2] = R) (fr : Fr) (H : Hp) (_ : canon 0 [4, 21, 22, 23] fr H = ([(4, (.vw 0 0 0 h0l.length 1)), (21, (.sl v21z (List.map (V.int .i64) v21l))), (22, (.int .i64 v22)), (23, (.int .i64 v23))], [(.row 0 h0z 1 (List.map (V.int .u8) h0l) h0x)])), fin zzf (unw T (orc T (M + 7)) (M + 7) 0 [.blk 0, .code zza] (iter 0 [4, 21, 22, 23] (exec T (orc T (M + 7)) (M + 7) 0 zy7) j fr H)) = R
def zbhb := And.intro @kk <| And.intro @ke <| And.intro @kn <| And.intro @zbab <| And.intro @z7m <| And.intro @z71 <| And.intro @z8u <| And.intro @zba6 <| @zbad
theorem zbhc (q : Nat) (zbh4 : zbha q) : zbha (q + 1) := by
 intro M hM j hj v21z v21l v22 v23 h0z h0l h0x r h R hR fr H hc
 obtain ⟨j, rfl⟩ : ∃ i, j = i + 1 := ⟨j - 1, by omega⟩
 rw [zhk, hc]; clear hc
 rw [zlm] at h
 replace h := br h; rcases h with ⟨h1, h⟩ | ⟨h1, h⟩
 ·replace h := bn h; obtain ⟨h2, h⟩ := h
  replace h := ob h; obtain ⟨e6, h3, h⟩ := h
  replace h := ob h; obtain ⟨r7, h4, h⟩ := h
  replace h4 := zbgu q (M + 7) (by omega) _ _ _ h4
  try simp only [kf, simprocAttr] at h4
  replace h := zbh4 M (by omega) j (by omega) _ _ _ _ _ _ _ _ h R hR
  simp only [zbhb, simprocAttr, *]
 ·cases h; subst hR; simp only [zbhb, simprocAttr, *]
theorem zbhd : ∀ q, zbha q
 | 0 => by intro M hM j hj; intros; rename_i h _ _ _ _ _; cases h
 | q + 1 => by have i0 := zbhd q; exact zbhc q i0
theorem zbhe : ∀ (q N : Nat), 8 * q ≤ N → ∀ (a0 : zjm), ∀ (r : (Ow Int) × Int), zln q a0 = some r → (orc T N).deep F.zln [zjm.enc a0] = some [(Ow.enc 1 (V.int .u8)) r.1, (V.int .i64) r.2] := by
 intro q N hM a0 r h
 rcases q with _ | q
 ·cases h
 obtain ⟨M, rfl⟩ : ∃ M, N = M + 8 := ⟨N - 8, by omega⟩
 have zbh4 := (zbhd q)
 generalize hR : some [(Ow.enc 1 (V.int .u8)) r.1, (V.int .i64) r.2] = R
 rw [zhu, z6b, y4, zhs zzf rfl]
 rw [zln] at h
 replace h := ob h; obtain ⟨r1, h1, h⟩ := h
 replace h1 := zbdr q (M + 7) (by omega) _ _ h1
 try simp only [kf, simprocAttr] at h1
 replace h := bb h; rcases h with ⟨h2', h2, h⟩ | ⟨h2', h2, h⟩
 ·replace h := ob h; obtain ⟨r2, h3, h⟩ := h
  replace h3 := zbgq q (M + 7) (by omega) _ _ _ h3
  try simp only [kf, simprocAttr] at h3
  replace h := ob h; obtain ⟨r3, h4, h⟩ := h
  replace h4 := zbg9 q (M + 7) (by omega) _ _ h4
  try simp only [kf, simprocAttr] at h4
  replace h := ob h; obtain ⟨r4, h5, h⟩ := h
  replace h5 := zbgq q (M + 7) (by omega) _ _ _ h5
  try simp only [kf, simprocAttr] at h5
  replace h := ob h; obtain ⟨r5, h6, h⟩ := h
  replace h6 := zbgq q (M + 7) (by omega) _ _ _ h6
  try simp only [kf, simprocAttr] at h6
  replace h := zbh4 M (by omega) (M + 7) (by omega) _ _ _ _ _ _ _ _ h R hR
  simp only [zbhb, simprocAttr, *]
 ·cases h; subst hR; simp only [zbhb, simprocAttr, *]
def zbhf (q : Nat) : Prop := ∀ (M : Nat) (hM : 8 * q ≤ M) (j : Nat) (hj : q ≤ j) (v24z : Bool) (v24l : List zjn) (v25 v26 : Int) (h0z : Bool) (h0l : List Int) (h0x : Bool) (r : (Ow Int)) (_ : zlo q v24z v24l v25 v26 h0z h0l h0x = some r) (R : Option (List V)) (_ : some [(Ow.enc 1 (V.int .u8)) r] = R) (fr : Fr) (H : Hp) (_ : canon 0 [5, 24, 25, 26] fr H = ([(5, (.vw 0 0 0 h0l.length 1)), (24, (.sl v24z (List.map zjn.enc v24l))), (25, (.int .i64 v25)), (26, (.int .i64 v26))], [(.row 0 h0z 1 (List.map (V.int .u8) h0l) h0x)])), fin zs3 (unw T (orc T (M + 7)) (M + 7) 0 [.blk 0, .code zsy] (iter 0 [5, 24, 25, 26] (exec T (orc T (M + 7)) (M + 7) 0 zsv) j fr H)) = R
def zbhg := And.intro @kk <| And.intro @ke <| And.intro @kn <| And.intro @z8q <| And.intro @z71 <| And.intro @z8u <| And.intro @zbac <| @z8s
theorem zbhh (q : Nat) (zbh5 : zbhf q) : zbhf (q + 1) := by
 intro M hM j hj v24z v24l v25 v26 h0z h0l h0x r h R hR fr H hc
 obtain ⟨j, rfl⟩ : ∃ i, j = i + 1 := ⟨j - 1, by omega⟩
 rw [zhk, hc]; clear hc
 rw [zlo] at h
 replace h := br h; rcases h with ⟨h1, h⟩ | ⟨h1, h⟩
 ·replace h := bn h; obtain ⟨h2, h⟩ := h
  replace h := ob h; obtain ⟨e4, h3, h⟩ := h
  replace h := ob h; obtain ⟨r5, h4, h⟩ := h
  replace h4 := zbgq q (M + 7) (by omega) _ _ _ h4
  try simp only [kf, simprocAttr] at h4
  replace h := ob h; obtain ⟨r6, h5, h⟩ := h
  replace h5 := zbgq q (M + 7) (by omega) _ _ _ h5
  try simp only [kf, simprocAttr] at h5
  replace h := ob h; obtain ⟨r7, h6, h⟩ := h
  replace h6 := zbgu q (M + 7) (by omega) _ _ _ h6
  try simp only [kf, simprocAttr] at h6
  replace h := zbh5 M (by omega) j (by omega) _ _ _ _ _ _ _ _ h R hR
  simp only [zbhg, simprocAttr, *]
 ·cases h; subst hR; simp only [zbhg, simprocAttr, *]
theorem zbhi : ∀ q, zbhf q
 | 0 => by intro M hM j hj; intros; rename_i h _ _ _ _ _; cases h
 | q + 1 => by have i0 := zbhi q; exact zbhh q i0
theorem zbhj : ∀ (q N : Nat), 8 * q ≤ N → ∀ (a0 : zjo), ∀ (r : (Ow Int)), zlp q a0 = some r → (orc T N).deep F.zlp [zjo.enc a0] = some [(Ow.enc 1 (V.int .u8)) r] := by
 intro q N hM a0 r h
 rcases q with _ | q
 ·cases h
 obtain ⟨M, rfl⟩ : ∃ M, N = M + 8 := ⟨N - 8, by omega⟩
 have zbh5 := (zbhi q)
 generalize hR : some [(Ow.enc 1 (V.int .u8)) r] = R
 rw [zhu, z5s, y4, zhs zs3 rfl]
 rw [zlp] at h
 replace h := ob h; obtain ⟨r1, h1, h⟩ := h
 replace h1 := zbhe q (M + 7) (by omega) _ _ h1
 try simp only [kf, simprocAttr] at h1
 replace h := ob h; obtain ⟨r2, h2, h⟩ := h
 replace h2 := zbgq q (M + 7) (by omega) _ _ _ h2
 try simp only [kf, simprocAttr] at h2
 replace h := bn h; obtain ⟨h3, h⟩ := h
 replace h := ob h; obtain ⟨r3, h4, h⟩ := h
 replace h4 := zbgq q (M + 7) (by omega) _ _ _ h4
 try simp only [kf, simprocAttr] at h4
 replace h := zbh5 M (by omega) (M + 7) (by omega) _ _ _ _ _ _ _ _ h R hR
 simp only [zbhg, simprocAttr, *]
def zbhk := And.intro @kk <| And.intro @ke <| And.intro @kn <| And.intro @z8w <| And.intro @z74 <| @z8y
theorem zbhl : ∀ (q N : Nat), 8 * q ≤ N → ∀ (a0 : (Sl Int)), ∀ (r : (Ow Int)), zlq q a0 = some r → (orc T N).deep F.zlq [(Sl.enc (V.int .u8)) a0] = some [(Ow.enc 1 (V.int .u8)) r] := by
 intro q N hM a0 r h
 rcases q with _ | q
 ·cases h
 obtain ⟨M, rfl⟩ : ∃ M, N = M + 8 := ⟨N - 8, by omega⟩
 generalize hR : some [(Ow.enc 1 (V.int .u8)) r] = R
 rw [zhu, z5u, y4, zhs zs7 rfl]
 rw [zlq] at h
 replace h := ob h; obtain ⟨r1, h1, h⟩ := h
 replace h1 := zbg7 q (M + 7) (by omega) _ _ h1
 try simp only [kf, simprocAttr] at h1
 cases h; subst hR; simp only [zbhk, simprocAttr, *]
end Go.Dvm.C
