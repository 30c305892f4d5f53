/- The machine comes to these answers: part 1. -/
import Derived.Test.YtngajodhbioheaaQl0
set_option linter.all false
set_option maxRecDepth 100000
set_option maxHeartbeats 4000000
namespace Go.Dvm.C
open Go Go.Dvm Go.Dvm.I
def zbck := And.intro @kk <| And.intro @ke <| And.intro @kn <| And.intro @z8n <| @z8p
theorem zbcl : ∀ (q N : Nat), 8 * q ≤ N → ∀ (a0 r : Int), zjs q a0 = some r → (orc T N).deep F.zjs [(V.int .i64) a0] = some [(V.int .i64) r] := by
 intro q N hM a0 r h
 rcases q with _ | q
 ·cases h
 obtain ⟨M, rfl⟩ : ∃ M, N = M + 8 := ⟨N - 8, by omega⟩
 generalize hR : some [(V.int .i64) r] = R
 rw [zhu, z5c, y4, zhs ztl rfl]
 rw [zjs] at h
 cases h; subst hR; simp only [zbck, simprocAttr, *]
def zbcm := And.intro @kk <| And.intro @ke <| And.intro @kn <| And.intro @z8k <| And.intro @z8o <| @z8m
theorem zbcn : ∀ (q N : Nat), 8 * q ≤ N → ∀ (a0 : Int), ∀ (r : Bool), zjt q a0 = some r → (orc T N).deep F.zjt [(V.int .i64) a0] = some [V.bool r] := by
 intro q N hM a0 r h
 rcases q with _ | q
 ·cases h
 obtain ⟨M, rfl⟩ : ∃ M, N = M + 8 := ⟨N - 8, by omega⟩
 generalize hR : some [V.bool r] = R
 rw [zhu, z5b, y4, zhs ztj rfl]
 rw [zjt] at h
 replace h := ob h; obtain ⟨r1, h1, h⟩ := h
 replace h1 := zbcl q (M + 7) (by omega) _ _ h1
 cases h; subst hR; simp only [zbcm, simprocAttr, *]
def zbco (q : Nat) : Prop := ∀ (M : Nat) (hM : 8 * q ≤ M) (j : Nat) (hj : q ≤ j) (v0z : Bool) (v0l : List Int) (v1 v5 v6 : Int) (r : Bool) (_ : zju q v0z v0l v1 v5 v6 = some r) (R : Option (List V)) (_ : some [V.bool r] = R) (fr : Fr) (H : Hp) (_ : canon 0 [0, 1, 5, 6] fr H = ([(0, (.sl v0z (List.map (V.int .i64) v0l))), (1, (.int .i64 v1)), (5, (.int .i64 v5)), (6, (.int .i64 v6))], [])), fin ztx (unw T (orc T (M + 7)) (M + 7) 0 [.blk 0, .code ztt] (iter 0 [0, 1, 5, 6] (exec T (orc T (M + 7)) (M + 7) 0 ztq) j fr H)) = R
def zbcp := And.intro @kk <| And.intro @ke <| And.intro @kn <| And.intro @z8q <| @z8s
theorem zbcq (q : Nat) (zbgq : zbco q) : zbco (q + 1) := by
 intro M hM j hj v0z v0l v1 v5 v6 r h R hR fr H hc
 obtain ⟨j, rfl⟩ : ∃ i, j = i + 1 := ⟨j - 1, by omega⟩
 rw [zhk, hc]; clear hc
 rw [zju] at h
 replace h := br h; rcases h with ⟨h1, h⟩ | ⟨h1, h⟩
 ·replace h := bn h; obtain ⟨h2, h⟩ := h
  replace h := ob h; obtain ⟨e1, h3, h⟩ := h
  replace h := br h; rcases h with ⟨h4, h⟩ | ⟨h4, h⟩
  ·cases h; subst hR; simp only [zbcp, simprocAttr, *]
  ·replace h := br h; rcases h with ⟨h5, h⟩ | ⟨h5, h⟩
   ·cases h; subst hR; simp only [zbcp, simprocAttr, *]
   ·replace h := bn h; obtain ⟨h6, h⟩ := h
    replace h := ob h; obtain ⟨e2, h7, h⟩ := h
    replace h := br h; rcases h with ⟨h8, h⟩ | ⟨h8, h⟩
    ·cases h; subst hR; simp only [zbcp, simprocAttr, *]
    ·replace h := br h; rcases h with ⟨h9, h⟩ | ⟨h9, h⟩
     ·cases h; subst hR; simp only [zbcp, simprocAttr, *]
     ·replace h := zbgq M (by omega) j (by omega) _ _ _ _ _ _ h R hR
      simp only [zbcp, simprocAttr, *]
 ·replace h := br h; rcases h with ⟨h10, h⟩ | ⟨h10, h⟩
  ·cases h; subst hR; simp only [zbcp, simprocAttr, *]
  ·cases h; subst hR; simp only [zbcp, simprocAttr, *]
theorem zbcr : ∀ q, zbco q
 | 0 => by intro M hM j hj; intros; rename_i h _ _ _ _ _; cases h
 | q + 1 => by have i0 := zbcr q; exact zbcq q i0
theorem zbcs : ∀ (q N : Nat), 8 * q ≤ N → ∀ (a0 : (Sl Int)) (a1 : Int), ∀ (r : Bool), zjv q a0 a1 = some r → (orc T N).deep F.zjv [(Sl.enc (V.int .i64)) a0, (V.int .i64) a1] = some [V.bool r] := by
 intro q N hM a0 a1 r h
 rcases q with _ | q
 ·cases h
 obtain ⟨M, rfl⟩ : ∃ M, N = M + 8 := ⟨N - 8, by omega⟩
 have zbgq := (zbcr q)
 generalize hR : some [V.bool r] = R
 rw [zhu, z5d, y4, zhs ztx rfl]
 rw [zjv] at h
 replace h := zbgq M (by omega) (M + 7) (by omega) _ _ _ _ _ _ h R hR
 simp only [zbcp, simprocAttr, *]
def zbct (q : Nat) : Prop := ∀ (M : Nat) (hM : 8 * q ≤ M) (j : Nat) (hj : q ≤ j) (v0z : Bool) (v0l : List Int) (v7 v8 h0_0 : Int) (h0_1z : Bool) (h0_1l : List Int) (h0_2 : Bool) (h0_3 r : Int) (_ : zjw q v0z v0l v7 v8 h0_0 h0_1z h0_1l h0_2 h0_3 = some r) (R : Option (List V × Hp)) (_ : (some ([(.int .i64 r)], [(.box [(.int .i64 h0_0), (.sl h0_1z (List.map (V.int .i64) h0_1l)), (.bool h0_2), (.int .i64 h0_3)])]) : Option (List V × Hp)) = R) (fr : Fr) (H : Hp) (_ : canon 1 [0, 1, 7, 8] fr H = ([(0, (.sl v0z (List.map (V.int .i64) v0l))), (1, (.fn F.zjt [])), (7, (.int .i64 v7)), (8, (.int .i64 v8))], [(.box [(.int .i64 h0_0), (.sl h0_1z (List.map (V.int .i64) h0_1l)), (.bool h0_2), (.int .i64 h0_3)])])), finI 1 false [.tmp 4] (unw T (orc T (M + 5)) (M + 5) 1 [.blk 0, .code z0q] (iter 1 [0, 1, 7, 8] (exec T (orc T (M + 5)) (M + 5) 1 z0n) j fr H)) = R
def zbcu := And.intro @kk <| And.intro @ke <| And.intro @kn <| And.intro @z9w <| @z8l
theorem zbcv (q : Nat) (zbgr : zbct q) : zbct (q + 1) := by
 intro M hM j hj v0z v0l v7 v8 h0_0 h0_1z h0_1l h0_2 h0_3 r h R hR fr H hc
 obtain ⟨j, rfl⟩ : ∃ i, j = i + 1 := ⟨j - 1, by omega⟩
 rw [zhk, hc]; clear hc
 rw [zjw] at h
 replace h := br h; rcases h with ⟨h1, h⟩ | ⟨h1, h⟩
 ·replace h := bn h; obtain ⟨h2, h⟩ := h
  replace h := ob h; obtain ⟨e1, h3, h⟩ := h
  replace h := ob h; obtain ⟨r2, h4, h⟩ := h
  replace h4 := zbcn q (M + 5) (by omega) _ _ h4
  replace h := bb h; rcases h with ⟨h5', h5, h⟩ | ⟨h5', h5, h⟩
  ·cases h; subst hR; simp only [zbcu, simprocAttr, *]
  ·replace h := zbgr M (by omega) j (by omega) _ _ _ _ _ _ _ _ _ _ h R hR
   simp only [zbcu, simprocAttr, *]
 ·cases h; subst hR; simp only [zbcu, simprocAttr, *]
theorem zbcw : ∀ q, zbct q
 | 0 => by intro M hM j hj; intros; rename_i h _ _ _ _ _; cases h
 | q + 1 => by have i0 := zbcw q; exact zbcv q i0
theorem zbcx : ∀ (q M : Nat), 8 * q ≤ M → ∀ (v0z : Bool), ∀ (v0l : List Int), ∀ (h0_0 : Int), ∀ (h0_1z : Bool), ∀ (h0_1l : List Int), ∀ (h0_2 : Bool), ∀ (h0_3 r : Int), zjx q v0z v0l h0_0 h0_1z h0_1l h0_2 h0_3 = some r → (orc T (M + 6)).inl F.zl5 [(.sl v0z (List.map (V.int .i64) v0l)), (.fn F.zjt [])] [(.box [(.int .i64 h0_0), (.sl h0_1z (List.map (V.int .i64) h0_1l)), (.bool h0_2), (.int .i64 h0_3)])] = (some ([(.int .i64 r)], [(.box [(.int .i64 h0_0), (.sl h0_1z (List.map (V.int .i64) h0_1l)), (.bool h0_2), (.int .i64 h0_3)])]) : Option (List V × Hp)) := by
 intro q M hM v0z v0l h0_0 h0_1z h0_1l h0_2 h0_3 r h
 rcases q with _ | q
 ·cases h
 have zbgr := (zbcw q)
 generalize hR : (some ([(.int .i64 r)], [(.box [(.int .i64 h0_0), (.sl h0_1z (List.map (V.int .i64) h0_1l)), (.bool h0_2), (.int .i64 h0_3)])]) : Option (List V × Hp)) = R
 rw [z9y (n := M + 5)]
 rw [zjx] at h
 replace h := zbgr M (by omega) (M + 5) (by omega) _ _ _ _ _ _ _ _ _ _ h R hR
 simp only [zbcu, simprocAttr, *]
def zbcy := And.intro @kk <| And.intro @ke <| And.intro @kn <| And.intro @z6u <| And.intro @z8h <| And.intro @z8r <| And.intro @z9x <| And.intro @z8i <| And.intro @z8j <| @z6w
theorem zbcz : ∀ (q N : Nat), 8 * q ≤ N → ∀ (a0 : zjl), ∀ (r : Bool), zjy q a0 = some r → (orc T N).deep F.zjy [zjl.enc a0] = some [V.bool r] := by
 intro q N hM a0 r h
 rcases q with _ | q
 ·cases h
 obtain ⟨M, rfl⟩ : ∃ M, N = M + 8 := ⟨N - 8, by omega⟩
 generalize hR : some [V.bool r] = R
 rw [zhu, z4q, y4, zhs zo3 rfl]
 rw [zjy] at h
 replace h := br h; rcases h with ⟨h1, h⟩ | ⟨h1, h⟩
 ·cases h; subst hR; simp only [zbcy, simprocAttr, *]
 ·replace h := br h; rcases h with ⟨h2, h⟩ | ⟨h2, h⟩
  ·cases h; subst hR; simp only [zbcy, simprocAttr, *]
  ·replace h := bb h; rcases h with ⟨h3', h3, h⟩ | ⟨h3', h3, h⟩
   ·replace h := ob h; obtain ⟨r1, h4, h⟩ := h
    replace h4 := zbcx q M (by omega) _ _ _ _ _ _ _ _ h4
    try simp only [kf, simprocAttr] at h4
    replace h := br h; rcases h with ⟨h5, h⟩ | ⟨h5, h⟩
    ·replace h := br h; rcases h with ⟨h6, h⟩ | ⟨h6, h⟩
     ·cases h; subst hR; simp only [zbcy, simprocAttr, *]
     ·cases h; subst hR; simp only [zbcy, simprocAttr, *]
    ·replace h := br h; rcases h with ⟨h7, h⟩ | ⟨h7, h⟩
     ·replace h := br h; rcases h with ⟨h8, h⟩ | ⟨h8, h⟩
      ·cases h; subst hR; simp only [zbcy, simprocAttr, *]
      ·cases h; subst hR; simp only [zbcy, simprocAttr, *]
     ·replace h := br h; rcases h with ⟨h9, h⟩ | ⟨h9, h⟩
      ·replace h := br h; rcases h with ⟨h10, h⟩ | ⟨h10, h⟩
       ·cases h; subst hR; simp only [zbcy, simprocAttr, *]
       ·cases h; subst hR; simp only [zbcy, simprocAttr, *]
      ·replace h := br h; rcases h with ⟨h11, h⟩ | ⟨h11, h⟩
       ·replace h := br h; rcases h with ⟨h12, h⟩ | ⟨h12, h⟩
        ·cases h; subst hR; simp only [zbcy, simprocAttr, *]
        ·cases h; subst hR; simp only [zbcy, simprocAttr, *]
       ·replace h := br h; rcases h with ⟨h13, h⟩ | ⟨h13, h⟩
        ·replace h := ob h; obtain ⟨r2, h14, h⟩ := h
         replace h14 := zbcs q (M + 7) (by omega) _ _ _ h14
         try simp only [kf, simprocAttr] at h14
         cases h; subst hR; simp only [zbcy, simprocAttr, *]
        ·replace h := br h; rcases h with ⟨h15, h⟩ | ⟨h15, h⟩
         ·replace h := ob h; obtain ⟨r3, h16, h⟩ := h
          replace h16 := zbcs q (M + 7) (by omega) _ _ _ h16
          try simp only [kf, simprocAttr] at h16
          cases h; subst hR; simp only [zbcy, simprocAttr, *]
         ·cases h; subst hR; simp only [zbcy, simprocAttr, *]
   ·replace h := br h; rcases h with ⟨h17, h⟩ | ⟨h17, h⟩
    ·replace h := ob h; obtain ⟨r4, h18, h⟩ := h
     replace h18 := zbcx q M (by omega) _ _ _ _ _ _ _ _ h18
     try simp only [kf, simprocAttr] at h18
     replace h := br h; rcases h with ⟨h19, h⟩ | ⟨h19, h⟩
     ·replace h := br h; rcases h with ⟨h20, h⟩ | ⟨h20, h⟩
      ·cases h; subst hR; simp only [zbcy, simprocAttr, *]
      ·cases h; subst hR; simp only [zbcy, simprocAttr, *]
     ·replace h := br h; rcases h with ⟨h21, h⟩ | ⟨h21, h⟩
      ·replace h := br h; rcases h with ⟨h22, h⟩ | ⟨h22, h⟩
       ·cases h; subst hR; simp only [zbcy, simprocAttr, *]
       ·cases h; subst hR; simp only [zbcy, simprocAttr, *]
      ·replace h := br h; rcases h with ⟨h23, h⟩ | ⟨h23, h⟩
       ·replace h := br h; rcases h with ⟨h24, h⟩ | ⟨h24, h⟩
        ·cases h; subst hR; simp only [zbcy, simprocAttr, *]
        ·cases h; subst hR; simp only [zbcy, simprocAttr, *]
       ·replace h := br h; rcases h with ⟨h25, h⟩ | ⟨h25, h⟩
        ·replace h := br h; rcases h with ⟨h26, h⟩ | ⟨h26, h⟩
         ·cases h; subst hR; simp only [zbcy, simprocAttr, *]
         ·cases h; subst hR; simp only [zbcy, simprocAttr, *]
        ·replace h := br h; rcases h with ⟨h27, h⟩ | ⟨h27, h⟩
         ·replace h := ob h; obtain ⟨r5, h28, h⟩ := h
          replace h28 := zbcs q (M + 7) (by omega) _ _ _ h28
          try simp only [kf, simprocAttr] at h28
          cases h; subst hR; simp only [zbcy, simprocAttr, *]
         ·replace h := br h; rcases h with ⟨h29, h⟩ | ⟨h29, h⟩
          ·replace h := ob h; obtain ⟨r6, h30, h⟩ := h
           replace h30 := zbcs q (M + 7) (by omega) _ _ _ h30
           try simp only [kf, simprocAttr] at h30
           cases h; subst hR; simp only [zbcy, simprocAttr, *]
          ·cases h; subst hR; simp only [zbcy, simprocAttr, *]
    ·cases h; subst hR; simp only [zbcy, simprocAttr, *]
def zbc0 := And.intro @kk <| And.intro @ke <| And.intro @kn <| And.intro @z8t <| @z8v
theorem zbc1 : ∀ (q N : Nat), 8 * q ≤ N → ∀ (a0 : zjm), ∀ (r : Bool), zjz q a0 = some r → (orc T N).deep F.zjz [zjm.enc a0] = some [V.bool r] := by
 intro q N hM a0 r h
 rcases q with _ | q
 ·cases h
 obtain ⟨M, rfl⟩ : ∃ M, N = M + 8 := ⟨N - 8, by omega⟩
 generalize hR : some [V.bool r] = R
 rw [zhu, z5e, y4, zhs ztz rfl]
 rw [zjz] at h
 replace h := br h; rcases h with ⟨h1, h⟩ | ⟨h1, h⟩
 ·replace h := br h; rcases h with ⟨h2, h⟩ | ⟨h2, h⟩
  ·replace h := br h; rcases h with ⟨h3, h⟩ | ⟨h3, h⟩
   ·replace h := br h; rcases h with ⟨h4, h⟩ | ⟨h4, h⟩
    ·replace h := br h; rcases h with ⟨h5, h⟩ | ⟨h5, h⟩
     ·cases h; subst hR; simp only [zbc0, simprocAttr, *]
     ·cases h; subst hR; simp only [zbc0, simprocAttr, *]
    ·cases h; subst hR; simp only [zbc0, simprocAttr, *]
   ·cases h; subst hR; simp only [zbc0, simprocAttr, *]
  ·cases h; subst hR; simp only [zbc0, simprocAttr, *]
 ·cases h; subst hR; simp only [zbc0, simprocAttr, *]
def zbc2 (q : Nat) : Prop := ∀ (M : Nat) (hM : 8 * q ≤ M) (j : Nat) (hj : q ≤ j) (v0z : Bool) (v0l : List zjm) (v5z : Bool) (v5l : List zjm) (v6 v7 : Int) (r : Bool) (_ : zj0 q v0z v0l v5z v5l v6 v7 = some r) (R : Option (List V)) (_ : some [V.bool r] = R) (fr : Fr) (H : Hp) (_ : canon 0 [0, 5, 6, 7] fr H = ([(0, (.sl v0z (List.map zjm.enc v0l))), (5, (.sl v5z (List.map zjm.enc v5l))), (6, (.int .i64 v6)), (7, (.int .i64 v7))], [])), fin zpd (unw T (orc T (M + 7)) (M + 7) 0 [.blk 0, .code zpa] (iter 0 [0, 5, 6, 7] (exec T (orc T (M + 7)) (M + 7) 0 zo7) j fr H)) = R
def zbc3 := And.intro @kk <| And.intro @ke <| And.intro @kn <| And.intro @z6x <| And.intro @z8u <| @z6z
theorem zbc4 (q : Nat) (zbgs : zbc2 q) : zbc2 (q + 1) := by
 intro M hM j hj v0z v0l v5z v5l v6 v7 r h R hR fr H hc
 obtain ⟨j, rfl⟩ : ∃ i, j = i + 1 := ⟨j - 1, by omega⟩
 rw [zhk, hc]; clear hc
 rw [zj0] at h
 replace h := br h; rcases h with ⟨h1, h⟩ | ⟨h1, h⟩
 ·replace h := bn h; obtain ⟨h2, h⟩ := h
  replace h := ob h; obtain ⟨e1, h3, h⟩ := h
  replace h := ob h; obtain ⟨r2, h4, h⟩ := h
  replace h4 := zbc1 q (M + 7) (by omega) _ _ h4
  try simp only [kf, simprocAttr] at h4
  replace h := bb h; rcases h with ⟨h5', h5, h⟩ | ⟨h5', h5, h⟩
  ·replace h := br h; rcases h with ⟨h6, h⟩ | ⟨h6, h⟩
   ·replace h := bn h; obtain ⟨h7, h⟩ := h
    replace h := ob h; obtain ⟨e3, h8, h⟩ := h
    replace h := br h; rcases h with ⟨h9, h⟩ | ⟨h9, h⟩
    ·cases h; subst hR; simp only [zbc3, simprocAttr, *]
    ·replace h := zbgs M (by omega) j (by omega) _ _ _ _ _ _ _ h R hR
     simp only [zbc3, simprocAttr, *]
   ·replace h := zbgs M (by omega) j (by omega) _ _ _ _ _ _ _ h R hR
    simp only [zbc3, simprocAttr, *]
  ·cases h; subst hR; simp only [zbc3, simprocAttr, *]
 ·cases h; subst hR; simp only [zbc3, simprocAttr, *]
theorem zbc5 : ∀ q, zbc2 q
 | 0 => by intro M hM j hj; intros; rename_i h _ _ _ _ _; cases h
 | q + 1 => by have i0 := zbc5 q; exact zbc4 q i0
theorem zbc6 : ∀ (q N : Nat), 8 * q ≤ N → ∀ (a0 : (Sl zjm)), ∀ (r : Bool), zj1 q a0 = some r → (orc T N).deep F.zj1 [(Sl.enc zjm.enc) a0] = some [V.bool r] := by
 intro q N hM a0 r h
 rcases q with _ | q
 ·cases h
 obtain ⟨M, rfl⟩ : ∃ M, N = M + 8 := ⟨N - 8, by omega⟩
 have zbgs := (zbc5 q)
 generalize hR : some [V.bool r] = R
 rw [zhu, z4r, y4, zhs zpd rfl]
 rw [zj1] at h
 replace h := zbgs M (by omega) (M + 7) (by omega) _ _ _ _ _ _ _ h R hR
 simp only [zbc3, simprocAttr, *]
def zbc7 := And.intro @kk <| And.intro @ke <| And.intro @kn <| And.intro @z53 <| And.intro @z6v <| And.intro @z6y <| @z55
theorem zbc8 : ∀ (q N : Nat), 8 * q ≤ N → ∀ (a0 : zjn), ∀ (r : Bool), zj2 q a0 = some r → (orc T N).deep F.zj2 [zjn.enc a0] = some [V.bool r] := by
 intro q N hM a0 r h
 rcases q with _ | q
 ·cases h
 obtain ⟨M, rfl⟩ : ∃ M, N = M + 8 := ⟨N - 8, by omega⟩
 generalize hR : some [V.bool r] = R
 rw [zhu, z4h, y4, zhs zmz rfl]
 rw [zj2] at h
 replace h := br h; rcases h with ⟨h1, h⟩ | ⟨h1, h⟩
 ·replace h := br h; rcases h with ⟨h2, h⟩ | ⟨h2, h⟩
  ·replace h := ob h; obtain ⟨r1, h3, h⟩ := h
   replace h3 := zbcz q (M + 7) (by omega) _ _ h3
   try simp only [kf, simprocAttr] at h3
   replace h := bb h; rcases h with ⟨h4', h4, h⟩ | ⟨h4', h4, h⟩
   ·replace h := ob h; obtain ⟨r2, h5, h⟩ := h
    replace h5 := zbc6 q (M + 7) (by omega) _ _ h5
    try simp only [kf, simprocAttr] at h5
    cases h; subst hR; simp only [zbc7, simprocAttr, *]
   ·cases h; subst hR; simp only [zbc7, simprocAttr, *]
  ·cases h; subst hR; simp only [zbc7, simprocAttr, *]
 ·cases h; subst hR; simp only [zbc7, simprocAttr, *]
def zbc9 := And.intro @kk <| And.intro @ke <| And.intro @kn <| And.intro @z6r <| @z6t
theorem zbda : ∀ (q N : Nat), 8 * q ≤ N → ∀ (a0 : (Sl Int)), ∀ (r : (Ow Int)), zj3 q a0 = some r → (orc T N).deep F.zj3 [(Sl.enc (V.int .i64)) a0] = some [(Ow.enc 1 (V.int .i64)) r] := by
 intro q N hM a0 r h
 rcases q with _ | q
 ·cases h
 obtain ⟨M, rfl⟩ : ∃ M, N = M + 8 := ⟨N - 8, by omega⟩
 generalize hR : some [(Ow.enc 1 (V.int .i64)) r] = R
 rw [zhu, z4p, y4, zhs zoi rfl]
 rw [zj3] at h
 replace h := bb h; rcases h with ⟨h1', h1, h⟩ | ⟨h1', h1, h⟩
 ·cases h; subst hR; simp only [zbc9, simprocAttr, *]
 ·replace h := bn h; obtain ⟨h2, h⟩ := h
  cases h; subst hR; simp only [zbc9, simprocAttr, *]
def zbdb := And.intro @kk <| And.intro @ke <| And.intro @kn <| And.intro @z7i <| @z7k
theorem zbdc : ∀ (q N : Nat), 8 * q ≤ N → ∀ (a0 : (Sl zjm)), ∀ (r : (Ow zjm)), zj4 q a0 = some r → (orc T N).deep F.zj4 [(Sl.enc zjm.enc) a0] = some [(Ow.enc 3 zjm.enc) r] := by
 intro q N hM a0 r h
 rcases q with _ | q
 ·cases h
 obtain ⟨M, rfl⟩ : ∃ M, N = M + 8 := ⟨N - 8, by omega⟩
 generalize hR : some [(Ow.enc 3 zjm.enc) r] = R
 rw [zhu, z4y, y4, zhs zrb rfl]
 rw [zj4] at h
 replace h := bb h; rcases h with ⟨h1', h1, h⟩ | ⟨h1', h1, h⟩
 ·cases h; subst hR; simp only [zbdb, simprocAttr, *]
 ·replace h := bn h; obtain ⟨h2, h⟩ := h
  cases h; subst hR; simp only [zbdb, simprocAttr, *]
theorem zbdd : ∀ (q N : Nat), 8 * q ≤ N → ∀ (a0 : (Ow zjm)) (a1 : Int) (a2 : (Ow zjm)), ∀ (r : (Ow zjm)), zj5 q a0 a1 a2 = some r → (orc T N).deep F.zj5 [(Ow.enc 3 zjm.enc) a0, (V.int .i64) a1, (Ow.enc 3 zjm.enc) a2] = some [(Ow.enc 3 zjm.enc) r] := by
 intro q N hM a0 a1 a2 r h
 rcases q with _ | q
 ·cases h
 obtain ⟨M, rfl⟩ : ∃ M, N = M + 8 := ⟨N - 8, by omega⟩
 rw [zhu, z42, y4, zhr zrq rfl]
 rw [zj5] at h
 by_cases c : insOk a0 a1 a2
 ·rw [if_pos c] at h; cases h; exact zi0 zjm.enc 3 c
 ·rw [if_neg c] at h; cases h
def zbde (q : Nat) : Prop := ∀ (M : Nat) (hM : 8 * q ≤ M) (j : Nat) (hj : q ≤ j) (w1 : Nat) (v7 v8 h0_0 h0_1 h0_2 h0_3 h0_4 h0_5 h0_6 : Int) (h1z : Bool) (h1l : List zjm) (h1x : Bool) (r : Int) (_ : zj6 q v7 v8 h0_0 h0_1 h0_2 h0_3 h0_4 h0_5 h0_6 h1z h1l h1x = some r) (R : Option (List V × Hp)) (_ : (some ([(.int .i64 r)], [(.box [(.int .i64 h0_0), (.int .i64 h0_1), (.int .i64 h0_2), (.int .i64 h0_3), (.int .i64 h0_4), (.int .i64 h0_5), (.int .i64 h0_6)]), (.row w1 h1z 3 (List.map zjm.enc h1l) h1x)]) : Option (List V × Hp)) = R) (fr : Fr) (H : Hp) (_ : canon 2 [0, 1, 7, 8] fr H = ([(0, (.vw 1 w1 0 h1l.length 1)), (1, (.fn F.zl0 [(.ptr 0 0)])), (7, (.int .i64 v7)), (8, (.int .i64 v8))], [(.box [(.int .i64 h0_0), (.int .i64 h0_1), (.int .i64 h0_2), (.int .i64 h0_3), (.int .i64 h0_4), (.int .i64 h0_5), (.int .i64 h0_6)]), (.row w1 h1z 3 (List.map zjm.enc h1l) h1x)])), finI 2 false [.tmp 4] (unw T (orc T (M + 5)) (M + 5) 2 [.blk 0, .code zrk] (iter 2 [0, 1, 7, 8] (exec T (orc T (M + 5)) (M + 5) 2 zrh) j fr H)) = R
def zbdf := And.intro @kk <| And.intro @ke <| And.intro @kn <| And.intro @z7l <| And.intro @z7o <| And.intro @z7m <| @z7n
theorem zbdg (q : Nat) (zbgt : zbde q) : zbde (q + 1) := by
 intro M hM j hj w1 v7 v8 h0_0 h0_1 h0_2 h0_3 h0_4 h0_5 h0_6 h1z h1l h1x r h R hR fr H hc
 obtain ⟨j, rfl⟩ : ∃ i, j = i + 1 := ⟨j - 1, by omega⟩
 rw [zhk, hc]; clear hc
 rw [zj6] at h
 replace h := br h; rcases h with ⟨h1, h⟩ | ⟨h1, h⟩
 ·replace h := bn h; obtain ⟨h2, h⟩ := h
  replace h := bn h; obtain ⟨h3, h⟩ := h
  replace h := ob h; obtain ⟨e1, h4, h⟩ := h
  replace h := br h; rcases h with ⟨h5, h⟩ | ⟨h5, h⟩
  ·cases h; subst hR; simp only [zbdf, simprocAttr, *]
  ·replace h := zbgt M (by omega) j (by omega) w1 _ _ _ _ _ _ _ _ _ _ _ _ _ h R hR
   simp only [zbdf, simprocAttr, *]
 ·cases h; subst hR; simp only [zbdf, simprocAttr, *]
theorem zbdh : ∀ q, zbde q
 | 0 => by intro M hM j hj; intros; rename_i h _ _ _ _ _; cases h
 | q + 1 => by have i0 := zbdh q; exact zbdg q i0
theorem zbdi : ∀ (q M : Nat), 8 * q ≤ M → ∀ (w1 : Nat), ∀ (h0_0 h0_1 h0_2 h0_3 h0_4 h0_5 h0_6 : Int), ∀ (h1z : Bool), ∀ (h1l : List zjm), ∀ (h1x : Bool), ∀ (r : Int), zj7 q h0_0 h0_1 h0_2 h0_3 h0_4 h0_5 h0_6 h1z h1l h1x = some r → (orc T (M + 6)).inl F.zl1 [(.vw 1 w1 0 h1l.length 1), (.fn F.zl0 [(.ptr 0 0)])] [(.box [(.int .i64 h0_0), (.int .i64 h0_1), (.int .i64 h0_2), (.int .i64 h0_3), (.int .i64 h0_4), (.int .i64 h0_5), (.int .i64 h0_6)]), (.row w1 h1z 3 (List.map zjm.enc h1l) h1x)] = (some ([(.int .i64 r)], [(.box [(.int .i64 h0_0), (.int .i64 h0_1), (.int .i64 h0_2), (.int .i64 h0_3), (.int .i64 h0_4), (.int .i64 h0_5), (.int .i64 h0_6)]), (.row w1 h1z 3 (List.map zjm.enc h1l) h1x)]) : Option (List V × Hp)) := by
 intro q M hM w1 h0_0 h0_1 h0_2 h0_3 h0_4 h0_5 h0_6 h1z h1l h1x r h
 rcases q with _ | q
 ·cases h
 have zbgt := (zbdh q)
 generalize hR : (some ([(.int .i64 r)], [(.box [(.int .i64 h0_0), (.int .i64 h0_1), (.int .i64 h0_2), (.int .i64 h0_3), (.int .i64 h0_4), (.int .i64 h0_5), (.int .i64 h0_6)]), (.row w1 h1z 3 (List.map zjm.enc h1l) h1x)]) : Option (List V × Hp)) = R
 rw [z7q (n := M + 5)]
 rw [zj7] at h
 replace h := zbgt M (by omega) (M + 5) (by omega) w1 _ _ _ _ _ _ _ _ _ _ _ _ _ h R hR
 simp only [zbdf, simprocAttr, *]
def zbdj (q : Nat) : Prop := ∀ (M : Nat) (hM : 8 * q ≤ M) (j : Nat) (hj : q ≤ j) (w1 : Nat) (v5 v6 h0_0 h0_1 h0_2 h0_3 h0_4 h0_5 h0_6 : Int) (h1z : Bool) (h1l : List zjm) (h1x : Bool) (r : Nat × (List zjm) × Bool) (_ : zj8 q v5 v6 h0_0 h0_1 h0_2 h0_3 h0_4 h0_5 h0_6 h1z h1l h1x = some r) (R : Option (List V × Hp)) (_ : (some ([(.vw 1 w1 0 r.1 0)], [(.box [(.int .i64 h0_0), (.int .i64 h0_1), (.int .i64 h0_2), (.int .i64 h0_3), (.int .i64 h0_4), (.int .i64 h0_5), (.int .i64 h0_6)]), (.row w1 h1z 3 (List.map zjm.enc r.2.1) r.2.2)]) : Option (List V × Hp)) = R) (fr : Fr) (H : Hp) (_ : canon 2 [0, 1, 5, 6] fr H = ([(0, (.vw 1 w1 0 h1l.length 1)), (1, (.fn F.zl0 [(.ptr 0 0)])), (5, (.int .i64 v5)), (6, (.int .i64 v6))], [(.box [(.int .i64 h0_0), (.int .i64 h0_1), (.int .i64 h0_2), (.int .i64 h0_3), (.int .i64 h0_4), (.int .i64 h0_5), (.int .i64 h0_6)]), (.row w1 h1z 3 (List.map zjm.enc h1l) h1x)])), finI 2 true [.tmp 4] (unw T (orc T (M + 6)) (M + 6) 2 [.blk 0, .code zq4] (iter 2 [0, 1, 5, 6] (exec T (orc T (M + 6)) (M + 6) 2 zqz) j fr H)) = R
def zbdk := And.intro @kk <| And.intro @ke <| And.intro @kn <| And.intro @z7f <| And.intro @z7l <| And.intro @z7p <| And.intro @z7m <| @z7n
theorem zbdl (q : Nat) (zbgu : zbdj q) : zbdj (q + 1) := by
 intro M hM j hj w1 v5 v6 h0_0 h0_1 h0_2 h0_3 h0_4 h0_5 h0_6 h1z h1l h1x r h R hR fr H hc
 obtain ⟨j, rfl⟩ : ∃ i, j = i + 1 := ⟨j - 1, by omega⟩
 rw [zhk, hc]; clear hc
 rw [zj8] at h
 replace h := br h; rcases h with ⟨h1, h⟩ | ⟨h1, h⟩
 ·replace h := bn h; obtain ⟨h2, h⟩ := h
  replace h := bn h; obtain ⟨h3, h⟩ := h
  replace h := ob h; obtain ⟨e2, h4, h⟩ := h
  replace h := br h; rcases h with ⟨h5, h⟩ | ⟨h5, h⟩
  ·replace h := zbgu M (by omega) j (by omega) w1 _ _ _ _ _ _ _ _ _ _ _ _ _ h R hR
   simp only [zbdk, simprocAttr, *]
  ·replace h := bn h; obtain ⟨h6, h⟩ := h
   replace h := bn h; obtain ⟨h7, h⟩ := h
   replace h := ob h; obtain ⟨e3, h8, h⟩ := h
   replace h := bb h; rcases h with ⟨h9', h9, h⟩ | ⟨h9', h9, h⟩
   ·replace h := zbgu M (by omega) j (by omega) w1 _ _ _ _ _ _ _ _ _ _ _ _ _ h R hR
    simp only [zbdk, simprocAttr, *]
   ·cases h
 ·replace h := bn h; obtain ⟨h10, h⟩ := h
  replace h := bn h; obtain ⟨h11, h⟩ := h
  replace h := bb h; rcases h with ⟨h12', h12, h⟩ | ⟨h12', h12, h⟩
  ·replace h := bn h; obtain ⟨h13, h⟩ := h
   replace h := bb h; rcases h with ⟨h14', h14, h⟩ | ⟨h14', h14, h⟩
   ·cases h; subst hR; simp only [zbdk, simprocAttr, *]
   ·cases h; subst hR; simp only [zbdk, simprocAttr, *]
  ·cases h
theorem zbdm : ∀ q, zbdj q
 | 0 => by intro M hM j hj; intros; rename_i h _ _ _ _ _; cases h
 | q + 1 => by have i0 := zbdm q; exact zbdl q i0
theorem zbdn : ∀ (q M : Nat), 8 * q ≤ M → ∀ (w1 : Nat), ∀ (h0_0 h0_1 h0_2 h0_3 h0_4 h0_5 h0_6 : Int), ∀ (h1z : Bool), ∀ (h1l : List zjm), ∀ (h1x : Bool), ∀ (r : Nat × (List zjm) × Bool), zj9 q h0_0 h0_1 h0_2 h0_3 h0_4 h0_5 h0_6 h1z h1l h1x = some r → (orc T (M + 7)).inl F.zlz [(.vw 1 w1 0 h1l.length 1), (.fn F.zl0 [(.ptr 0 0)])] [(.box [(.int .i64 h0_0), (.int .i64 h0_1), (.int .i64 h0_2), (.int .i64 h0_3), (.int .i64 h0_4), (.int .i64 h0_5), (.int .i64 h0_6)]), (.row w1 h1z 3 (List.map zjm.enc h1l) h1x)] = (some ([(.vw 1 w1 0 r.1 0)], [(.box [(.int .i64 h0_0), (.int .i64 h0_1), (.int .i64 h0_2), (.int .i64 h0_3), (.int .i64 h0_4), (.int .i64 h0_5), (.int .i64 h0_6)]), (.row w1 h1z 3 (List.map zjm.enc r.2.1) r.2.2)]) : Option (List V × Hp)) := by
 intro q M hM w1 h0_0 h0_1 h0_2 h0_3 h0_4 h0_5 h0_6 h1z h1l h1x r h
 rcases q with _ | q
 ·cases h
 have zbgu := (zbdm q)
 generalize hR : (some ([(.vw 1 w1 0 r.1 0)], [(.box [(.int .i64 h0_0), (.int .i64 h0_1), (.int .i64 h0_2), (.int .i64 h0_3), (.int .i64 h0_4), (.int .i64 h0_5), (.int .i64 h0_6)]), (.row w1 h1z 3 (List.map zjm.enc r.2.1) r.2.2)]) : Option (List V × Hp)) = R
 rw [z7h (n := M + 6)]
 rw [zj9] at h
 replace h := ob h; obtain ⟨r1, h1, h⟩ := h
 replace h1 := zbdi q M (by omega) w1 _ _ _ _ _ _ _ _ _ _ _ h1
 try simp only [kf, simprocAttr] at h1
 replace h := br h; rcases h with ⟨h2, h⟩ | ⟨h2, h⟩
 ·cases h; subst hR; simp only [zbdk, simprocAttr, *]
 ·replace h := zbgu M (by omega) (M + 6) (by omega) w1 _ _ _ _ _ _ _ _ _ _ _ _ _ h R hR
  simp only [zbdk, simprocAttr, *]
def zbdo (q : Nat) : Prop := ∀ (M : Nat) (hM : 8 * q ≤ M) (j : Nat) (hj : q ≤ j) (w1 v0len : Nat) (v7 v8 h0_0 h0_1 h0_2 h0_3 h0_4 h0_5 h0_6 : Int) (h1z : Bool) (h1l : List zjm) (h1x : Bool) (r : Int) (_ : zka q v0len v7 v8 h0_0 h0_1 h0_2 h0_3 h0_4 h0_5 h0_6 h1z h1l h1x = some r) (R : Option (List V × Hp)) (_ : (some ([(.int .i64 r)], [(.box [(.int .i64 h0_0), (.int .i64 h0_1), (.int .i64 h0_2), (.int .i64 h0_3), (.int .i64 h0_4), (.int .i64 h0_5), (.int .i64 h0_6)]), (.row w1 h1z 3 (List.map zjm.enc h1l) h1x)]) : Option (List V × Hp)) = R) (fr : Fr) (H : Hp) (_ : canon 2 [0, 1, 7, 8] fr H = ([(0, (.vw 1 w1 0 v0len 0)), (1, (.fn F.zl2 [(.ptr 0 0)])), (7, (.int .i64 v7)), (8, (.int .i64 v8))], [(.box [(.int .i64 h0_0), (.int .i64 h0_1), (.int .i64 h0_2), (.int .i64 h0_3), (.int .i64 h0_4), (.int .i64 h0_5), (.int .i64 h0_6)]), (.row w1 h1z 3 (List.map zjm.enc h1l) h1x)])), finI 2 false [.tmp 4] (unw T (orc T (M + 6)) (M + 6) 2 [.blk 0, .code zrk] (iter 2 [0, 1, 7, 8] (exec T (orc T (M + 6)) (M + 6) 2 zrh) j fr H)) = R
def zbdp := And.intro @kk <| And.intro @ke <| And.intro @kn <| And.intro @z7o <| And.intro @z7r <| And.intro @z7s <| @z7t
theorem zbdq (q : Nat) (zbgv : zbdo q) : zbdo (q + 1) := by
 intro M hM j hj w1 v0len v7 v8 h0_0 h0_1 h0_2 h0_3 h0_4 h0_5 h0_6 h1z h1l h1x r h R hR fr H hc
 obtain ⟨j, rfl⟩ : ∃ i, j = i + 1 := ⟨j - 1, by omega⟩
 rw [zhk, hc]; clear hc
 rw [zka] at h
 replace h := br h; rcases h with ⟨h1, h⟩ | ⟨h1, h⟩
 ·replace h := bn h; obtain ⟨h2, h⟩ := h
  replace h := bn h; obtain ⟨h3, h⟩ := h
  replace h := ob h; obtain ⟨e1, h4, h⟩ := h
  replace h := br h; rcases h with ⟨h5, h⟩ | ⟨h5, h⟩
  ·cases h; subst hR; simp only [zbdp, simprocAttr, *]
  ·replace h := zbgv M (by omega) j (by omega) w1 _ _ _ _ _ _ _ _ _ _ _ _ _ _ h R hR
   simp only [zbdp, simprocAttr, *]
 ·cases h; subst hR; simp only [zbdp, simprocAttr, *]
theorem zbdr : ∀ q, zbdo q
 | 0 => by intro M hM j hj; intros; rename_i h _ _ _ _ _; cases h
 | q + 1 => by have i0 := zbdr q; exact zbdq q i0
theorem zbds : ∀ (q M : Nat), 8 * q ≤ M → ∀ (w1 v0len : Nat), ∀ (h0_0 h0_1 h0_2 h0_3 h0_4 h0_5 h0_6 : Int), ∀ (h1z : Bool), ∀ (h1l : List zjm), ∀ (h1x : Bool), ∀ (r : Int), zkb q v0len h0_0 h0_1 h0_2 h0_3 h0_4 h0_5 h0_6 h1z h1l h1x = some r → (orc T (M + 7)).inl F.zl1 [(.vw 1 w1 0 v0len 0), (.fn F.zl2 [(.ptr 0 0)])] [(.box [(.int .i64 h0_0), (.int .i64 h0_1), (.int .i64 h0_2), (.int .i64 h0_3), (.int .i64 h0_4), (.int .i64 h0_5), (.int .i64 h0_6)]), (.row w1 h1z 3 (List.map zjm.enc h1l) h1x)] = (some ([(.int .i64 r)], [(.box [(.int .i64 h0_0), (.int .i64 h0_1), (.int .i64 h0_2), (.int .i64 h0_3), (.int .i64 h0_4), (.int .i64 h0_5), (.int .i64 h0_6)]), (.row w1 h1z 3 (List.map zjm.enc h1l) h1x)]) : Option (List V × Hp)) := by
 intro q M hM w1 v0len h0_0 h0_1 h0_2 h0_3 h0_4 h0_5 h0_6 h1z h1l h1x r h
 rcases q with _ | q
 ·cases h
 have zbgv := (zbdr q)
 generalize hR : (some ([(.int .i64 r)], [(.box [(.int .i64 h0_0), (.int .i64 h0_1), (.int .i64 h0_2), (.int .i64 h0_3), (.int .i64 h0_4), (.int .i64 h0_5), (.int .i64 h0_6)]), (.row w1 h1z 3 (List.map zjm.enc h1l) h1x)]) : Option (List V × Hp)) = R
 rw [z7q (n := M + 6)]
 rw [zkb] at h
 replace h := zbgv M (by omega) (M + 6) (by omega) w1 _ _ _ _ _ _ _ _ _ _ _ _ _ _ h R hR
 simp only [zbdp, simprocAttr, *]
def zbdt := And.intro @kk <| And.intro @ke <| And.intro @kn <| And.intro @z6f <| And.intro @z7g <| And.intro @z7j <| And.intro @z7p <| And.intro @z7u <| @z6h
theorem zbdu : ∀ (q N : Nat), 8 * q ≤ N → ∀ (a0 : (Sl zjm)) (a1 : zjq), ∀ (r : (Ow zjm)), zkc q a0 a1 = some r → (orc T N).deep F.zkc [(Sl.enc zjm.enc) a0, zjq.enc a1] = some [(Ow.enc 3 zjm.enc) r] := by
 intro q N hM a0 a1 r h
 rcases q with _ | q
 ·cases h
 obtain ⟨M, rfl⟩ : ∃ M, N = M + 8 := ⟨N - 8, by omega⟩
 generalize hR : some [(Ow.enc 3 zjm.enc) r] = R
 rw [zhu, z4l, y4, zhs zno rfl]
 rw [zkc] at h
 replace h := ob h; obtain ⟨r1, h1, h⟩ := h
 replace h1 := zbdc q (M + 7) (by omega) _ _ h1
 try simp only [kf, simprocAttr] at h1
 replace h := ob h; obtain ⟨r2, h2, h⟩ := h
 replace h2 := zbdn q M (by omega) 0 _ _ _ _ _ _ _ _ _ _ _ h2
 try simp only [kf, simprocAttr] at h2
 replace h := ob h; obtain ⟨r3, h3, h⟩ := h
 replace h3 := zbds q M (by omega) 0 _ _ _ _ _ _ _ _ _ _ _ _ h3
 try simp only [kf, simprocAttr] at h3
 replace h := br h; rcases h with ⟨h4, h⟩ | ⟨h4, h⟩
 ·replace h := bb h; rcases h with ⟨h5', h5, h⟩ | ⟨h5', h5, h⟩
  ·replace h := ob h; obtain ⟨r4, h6, h⟩ := h
   replace h6 := zbdd q (M + 7) (by omega) _ _ _ _ h6
   try simp only [kf, simprocAttr] at h6
   cases h; subst hR; simp only [zbdt, simprocAttr, *]
  ·cases h
 ·replace h := bb h; rcases h with ⟨h7', h7, h⟩ | ⟨h7', h7, h⟩
  ·replace h := ob h; obtain ⟨r5, h8, h⟩ := h
   replace h8 := zbdd q (M + 7) (by omega) _ _ _ _ h8
   try simp only [kf, simprocAttr] at h8
   cases h; subst hR; simp only [zbdt, simprocAttr, *]
  ·cases h
def zbdv (q : Nat) : Prop := ∀ (M : Nat) (hM : 8 * q ≤ M) (j : Nat) (hj : q ≤ j) (v0z : Bool) (v0l : List Int) (v1z : Bool) (v1l : List Int) (v12 v13 : Int) (r : Bool) (_ : zkd q v0z v0l v1z v1l v12 v13 = some r) (R : Option (List V)) (_ : some [V.bool r] = R) (fr : Fr) (H : Hp) (_ : canon 0 [0, 1, 12, 13] fr H = ([(0, (.sl v0z (List.map (V.int .i64) v0l))), (1, (.sl v1z (List.map (V.int .i64) v1l))), (12, (.int .i64 v12)), (13, (.int .i64 v13))], [])), fin zr4 (unw T (orc T (M + 7)) (M + 7) 0 [.blk 0, .code zr0] (iter 0 [0, 1, 12, 13] (exec T (orc T (M + 7)) (M + 7) 0 zrx) j fr H)) = R
def zbdw := And.intro @kk <| And.intro @ke <| And.intro @kn <| And.intro @z7w <| @z7y
theorem zbdx (q : Nat) (zbgw : zbdv q) : zbdv (q + 1) := by
 intro M hM j hj v0z v0l v1z v1l v12 v13 r h R hR fr H hc
 obtain ⟨j, rfl⟩ : ∃ i, j = i + 1 := ⟨j - 1, by omega⟩
 rw [zhk, hc]; clear hc
 rw [zkd] at h
 replace h := br h; rcases h with ⟨h1, h⟩ | ⟨h1, h⟩
 ·replace h := bn h; obtain ⟨h2, h⟩ := h
  replace h := ob h; obtain ⟨e1, h3, h⟩ := h
  replace h := ob h; obtain ⟨e2, h4, h⟩ := h
  replace h := br h; rcases h with ⟨h5, h⟩ | ⟨h5, h⟩
  ·replace h := zbgw M (by omega) j (by omega) _ _ _ _ _ _ _ h R hR
   simp only [zbdw, simprocAttr, *]
  ·cases h; subst hR; simp only [zbdw, simprocAttr, *]
 ·cases h; subst hR; simp only [zbdw, simprocAttr, *]
theorem zbdy : ∀ q, zbdv q
 | 0 => by intro M hM j hj; intros; rename_i h _ _ _ _ _; cases h
 | q + 1 => by have i0 := zbdy q; exact zbdx q i0
theorem zbdz : ∀ (q N : Nat), 8 * q ≤ N → ∀ (a0 a1 : (Sl Int)), ∀ (r : Bool), zke q a0 a1 = some r → (orc T N).deep F.zke [(Sl.enc (V.int .i64)) a0, (Sl.enc (V.int .i64)) a1] = some [V.bool r] := by
 intro q N hM a0 a1 r h
 rcases q with _ | q
 ·cases h
 obtain ⟨M, rfl⟩ : ∃ M, N = M + 8 := ⟨N - 8, by omega⟩
 have zbgw := (zbdy q)
 generalize hR : some [V.bool r] = R
 rw [zhu, z43, y4, zhs zr4 rfl]
 rw [zke] at h
 replace h := br h; rcases h with ⟨h1, h⟩ | ⟨h1, h⟩
 ·replace h := zbgw M (by omega) (M + 7) (by omega) _ _ _ _ _ _ _ h R hR
  simp only [zbdw, simprocAttr, *]
 ·cases h; subst hR; simp only [zbdw, simprocAttr, *]
def zbd0 := And.intro @kk <| And.intro @ke <| And.intro @kn <| And.intro @z6o <| And.intro @z7x <| @z6q
theorem zbd1 : ∀ (q N : Nat), 8 * q ≤ N → ∀ (a0 a1 : zjl), ∀ (r : Bool), zkf q a0 a1 = some r → (orc T N).deep F.zkf [zjl.enc a0, zjl.enc a1] = some [V.bool r] := by
 intro q N hM a0 a1 r h
 rcases q with _ | q
 ·cases h
 obtain ⟨M, rfl⟩ : ∃ M, N = M + 8 := ⟨N - 8, by omega⟩
 generalize hR : some [V.bool r] = R
 rw [zhu, z4o, y4, zhs zog rfl]
 rw [zkf] at h
 replace h := br h; rcases h with ⟨h1, h⟩ | ⟨h1, h⟩
 ·replace h := bb h; rcases h with ⟨h2', h2, h⟩ | ⟨h2', h2, h⟩
  ·replace h := br h; rcases h with ⟨h3, h⟩ | ⟨h3, h⟩
   ·replace h := ob h; obtain ⟨r1, h4, h⟩ := h
    replace h4 := zbdz q (M + 7) (by omega) _ _ _ h4
    try simp only [kf, simprocAttr] at h4
    cases h; subst hR; simp only [zbd0, simprocAttr, *]
   ·cases h; subst hR; simp only [zbd0, simprocAttr, *]
  ·cases h; subst hR; simp only [zbd0, simprocAttr, *]
 ·cases h; subst hR; simp only [zbd0, simprocAttr, *]
def zbd2 (q : Nat) : Prop := ∀ (M : Nat) (hM : 8 * q ≤ M) (j : Nat) (hj : q ≤ j) (v0z : Bool) (v0l : List zjm) (v1z : Bool) (v1l : List zjm) (v12 v13 : Int) (r : Bool) (_ : zkg q v0z v0l v1z v1l v12 v13 = some r) (R : Option (List V)) (_ : some [V.bool r] = R) (fr : Fr) (H : Hp) (_ : canon 0 [0, 1, 12, 13] fr H = ([(0, (.sl v0z (List.map zjm.enc v0l))), (1, (.sl v1z (List.map zjm.enc v1l))), (12, (.int .i64 v12)), (13, (.int .i64 v13))], [])), fin zql (unw T (orc T (M + 7)) (M + 7) 0 [.blk 0, .code zqh] (iter 0 [0, 1, 12, 13] (exec T (orc T (M + 7)) (M + 7) 0 zqe) j fr H)) = R
def zbd3 := And.intro @kk <| And.intro @ke <| And.intro @kn <| And.intro @z66 <| @z68
theorem zbd4 (q : Nat) (zbgx : zbd2 q) : zbd2 (q + 1) := by
 intro M hM j hj v0z v0l v1z v1l v12 v13 r h R hR fr H hc
 obtain ⟨j, rfl⟩ : ∃ i, j = i + 1 := ⟨j - 1, by omega⟩
 rw [zhk, hc]; clear hc
 rw [zkg] at h
 replace h := br h; rcases h with ⟨h1, h⟩ | ⟨h1, h⟩
 ·replace h := bn h; obtain ⟨h2, h⟩ := h
  replace h := ob h; obtain ⟨e1, h3, h⟩ := h
  replace h := ob h; obtain ⟨e2, h4, h⟩ := h
  replace h := br h; rcases h with ⟨h5, h⟩ | ⟨h5, h⟩
  ·replace h := br h; rcases h with ⟨h6, h⟩ | ⟨h6, h⟩
   ·replace h := br h; rcases h with ⟨h7, h⟩ | ⟨h7, h⟩
    ·replace h := zbgx M (by omega) j (by omega) _ _ _ _ _ _ _ h R hR
     simp only [zbd3, simprocAttr, *]
    ·cases h; subst hR; simp only [zbd3, simprocAttr, *]
   ·cases h; subst hR; simp only [zbd3, simprocAttr, *]
  ·cases h; subst hR; simp only [zbd3, simprocAttr, *]
 ·cases h; subst hR; simp only [zbd3, simprocAttr, *]
theorem zbd5 : ∀ q, zbd2 q
 | 0 => by intro M hM j hj; intros; rename_i h _ _ _ _ _; cases h
 | q + 1 => by have i0 := zbd5 q; exact zbd4 q i0
theorem zbd6 : ∀ (q N : Nat), 8 * q ≤ N → ∀ (a0 a1 : (Sl zjm)), ∀ (r : Bool), zkh q a0 a1 = some r → (orc T N).deep F.zkh [(Sl.enc zjm.enc) a0, (Sl.enc zjm.enc) a1] = some [V.bool r] := by
 intro q N hM a0 a1 r h
 rcases q with _ | q
 ·cases h
 obtain ⟨M, rfl⟩ : ∃ M, N = M + 8 := ⟨N - 8, by omega⟩
 have zbgx := (zbd5 q)
 generalize hR : some [V.bool r] = R
 rw [zhu, z4u, y4, zhs zql rfl]
 rw [zkh] at h
 replace h := br h; rcases h with ⟨h1, h⟩ | ⟨h1, h⟩
 ·replace h := zbgx M (by omega) (M + 7) (by omega) _ _ _ _ _ _ _ h R hR
  simp only [zbd3, simprocAttr, *]
 ·cases h; subst hR; simp only [zbd3, simprocAttr, *]
def zbd7 := And.intro @kk <| And.intro @ke <| And.intro @kn <| And.intro @z59 <| And.intro @z6p <| And.intro @z67 <| @z6b
theorem zbd8 : ∀ (q N : Nat), 8 * q ≤ N → ∀ (a0 a1 : zjn), ∀ (r : Bool), zki q a0 a1 = some r → (orc T N).deep F.zki [zjn.enc a0, zjn.enc a1] = some [V.bool r] := by
 intro q N hM a0 a1 r h
 rcases q with _ | q
 ·cases h
 obtain ⟨M, rfl⟩ : ∃ M, N = M + 8 := ⟨N - 8, by omega⟩
 generalize hR : some [V.bool r] = R
 rw [zhu, z4j, y4, zhs zni rfl]
 rw [zki] at h
 replace h := br h; rcases h with ⟨h1, h⟩ | ⟨h1, h⟩
 ·replace h := ob h; obtain ⟨r1, h2, h⟩ := h
  replace h2 := zbd1 q (M + 7) (by omega) _ _ _ h2
  try simp only [kf, simprocAttr] at h2
  replace h := bb h; rcases h with ⟨h3', h3, h⟩ | ⟨h3', h3, h⟩
  ·replace h := ob h; obtain ⟨r2, h4, h⟩ := h
   replace h4 := zbd6 q (M + 7) (by omega) _ _ _ h4
   try simp only [kf, simprocAttr] at h4
   cases h; subst hR; simp only [zbd7, simprocAttr, *]
  ·cases h; subst hR; simp only [zbd7, simprocAttr, *]
 ·cases h; subst hR; simp only [zbd7, simprocAttr, *]
def zbd9 (q : Nat) : Prop := ∀ (M : Nat) (hM : 8 * q ≤ M) (j : Nat) (hj : q ≤ j) (v0z : Bool) (v0l : List zjm) (v3 : Int) (r : Bool) (_ : zkj q v0z v0l v3 = some r) (R : Option (List V)) (_ : some [V.bool r] = R) (fr : Fr) (H : Hp) (_ : canon 0 [0, 3] fr H = ([(0, (.sl v0z (List.map zjm.enc v0l))), (3, (.int .i64 v3))], [])), fin zoe (unw T (orc T (M + 7)) (M + 7) 0 [.blk 0, .code zob] (iter 0 [0, 3] (exec T (orc T (M + 7)) (M + 7) 0 zn8) j fr H)) = R
def zbea := And.intro @kk <| And.intro @ke <| And.intro @kn <| And.intro @z6l <| @z6n
theorem zbeb (q : Nat) (zbgy : zbd9 q) : zbd9 (q + 1) := by
 intro M hM j hj v0z v0l v3 r h R hR fr H hc
 obtain ⟨j, rfl⟩ : ∃ i, j = i + 1 := ⟨j - 1, by omega⟩
 rw [zhk, hc]; clear hc
 rw [zkj] at h
 replace h := br h; rcases h with ⟨h1, h⟩ | ⟨h1, h⟩
 ·replace h := bn h; obtain ⟨h2, h⟩ := h
  replace h := ob h; obtain ⟨e1, h3, h⟩ := h
  replace h := br h; rcases h with ⟨h4, h⟩ | ⟨h4, h⟩
  ·cases h; subst hR; simp only [zbea, simprocAttr, *]
  ·replace h := br h; rcases h with ⟨h5, h⟩ | ⟨h5, h⟩
   ·cases h; subst hR; simp only [zbea, simprocAttr, *]
   ·replace h := br h; rcases h with ⟨h6, h⟩ | ⟨h6, h⟩
    ·cases h; subst hR; simp only [zbea, simprocAttr, *]
    ·replace h := br h; rcases h with ⟨h7, h⟩ | ⟨h7, h⟩
     ·cases h; subst hR; simp only [zbea, simprocAttr, *]
     ·replace h := br h; rcases h with ⟨h8, h⟩ | ⟨h8, h⟩
      ·cases h; subst hR; simp only [zbea, simprocAttr, *]
      ·replace h := br h; rcases h with ⟨h9, h⟩ | ⟨h9, h⟩
       ·cases h; subst hR; simp only [zbea, simprocAttr, *]
       ·replace h := br h; rcases h with ⟨h10, h⟩ | ⟨h10, h⟩
        ·replace h := bn h; obtain ⟨h11, h⟩ := h
         replace h := ob h; obtain ⟨e2, h12, h⟩ := h
         replace h := br h; rcases h with ⟨h13, h⟩ | ⟨h13, h⟩
         ·cases h; subst hR; simp only [zbea, simprocAttr, *]
         ·replace h := zbgy M (by omega) j (by omega) _ _ _ _ h R hR
          simp only [zbea, simprocAttr, *]
        ·replace h := zbgy M (by omega) j (by omega) _ _ _ _ h R hR
         simp only [zbea, simprocAttr, *]
 ·cases h; subst hR; simp only [zbea, simprocAttr, *]
theorem zbec : ∀ q, zbd9 q
 | 0 => by intro M hM j hj; intros; rename_i h _ _ _ _ _; cases h
 | q + 1 => by have i0 := zbec q; exact zbeb q i0
theorem zbed : ∀ (q N : Nat), 8 * q ≤ N → ∀ (a0 : (Sl zjm)), ∀ (r : Bool), zkk q a0 = some r → (orc T N).deep F.zkk [(Sl.enc zjm.enc) a0] = some [V.bool r] := by
 intro q N hM a0 r h
 rcases q with _ | q
 ·cases h
 obtain ⟨M, rfl⟩ : ∃ M, N = M + 8 := ⟨N - 8, by omega⟩
 have zbgy := (zbec q)
 generalize hR : some [V.bool r] = R
 rw [zhu, z4n, y4, zhs zoe rfl]
 rw [zkk] at h
 replace h := zbgy M (by omega) (M + 7) (by omega) _ _ _ _ h R hR
 simp only [zbea, simprocAttr, *]
def zbee := And.intro @kk <| And.intro @ke <| And.intro @kn <| And.intro @z8w <| And.intro @z8o <| @z8y
theorem zbef : ∀ (q N : Nat), 8 * q ≤ N → ∀ (a0 : zjp), ∀ (r : Bool), zkl q a0 = some r → (orc T N).deep F.zkl [zjp.enc a0] = some [V.bool r] := by
 intro q N hM a0 r h
 rcases q with _ | q
 ·cases h
 obtain ⟨M, rfl⟩ : ∃ M, N = M + 8 := ⟨N - 8, by omega⟩
 generalize hR : some [V.bool r] = R
 rw [zhu, z5f, y4, zhs zt4 rfl]
 rw [zkl] at h
 replace h := br h; rcases h with ⟨h1, h⟩ | ⟨h1, h⟩
 ·replace h := br h; rcases h with ⟨h2, h⟩ | ⟨h2, h⟩
  ·replace h := ob h; obtain ⟨r1, h3, h⟩ := h
   replace h3 := zbcl q (M + 7) (by omega) _ _ h3
   replace h := br h; rcases h with ⟨h4, h⟩ | ⟨h4, h⟩
   ·replace h := ob h; obtain ⟨r2, h5, h⟩ := h
    replace h5 := zbcl q (M + 7) (by omega) _ _ h5
    cases h; subst hR; simp only [zbee, simprocAttr, *]
   ·cases h; subst hR; simp only [zbee, simprocAttr, *]
  ·cases h; subst hR; simp only [zbee, simprocAttr, *]
 ·cases h; subst hR; simp only [zbee, simprocAttr, *]
def zbeg := And.intro @kk <| And.intro @ke <| And.intro @kn <| And.intro @z60 <| And.intro @z8x <| @z62
theorem zbeh : ∀ (q N : Nat), 8 * q ≤ N → ∀ (a0 : zjq), ∀ (r : Bool), zkm q a0 = some r → (orc T N).deep F.zkm [zjq.enc a0] = some [V.bool r] := by
 intro q N hM a0 r h
 rcases q with _ | q
 ·cases h
 obtain ⟨M, rfl⟩ : ∃ M, N = M + 8 := ⟨N - 8, by omega⟩
 generalize hR : some [V.bool r] = R
 rw [zhu, z4s, y4, zhs zpf rfl]
 rw [zkm] at h
 replace h := br h; rcases h with ⟨h1, h⟩ | ⟨h1, h⟩
 ·replace h := br h; rcases h with ⟨h2, h⟩ | ⟨h2, h⟩
  ·replace h := br h; rcases h with ⟨h3, h⟩ | ⟨h3, h⟩
   ·replace h := br h; rcases h with ⟨h4, h⟩ | ⟨h4, h⟩
    ·replace h := br h; rcases h with ⟨h5, h⟩ | ⟨h5, h⟩
     ·replace h := br h; rcases h with ⟨h6, h⟩ | ⟨h6, h⟩
      ·replace h := ob h; obtain ⟨r1, h7, h⟩ := h
       replace h7 := zbef q (M + 7) (by omega) _ _ h7
       try simp only [kf, simprocAttr] at h7
       replace h := bb h; rcases h with ⟨h8', h8, h⟩ | ⟨h8', h8, h⟩
       ·replace h := br h; rcases h with ⟨h9, h⟩ | ⟨h9, h⟩
        ·cases h; subst hR; simp only [zbeg, simprocAttr, *]
        ·cases h; subst hR; simp only [zbeg, simprocAttr, *]
       ·cases h; subst hR; simp only [zbeg, simprocAttr, *]
      ·cases h; subst hR; simp only [zbeg, simprocAttr, *]
     ·cases h; subst hR; simp only [zbeg, simprocAttr, *]
    ·cases h; subst hR; simp only [zbeg, simprocAttr, *]
   ·cases h; subst hR; simp only [zbeg, simprocAttr, *]
  ·cases h; subst hR; simp only [zbeg, simprocAttr, *]
 ·cases h; subst hR; simp only [zbeg, simprocAttr, *]
def zbei := And.intro @kk <| And.intro @ke <| And.intro @kn <| And.intro @z8z <| And.intro @z8o <| @z81
theorem zbej : ∀ (q N : Nat), 8 * q ≤ N → ∀ (a0 : zjl) (a1 : zjp), ∀ (r : zjl × Int), zkn q a0 a1 = some r → (orc T N).deep F.zkn [zjl.enc a0, zjp.enc a1] = some [zjl.enc r.1, (V.int .i64) r.2] := by
 intro q N hM a0 a1 r h
 rcases q with _ | q
 ·cases h
 obtain ⟨M, rfl⟩ : ∃ M, N = M + 8 := ⟨N - 8, by omega⟩
 generalize hR : some [zjl.enc r.1, (V.int .i64) r.2] = R
 rw [zhu, z5g, y4, zhs zup rfl]
 rw [zkn] at h
 replace h := ob h; obtain ⟨e1, h1, h⟩ := h
 replace h := br h; rcases h with ⟨h2, h⟩ | ⟨h2, h⟩
 ·cases h; subst hR; simp only [zbei, simprocAttr, *]
 ·replace h := br h; rcases h with ⟨h3, h⟩ | ⟨h3, h⟩
  ·replace h := br h; rcases h with ⟨h4, h⟩ | ⟨h4, h⟩
   ·replace h := ob h; obtain ⟨r2, h5, h⟩ := h
    replace h5 := zbcl q (M + 7) (by omega) _ _ h5
    replace h := ob h; obtain ⟨r3, h6, h⟩ := h
    replace h6 := zbcl q (M + 7) (by omega) _ _ h6
    cases h; subst hR; simp only [zbei, simprocAttr, *]
   ·replace h := br h; rcases h with ⟨h7, h⟩ | ⟨h7, h⟩
    ·replace h := br h; rcases h with ⟨h8, h⟩ | ⟨h8, h⟩
     ·replace h := ob h; obtain ⟨r4, h9, h⟩ := h
      replace h9 := zbcl q (M + 7) (by omega) _ _ h9
      cases h; subst hR; simp only [zbei, simprocAttr, *]
     ·cases h; subst hR; simp only [zbei, simprocAttr, *]
    ·cases h; subst hR; simp only [zbei, simprocAttr, *]
  ·replace h := br h; rcases h with ⟨h10, h⟩ | ⟨h10, h⟩
   ·replace h := br h; rcases h with ⟨h11, h⟩ | ⟨h11, h⟩
    ·replace h := ob h; obtain ⟨r5, h12, h⟩ := h
     replace h12 := zbcl q (M + 7) (by omega) _ _ h12
     cases h; subst hR; simp only [zbei, simprocAttr, *]
    ·cases h; subst hR; simp only [zbei, simprocAttr, *]
   ·cases h; subst hR; simp only [zbei, simprocAttr, *]
def zbek := And.intro @kk <| And.intro @ke <| And.intro @kn <| And.intro @z9z <| @z91
theorem zbel : ∀ (q N : Nat), 8 * q ≤ N → ∀ (a0 : (Ow Int)) (a1 a2 : Int), ∀ (r : (Ow Int)), zko q a0 a1 a2 = some r → (orc T N).deep F.zko [(Ow.enc 1 (V.int .i64)) a0, (V.int .i64) a1, (V.int .i64) a2] = some [(Ow.enc 1 (V.int .i64)) r] := by
 intro q N hM a0 a1 a2 r h
 rcases q with _ | q
 ·cases h
 obtain ⟨M, rfl⟩ : ∃ M, N = M + 8 := ⟨N - 8, by omega⟩
 generalize hR : some [(Ow.enc 1 (V.int .i64)) r] = R
 rw [zhu, z5s, y4, zhs z1a rfl]
 rw [zko] at h
 replace h := bn h; obtain ⟨h1, h⟩ := h
 replace h := bn h; obtain ⟨h2, h⟩ := h
 replace h := bn h; obtain ⟨h3, h⟩ := h
 replace h := br h; rcases h with ⟨h4, h⟩ | ⟨h4, h⟩
 ·cases h; subst hR; simp only [zbek, simprocAttr, *]
 ·replace h := bn h; obtain ⟨h5, h⟩ := h
  replace h := bb h; rcases h with ⟨h6', h6, h⟩ | ⟨h6', h6, h⟩
  ·replace h := bn h; obtain ⟨h7, h⟩ := h
   replace h := bn h; obtain ⟨h8, h⟩ := h
   replace h := bn h; obtain ⟨h9, h⟩ := h
   replace h := bn h; obtain ⟨h10, h⟩ := h
   replace h := bn h; obtain ⟨h11, h⟩ := h
   replace h := bm h; obtain ⟨h12, h⟩ := h
   replace h := bb h; rcases h with ⟨h13', h13, h⟩ | ⟨h13', h13, h⟩
   ·cases h; subst hR; simp only [zbek, simprocAttr, *]
   ·cases h
  ·replace h := bn h; obtain ⟨h14, h⟩ := h
   replace h := bn h; obtain ⟨h15, h⟩ := h
   replace h := bn h; obtain ⟨h16, h⟩ := h
   replace h := bb h; rcases h with ⟨h17', h17, h⟩ | ⟨h17', h17, h⟩
   ·replace h := bn h; obtain ⟨h18, h⟩ := h
    replace h := bn h; obtain ⟨h19, h⟩ := h
    cases h; subst hR; simp only [zbek, simprocAttr, *]
   ·cases h
def zbem := And.intro @kk <| And.intro @ke <| And.intro @kn <| And.intro @z82 <| And.intro @z6s <| And.intro @z8o <| And.intro @z90 <| @z84
theorem zben : ∀ (q N : Nat), 8 * q ≤ N → ∀ (a0 : zjl) (a1 : zjp), ∀ (r : zjl × Int), zkp q a0 a1 = some r → (orc T N).deep F.zkp [zjl.enc a0, zjp.enc a1] = some [zjl.enc r.1, (V.int .i64) r.2] := by
 intro q N hM a0 a1 r h
 rcases q with _ | q
 ·cases h
 obtain ⟨M, rfl⟩ : ∃ M, N = M + 8 := ⟨N - 8, by omega⟩
 generalize hR : some [zjl.enc r.1, (V.int .i64) r.2] = R
 rw [zhu, z5h, y4, zhs zvn rfl]
 rw [zkp] at h
 replace h := br h; rcases h with ⟨h1, h⟩ | ⟨h1, h⟩
 ·cases h; subst hR; simp only [zbem, simprocAttr, *]
 ·replace h := br h; rcases h with ⟨h2, h⟩ | ⟨h2, h⟩
  ·replace h := br h; rcases h with ⟨h3, h⟩ | ⟨h3, h⟩
   ·replace h := ob h; obtain ⟨r1, h4, h⟩ := h
    replace h4 := zbda q (M + 7) (by omega) _ _ h4
    try simp only [kf, simprocAttr] at h4
    replace h := ob h; obtain ⟨r2, h5, h⟩ := h
    replace h5 := zbcl q (M + 7) (by omega) _ _ h5
    replace h := bn h; obtain ⟨h6, h⟩ := h
    cases h; subst hR; simp only [zbem, simprocAttr, *]
   ·cases h; subst hR; simp only [zbem, simprocAttr, *]
  ·replace h := br h; rcases h with ⟨h7, h⟩ | ⟨h7, h⟩
   ·replace h := br h; rcases h with ⟨h8, h⟩ | ⟨h8, h⟩
    ·cases h; subst hR; simp only [zbem, simprocAttr, *]
    ·replace h := br h; rcases h with ⟨h9, h⟩ | ⟨h9, h⟩
     ·replace h := ob h; obtain ⟨e3, h10, h⟩ := h
      replace h := ob h; obtain ⟨r4, h11, h⟩ := h
      replace h11 := zbda q (M + 7) (by omega) _ _ h11
      try simp only [kf, simprocAttr] at h11
      replace h := ob h; obtain ⟨r5, h12, h⟩ := h
      replace h12 := zbel q (M + 7) (by omega) _ _ _ _ h12
      try simp only [kf, simprocAttr] at h12
      cases h; subst hR; simp only [zbem, simprocAttr, *]
     ·replace h := bn h; obtain ⟨h13, h⟩ := h
      replace h := ob h; obtain ⟨e6, h14, h⟩ := h
      replace h := ob h; obtain ⟨r7, h15, h⟩ := h
      replace h15 := zbda q (M + 7) (by omega) _ _ h15
      try simp only [kf, simprocAttr] at h15
      replace h := ob h; obtain ⟨r8, h16, h⟩ := h
      replace h16 := zbel q (M + 7) (by omega) _ _ _ _ h16
      try simp only [kf, simprocAttr] at h16
      cases h; subst hR; simp only [zbem, simprocAttr, *]
   ·cases h; subst hR; simp only [zbem, simprocAttr, *]
def zbeo (q : Nat) : Prop := ∀ (M : Nat) (hM : 8 * q ≤ M) (j : Nat) (hj : q ≤ j) (v0z : Bool) (v0l : List Int) (v1 v6 : Int) (r : Int × Bool) (_ : zkq q v0z v0l v1 v6 = some r) (R : Option (List V)) (_ : some [(V.int .i64) r.1, V.bool r.2] = R) (fr : Fr) (H : Hp) (_ : canon 0 [0, 1, 6] fr H = ([(0, (.sl v0z (List.map (V.int .i64) v0l))), (1, (.int .i64 v1)), (6, (.int .i64 v6))], [])), fin z1y (unw T (orc T (M + 7)) (M + 7) 0 [.blk 0, .code z1u] (iter 0 [0, 1, 6] (exec T (orc T (M + 7)) (M + 7) 0 z1s) j fr H)) = R
def zbep := And.intro @kk <| And.intro @ke <| And.intro @kn <| And.intro @z95 <| @z97
theorem zbeq (q : Nat) (zbgz : zbeo q) : zbeo (q + 1) := by
 intro M hM j hj v0z v0l v1 v6 r h R hR fr H hc
 obtain ⟨j, rfl⟩ : ∃ i, j = i + 1 := ⟨j - 1, by omega⟩
 rw [zhk, hc]; clear hc
 rw [zkq] at h
 replace h := br h; rcases h with ⟨h1, h⟩ | ⟨h1, h⟩
 ·replace h := bn h; obtain ⟨h2, h⟩ := h
  replace h := ob h; obtain ⟨e1, h3, h⟩ := h
  replace h := br h; rcases h with ⟨h4, h⟩ | ⟨h4, h⟩
  ·replace h := zbgz M (by omega) j (by omega) _ _ _ _ _ h R hR
   simp only [zbep, simprocAttr, *]
  ·cases h; subst hR; simp only [zbep, simprocAttr, *]
 ·cases h; subst hR; simp only [zbep, simprocAttr, *]
theorem zber : ∀ q, zbeo q
 | 0 => by intro M hM j hj; intros; rename_i h _ _ _ _ _; cases h
 | q + 1 => by have i0 := zber q; exact zbeq q i0
theorem zbes : ∀ (q N : Nat), 8 * q ≤ N → ∀ (a0 : (Sl Int)) (a1 : Int), ∀ (r : Int × Bool), zkr q a0 a1 = some r → (orc T N).deep F.zkr [(Sl.enc (V.int .i64)) a0, (V.int .i64) a1] = some [(V.int .i64) r.1, V.bool r.2] := by
 intro q N hM a0 a1 r h
 rcases q with _ | q
 ·cases h
 obtain ⟨M, rfl⟩ : ∃ M, N = M + 8 := ⟨N - 8, by omega⟩
 have zbgz := (zber q)
 generalize hR : some [(V.int .i64) r.1, V.bool r.2] = R
 rw [zhu, z5u, y4, zhs z1y rfl]
 rw [zkr] at h
 replace h := zbgz M (by omega) (M + 7) (by omega) _ _ _ _ _ h R hR
 simp only [zbep, simprocAttr, *]
def zbet := And.intro @kk <| And.intro @ke <| And.intro @kn <| And.intro @z92 <| And.intro @z96 <| @z94
theorem zbeu : ∀ (q N : Nat), 8 * q ≤ N → ∀ (a0 : (Sl Int)) (a1 : Int), ∀ (r : Int), zks q a0 a1 = some r → (orc T N).deep F.zks [(Sl.enc (V.int .i64)) a0, (V.int .i64) a1] = some [(V.int .i64) r] := by
 intro q N hM a0 a1 r h
 rcases q with _ | q
 ·cases h
 obtain ⟨M, rfl⟩ : ∃ M, N = M + 8 := ⟨N - 8, by omega⟩
 generalize hR : some [(V.int .i64) r] = R
 rw [zhu, z5t, y4, zhs z1l rfl]
 rw [zks] at h
 replace h := ob h; obtain ⟨r1, h1, h⟩ := h
 replace h1 := zbes q (M + 7) (by omega) _ _ _ h1
 try simp only [kf, simprocAttr] at h1
 replace h := bb h; rcases h with ⟨h2', h2, h⟩ | ⟨h2', h2, h⟩
 ·replace h := bn h; obtain ⟨h3, h⟩ := h
  replace h := ob h; obtain ⟨e2, h4, h⟩ := h
  cases h; subst hR; simp only [zbet, simprocAttr, *]
 ·cases h; subst hR; simp only [zbet, simprocAttr, *]
theorem zbev : ∀ (q N : Nat), 8 * q ≤ N → ∀ (a0 : (Ow Int)) (a1 : Int) (a2 : (Ow Int)), ∀ (r : (Ow Int)), zkt q a0 a1 a2 = some r → (orc T N).deep F.zkt [(Ow.enc 1 (V.int .i64)) a0, (V.int .i64) a1, (Ow.enc 1 (V.int .i64)) a2] = some [(Ow.enc 1 (V.int .i64)) r] := by
 intro q N hM a0 a1 a2 r h
 rcases q with _ | q
 ·cases h
 obtain ⟨M, rfl⟩ : ∃ M, N = M + 8 := ⟨N - 8, by omega⟩
 rw [zhu, z5z, y4, zhr z4f rfl]
 rw [zkt] at h
 by_cases c : insOk a0 a1 a2
 ·rw [if_pos c] at h; cases h; exact zi0 (V.int .i64) 1 c
 ·rw [if_neg c] at h; cases h
def zbew := And.intro @kk <| And.intro @ke <| And.intro @kn <| And.intro @z98 <| And.intro @z6s <| And.intro @z96 <| And.intro @zbak <| @zbaa
theorem zbex : ∀ (q N : Nat), 8 * q ≤ N → ∀ (a0 : (Sl Int)) (a1 a2 : Int), ∀ (r : (Sl Int) × Bool), zku q a0 a1 a2 = some r → (orc T N).deep F.zku [(Sl.enc (V.int .i64)) a0, (V.int .i64) a1, (V.int .i64) a2] = some [(Sl.enc (V.int .i64)) r.1, V.bool r.2] := by
 intro q N hM a0 a1 a2 r h
 rcases q with _ | q
 ·cases h
 obtain ⟨M, rfl⟩ : ∃ M, N = M + 8 := ⟨N - 8, by omega⟩
 generalize hR : some [(Sl.enc (V.int .i64)) r.1, V.bool r.2] = R
 rw [zhu, z5v, y4, zhs z2g rfl]
 rw [zku] at h
 replace h := ob h; obtain ⟨r1, h1, h⟩ := h
 replace h1 := zbes q (M + 7) (by omega) _ _ _ h1
 try simp only [kf, simprocAttr] at h1
 replace h := bb h; rcases h with ⟨h2', h2, h⟩ | ⟨h2', h2, h⟩
 ·replace h := ob h; obtain ⟨r2, h3, h⟩ := h
  replace h3 := zbda q (M + 7) (by omega) _ _ h3
  try simp only [kf, simprocAttr] at h3
  replace h := bn h; obtain ⟨h4, h⟩ := h
  replace h := bn h; obtain ⟨h5, h⟩ := h
  replace h := ob h; obtain ⟨e3, h6, h⟩ := h
  replace h := bb h; rcases h with ⟨h7', h7, h⟩ | ⟨h7', h7, h⟩
  ·cases h; subst hR; simp only [zbew, simprocAttr, *]
  ·cases h
 ·replace h := br h; rcases h with ⟨h8, h⟩ | ⟨h8, h⟩
  ·cases h; subst hR; simp only [zbew, simprocAttr, *]
  ·replace h := ob h; obtain ⟨r4, h9, h⟩ := h
   replace h9 := zbda q (M + 7) (by omega) _ _ h9
   try simp only [kf, simprocAttr] at h9
   replace h := ob h; obtain ⟨r5, h10, h⟩ := h
   replace h10 := zbev q (M + 7) (by omega) _ _ _ _ h10
   try simp only [kf, simprocAttr] at h10
   cases h; subst hR; simp only [zbew, simprocAttr, *]
def zbey := And.intro @kk <| And.intro @ke <| And.intro @kn <| And.intro @z85 <| And.intro @z6s <| And.intro @z8o <| And.intro @z90 <| And.intro @z93 <| And.intro @z96 <| And.intro @z99 <| @z87
theorem zbez : ∀ (q N : Nat), 8 * q ≤ N → ∀ (a0 : zjl) (a1 : zjp), ∀ (r : zjl × Int), zkv q a0 a1 = some r → (orc T N).deep F.zkv [zjl.enc a0, zjp.enc a1] = some [zjl.enc r.1, (V.int .i64) r.2] := by
 intro q N hM a0 a1 r h
 rcases q with _ | q
 ·cases h
 obtain ⟨M, rfl⟩ : ∃ M, N = M + 8 := ⟨N - 8, by omega⟩
 generalize hR : some [zjl.enc r.1, (V.int .i64) r.2] = R
 rw [zhu, z5i, y4, zhs zwn rfl]
 rw [zkv] at h
 replace h := br h; rcases h with ⟨h1, h⟩ | ⟨h1, h⟩
 ·replace h := br h; rcases h with ⟨h2, h⟩ | ⟨h2, h⟩
  ·cases h; subst hR; simp only [zbey, simprocAttr, *]
  ·replace h := br h; rcases h with ⟨h3, h⟩ | ⟨h3, h⟩
   ·cases h; subst hR; simp only [zbey, simprocAttr, *]
   ·replace h := ob h; obtain ⟨r1, h4, h⟩ := h
    replace h4 := zbeu q (M + 7) (by omega) _ _ _ h4
    try simp only [kf, simprocAttr] at h4
    replace h := ob h; obtain ⟨r2, h5, h⟩ := h
    replace h5 := zbes q (M + 7) (by omega) _ _ _ h5
    try simp only [kf, simprocAttr] at h5
    replace h := br h; rcases h with ⟨h6, h⟩ | ⟨h6, h⟩
    ·replace h := bb h; rcases h with ⟨h7', h7, h⟩ | ⟨h7', h7, h⟩
     ·replace h := ob h; obtain ⟨r3, h8, h⟩ := h
      replace h8 := zbda q (M + 7) (by omega) _ _ h8
      try simp only [kf, simprocAttr] at h8
      replace h := ob h; obtain ⟨r4, h9, h⟩ := h
      replace h9 := zbel q (M + 7) (by omega) _ _ _ _ h9
      try simp only [kf, simprocAttr] at h9
      cases h; subst hR; simp only [zbey, simprocAttr, *]
     ·replace h := br h; rcases h with ⟨h10, h⟩ | ⟨h10, h⟩
      ·replace h := ob h; obtain ⟨r5, h11, h⟩ := h
       replace h11 := zbcl q (M + 7) (by omega) _ _ h11
       replace h := ob h; obtain ⟨r6, h12, h⟩ := h
       replace h12 := zbex q (M + 7) (by omega) _ _ _ _ h12
       try simp only [kf, simprocAttr] at h12
       replace h := bb h; rcases h with ⟨h13', h13, h⟩ | ⟨h13', h13, h⟩
       ·cases h; subst hR; simp only [zbey, simprocAttr, *]
       ·cases h; subst hR; simp only [zbey, simprocAttr, *]
      ·cases h; subst hR; simp only [zbey, simprocAttr, *]
    ·replace h := br h; rcases h with ⟨h14, h⟩ | ⟨h14, h⟩
     ·replace h := ob h; obtain ⟨r7, h15, h⟩ := h
      replace h15 := zbcl q (M + 7) (by omega) _ _ h15
      replace h := ob h; obtain ⟨r8, h16, h⟩ := h
      replace h16 := zbex q (M + 7) (by omega) _ _ _ _ h16
      try simp only [kf, simprocAttr] at h16
      replace h := bb h; rcases h with ⟨h17', h17, h⟩ | ⟨h17', h17, h⟩
      ·cases h; subst hR; simp only [zbey, simprocAttr, *]
      ·cases h; subst hR; simp only [zbey, simprocAttr, *]
     ·cases h; subst hR; simp only [zbey, simprocAttr, *]
 ·replace h := br h; rcases h with ⟨h18, h⟩ | ⟨h18, h⟩
  ·replace h := br h; rcases h with ⟨h19, h⟩ | ⟨h19, h⟩
   ·cases h; subst hR; simp only [zbey, simprocAttr, *]
   ·replace h := br h; rcases h with ⟨h20, h⟩ | ⟨h20, h⟩
    ·cases h; subst hR; simp only [zbey, simprocAttr, *]
    ·replace h := ob h; obtain ⟨r9, h21, h⟩ := h
     replace h21 := zbeu q (M + 7) (by omega) _ _ _ h21
     try simp only [kf, simprocAttr] at h21
     replace h := ob h; obtain ⟨r10, h22, h⟩ := h
     replace h22 := zbes q (M + 7) (by omega) _ _ _ h22
     try simp only [kf, simprocAttr] at h22
     replace h := bb h; rcases h with ⟨h23', h23, h⟩ | ⟨h23', h23, h⟩
     ·replace h := ob h; obtain ⟨r11, h24, h⟩ := h
      replace h24 := zbda q (M + 7) (by omega) _ _ h24
      try simp only [kf, simprocAttr] at h24
      replace h := ob h; obtain ⟨r12, h25, h⟩ := h
      replace h25 := zbel q (M + 7) (by omega) _ _ _ _ h25
      try simp only [kf, simprocAttr] at h25
      cases h; subst hR; simp only [zbey, simprocAttr, *]
     ·replace h := br h; rcases h with ⟨h26, h⟩ | ⟨h26, h⟩
      ·replace h := ob h; obtain ⟨r13, h27, h⟩ := h
       replace h27 := zbcl q (M + 7) (by omega) _ _ h27
       replace h := ob h; obtain ⟨r14, h28, h⟩ := h
       replace h28 := zbex q (M + 7) (by omega) _ _ _ _ h28
       try simp only [kf, simprocAttr] at h28
       replace h := bb h; rcases h with ⟨h29', h29, h⟩ | ⟨h29', h29, h⟩
       ·cases h; subst hR; simp only [zbey, simprocAttr, *]
       ·cases h; subst hR; simp only [zbey, simprocAttr, *]
      ·cases h; subst hR; simp only [zbey, simprocAttr, *]
  ·replace h := br h; rcases h with ⟨h30, h⟩ | ⟨h30, h⟩
   ·replace h := br h; rcases h with ⟨h31, h⟩ | ⟨h31, h⟩
    ·cases h; subst hR; simp only [zbey, simprocAttr, *]
    ·replace h := br h; rcases h with ⟨h32, h⟩ | ⟨h32, h⟩
     ·cases h; subst hR; simp only [zbey, simprocAttr, *]
     ·replace h := ob h; obtain ⟨r15, h33, h⟩ := h
      replace h33 := zbeu q (M + 7) (by omega) _ _ _ h33
      try simp only [kf, simprocAttr] at h33
      replace h := ob h; obtain ⟨r16, h34, h⟩ := h
      replace h34 := zbes q (M + 7) (by omega) _ _ _ h34
      try simp only [kf, simprocAttr] at h34
      replace h := ob h; obtain ⟨r17, h35, h⟩ := h
      replace h35 := zbcl q (M + 7) (by omega) _ _ h35
      replace h := ob h; obtain ⟨r18, h36, h⟩ := h
      replace h36 := zbex q (M + 7) (by omega) _ _ _ _ h36
      try simp only [kf, simprocAttr] at h36
      replace h := bb h; rcases h with ⟨h37', h37, h⟩ | ⟨h37', h37, h⟩
      ·cases h; subst hR; simp only [zbey, simprocAttr, *]
      ·cases h; subst hR; simp only [zbey, simprocAttr, *]
   ·cases h; subst hR; simp only [zbey, simprocAttr, *]
def zbe0 := And.intro @kk <| And.intro @ke <| And.intro @kn <| And.intro @zbab <| And.intro @z93 <| And.intro @z99 <| @zbad
theorem zbe1 : ∀ (q N : Nat), 8 * q ≤ N → ∀ (a0 : zjl) (a1 : zjp), ∀ (r : zjl × Int), zkw q a0 a1 = some r → (orc T N).deep F.zkw [zjl.enc a0, zjp.enc a1] = some [zjl.enc r.1, (V.int .i64) r.2] := by
 intro q N hM a0 a1 r h
 rcases q with _ | q
 ·cases h
 obtain ⟨M, rfl⟩ : ∃ M, N = M + 8 := ⟨N - 8, by omega⟩
 generalize hR : some [zjl.enc r.1, (V.int .i64) r.2] = R
 rw [zhu, z5w, y4, zhs z28 rfl]
 rw [zkw] at h
 replace h := br h; rcases h with ⟨h1, h⟩ | ⟨h1, h⟩
 ·cases h; subst hR; simp only [zbe0, simprocAttr, *]
 ·replace h := br h; rcases h with ⟨h2, h⟩ | ⟨h2, h⟩
  ·cases h; subst hR; simp only [zbe0, simprocAttr, *]
  ·replace h := br h; rcases h with ⟨h3, h⟩ | ⟨h3, h⟩
   ·cases h; subst hR; simp only [zbe0, simprocAttr, *]
   ·replace h := ob h; obtain ⟨r1, h4, h⟩ := h
    replace h4 := zbeu q (M + 7) (by omega) _ _ _ h4
    try simp only [kf, simprocAttr] at h4
    replace h := ob h; obtain ⟨r2, h5, h⟩ := h
    replace h5 := zbeu q (M + 7) (by omega) _ _ _ h5
    try simp only [kf, simprocAttr] at h5
    replace h := br h; rcases h with ⟨h6, h⟩ | ⟨h6, h⟩
    ·cases h; subst hR; simp only [zbe0, simprocAttr, *]
    ·replace h := br h; rcases h with ⟨h7, h⟩ | ⟨h7, h⟩
     ·cases h; subst hR; simp only [zbe0, simprocAttr, *]
     ·replace h := ob h; obtain ⟨r3, h8, h⟩ := h
      replace h8 := zbex q (M + 7) (by omega) _ _ _ _ h8
      try simp only [kf, simprocAttr] at h8
      replace h := bb h; rcases h with ⟨h9', h9, h⟩ | ⟨h9', h9, h⟩
      ·replace h := br h; rcases h with ⟨h10, h⟩ | ⟨h10, h⟩
       ·cases h; subst hR; simp only [zbe0, simprocAttr, *]
       ·replace h := ob h; obtain ⟨r4, h11, h⟩ := h
        replace h11 := zbex q (M + 7) (by omega) _ _ _ _ h11
        try simp only [kf, simprocAttr] at h11
        cases h; subst hR; simp only [zbe0, simprocAttr, *]
      ·cases h; subst hR; simp only [zbe0, simprocAttr, *]
def zbe2 := And.intro @kk <| And.intro @ke <| And.intro @kn <| And.intro @z88 <| And.intro @z8o <| And.intro @z93 <| And.intro @z99 <| And.intro @zbac <| @z9a
theorem zbe3 : ∀ (q N : Nat), 8 * q ≤ N → ∀ (a0 : zjl) (a1 : zjp), ∀ (r : zjl × Int), zkx q a0 a1 = some r → (orc T N).deep F.zkx [zjl.enc a0, zjp.enc a1] = some [zjl.enc r.1, (V.int .i64) r.2] := by
 intro q N hM a0 a1 r h
 rcases q with _ | q
 ·cases h
 obtain ⟨M, rfl⟩ : ∃ M, N = M + 8 := ⟨N - 8, by omega⟩
 generalize hR : some [zjl.enc r.1, (V.int .i64) r.2] = R
 rw [zhu, z5j, y4, zhs zxi rfl]
 rw [zkx] at h
 replace h := br h; rcases h with ⟨h1, h⟩ | ⟨h1, h⟩
 ·replace h := ob h; obtain ⟨r1, h2, h⟩ := h
  replace h2 := zbe1 q (M + 7) (by omega) _ _ _ h2
  try simp only [kf, simprocAttr] at h2
  cases h; subst hR; simp only [zbe2, simprocAttr, *]
 ·replace h := br h; rcases h with ⟨h3, h⟩ | ⟨h3, h⟩
  ·replace h := br h; rcases h with ⟨h4, h⟩ | ⟨h4, h⟩
   ·cases h; subst hR; simp only [zbe2, simprocAttr, *]
   ·replace h := br h; rcases h with ⟨h5, h⟩ | ⟨h5, h⟩
    ·cases h; subst hR; simp only [zbe2, simprocAttr, *]
    ·replace h := ob h; obtain ⟨r2, h6, h⟩ := h
     replace h6 := zbeu q (M + 7) (by omega) _ _ _ h6
     try simp only [kf, simprocAttr] at h6
     cases h; subst hR; simp only [zbe2, simprocAttr, *]
  ·replace h := br h; rcases h with ⟨h7, h⟩ | ⟨h7, h⟩
   ·replace h := br h; rcases h with ⟨h8, h⟩ | ⟨h8, h⟩
    ·cases h; subst hR; simp only [zbe2, simprocAttr, *]
    ·replace h := br h; rcases h with ⟨h9, h⟩ | ⟨h9, h⟩
     ·cases h; subst hR; simp only [zbe2, simprocAttr, *]
     ·replace h := br h; rcases h with ⟨h10, h⟩ | ⟨h10, h⟩
      ·cases h; subst hR; simp only [zbe2, simprocAttr, *]
      ·replace h := ob h; obtain ⟨r3, h11, h⟩ := h
       replace h11 := zbeu q (M + 7) (by omega) _ _ _ h11
       try simp only [kf, simprocAttr] at h11
       replace h := ob h; obtain ⟨r4, h12, h⟩ := h
       replace h12 := zbcl q (M + 7) (by omega) _ _ h12
       replace h := ob h; obtain ⟨r5, h13, h⟩ := h
       replace h13 := zbcl q (M + 7) (by omega) _ _ h13
       replace h := ob h; obtain ⟨r6, h14, h⟩ := h
       replace h14 := zbex q (M + 7) (by omega) _ _ _ _ h14
       try simp only [kf, simprocAttr] at h14
       replace h := bb h; rcases h with ⟨h15', h15, h⟩ | ⟨h15', h15, h⟩
       ·cases h; subst hR; simp only [zbe2, simprocAttr, *]
       ·cases h; subst hR; simp only [zbe2, simprocAttr, *]
   ·cases h; subst hR; simp only [zbe2, simprocAttr, *]
def zbe4 := And.intro @kk <| And.intro @ke <| And.intro @kn <| And.intro @z63 <| And.intro @z6v <| And.intro @z80 <| And.intro @z83 <| And.intro @z86 <| And.intro @z89 <| @z65
theorem zbe5 : ∀ (q N : Nat), 8 * q ≤ N → ∀ (a0 : zjl) (a1 : zjp), ∀ (r : zjl × Int), zky q a0 a1 = some r → (orc T N).deep F.zky [zjl.enc a0, zjp.enc a1] = some [zjl.enc r.1, (V.int .i64) r.2] := by
 intro q N hM a0 a1 r h
 rcases q with _ | q
 ·cases h
 obtain ⟨M, rfl⟩ : ∃ M, N = M + 8 := ⟨N - 8, by omega⟩
 generalize hR : some [zjl.enc r.1, (V.int .i64) r.2] = R
 rw [zhu, z4t, y4, zhs zp7 rfl]
 rw [zky] at h
 replace h := ob h; obtain ⟨r1, h1, h⟩ := h
 replace h1 := zbcz q (M + 7) (by omega) _ _ h1
 try simp only [kf, simprocAttr] at h1
 replace h := bb h; rcases h with ⟨h2', h2, h⟩ | ⟨h2', h2, h⟩
 ·replace h := bb h; rcases h with ⟨h3', h3, h⟩ | ⟨h3', h3, h⟩
  ·cases h; subst hR; simp only [zbe4, simprocAttr, *]
  ·replace h := br h; rcases h with ⟨h4, h⟩ | ⟨h4, h⟩
   ·replace h := br h; rcases h with ⟨h5, h⟩ | ⟨h5, h⟩
    ·replace h := br h; rcases h with ⟨h6, h⟩ | ⟨h6, h⟩
     ·cases h; subst hR; simp only [zbe4, simprocAttr, *]
     ·cases h; subst hR; simp only [zbe4, simprocAttr, *]
    ·cases h; subst hR; simp only [zbe4, simprocAttr, *]
   ·replace h := br h; rcases h with ⟨h7, h⟩ | ⟨h7, h⟩
    ·replace h := ob h; obtain ⟨r2, h8, h⟩ := h
     replace h8 := zbej q (M + 7) (by omega) _ _ _ h8
     try simp only [kf, simprocAttr] at h8
     cases h; subst hR; simp only [zbe4, simprocAttr, *]
    ·replace h := br h; rcases h with ⟨h9, h⟩ | ⟨h9, h⟩
     ·replace h := ob h; obtain ⟨r3, h10, h⟩ := h
      replace h10 := zbej q (M + 7) (by omega) _ _ _ h10
      try simp only [kf, simprocAttr] at h10
      cases h; subst hR; simp only [zbe4, simprocAttr, *]
     ·replace h := br h; rcases h with ⟨h11, h⟩ | ⟨h11, h⟩
      ·replace h := ob h; obtain ⟨r4, h12, h⟩ := h
       replace h12 := zben q (M + 7) (by omega) _ _ _ h12
       try simp only [kf, simprocAttr] at h12
       cases h; subst hR; simp only [zbe4, simprocAttr, *]
      ·replace h := br h; rcases h with ⟨h13, h⟩ | ⟨h13, h⟩
       ·replace h := ob h; obtain ⟨r5, h14, h⟩ := h
        replace h14 := zben q (M + 7) (by omega) _ _ _ h14
        try simp only [kf, simprocAttr] at h14
        cases h; subst hR; simp only [zbe4, simprocAttr, *]
       ·replace h := br h; rcases h with ⟨h15, h⟩ | ⟨h15, h⟩
        ·replace h := ob h; obtain ⟨r6, h16, h⟩ := h
         replace h16 := zbez q (M + 7) (by omega) _ _ _ h16
         try simp only [kf, simprocAttr] at h16
         cases h; subst hR; simp only [zbe4, simprocAttr, *]
        ·replace h := ob h; obtain ⟨r7, h17, h⟩ := h
         replace h17 := zbe3 q (M + 7) (by omega) _ _ _ h17
         try simp only [kf, simprocAttr] at h17
         cases h; subst hR; simp only [zbe4, simprocAttr, *]
 ·cases h; subst hR; simp only [zbe4, simprocAttr, *]
def zbe6 (q : Nat) : Prop := ∀ (M : Nat) (hM : 8 * q ≤ M) (j : Nat) (hj : q ≤ j) (v8z : Bool) (v8l : List zjq) (v9 h0_0 h0_1 : Int) (h0_2z : Bool) (h0_2l : List Int) (h0_3 : Bool) (h0_4 : Int) (h0_5z : Bool) (h0_5l : List zjm) (r : zjn × Int) (_ : zk0 q v8z v8l v9 h0_0 h0_1 h0_2z h0_2l h0_3 h0_4 h0_5z h0_5l = some r) (R : Option (List V)) (_ : some [zjn.enc r.1, (V.int .i64) r.2] = R) (fr : Fr) (H : Hp) (_ : canon 0 [2, 4, 8, 9, 10] fr H = ([(2, (.ptr 0 0)), (4, (.ptr 1 0)), (8, (.sl v8z (List.map zjq.enc v8l))), (9, (.int .i64 v9)), (10, (.int .i64 0))], [(.box [(.int .i64 h0_0), (.int .i64 h0_1), (.sl h0_2z (List.map (V.int .i64) h0_2l)), (.bool h0_3), (.int .i64 h0_4), (.sl h0_5z (List.map zjm.enc h0_5l))]), (.box [(.int .i64 0), (.int .i64 0), (.sl true []), (.bool false), (.int .i64 0), (.sl true [])])])), fin zng (unw T (orc T (M + 7)) (M + 7) 0 [.blk 0, .code znd] (iter 0 [2, 4, 8, 9, 10] (exec T (orc T (M + 7)) (M + 7) 0 zna) j fr H)) = R
def zbe7 (q : Nat) : Prop := ∀ (M : Nat) (hM : 8 * q ≤ M) (j : Nat) (hj : q ≤ j) (v8z : Bool) (v8l : List zjq) (v9 v10 h0_0 h0_1 : Int) (h0_2z : Bool) (h0_2l : List Int) (h0_3 : Bool) (h0_4 : Int) (h2z : Bool) (h2l : List zjm) (h2x : Bool) (r : zjn × Int) (_ : zkz q v8z v8l v9 v10 h0_0 h0_1 h0_2z h0_2l h0_3 h0_4 h2z h2l h2x = some r) (R : Option (List V)) (_ : some [zjn.enc r.1, (V.int .i64) r.2] = R) (fr : Fr) (H : Hp) (_ : canon 0 [2, 4, 8, 9, 10] fr H = ([(2, (.ptr 0 0)), (4, (.ptr 1 0)), (8, (.sl v8z (List.map zjq.enc v8l))), (9, (.int .i64 v9)), (10, (.int .i64 v10))], [(.box [(.int .i64 h0_0), (.int .i64 h0_1), (.sl h0_2z (List.map (V.int .i64) h0_2l)), (.bool h0_3), (.int .i64 h0_4), (.vw 2 0 0 h2l.length 1)]), (.box [(.int .i64 0), (.int .i64 0), (.sl true []), (.bool false), (.int .i64 0), (.sl true [])]), (.row 0 h2z 3 (List.map zjm.enc h2l) h2x)])), fin zng (unw T (orc T (M + 7)) (M + 7) 0 [.blk 0, .code znd] (iter 0 [2, 4, 8, 9, 10] (exec T (orc T (M + 7)) (M + 7) 0 zna) j fr H)) = R
def zbe8 := And.intro @kk <| And.intro @ke <| And.intro @kn <| And.intro @z56 <| And.intro @z6g <| And.intro @z61 <| And.intro @z64 <| @z58
theorem zbe9 (q : Nat) (zbg0 : zbe7 q) : zbe6 (q + 1) := by
 intro M hM j hj v8z v8l v9 h0_0 h0_1 h0_2z h0_2l h0_3 h0_4 h0_5z h0_5l r h R hR fr H hc
 obtain ⟨j, rfl⟩ : ∃ i, j = i + 1 := ⟨j - 1, by omega⟩
 rw [zhk, hc]; clear hc
 rw [zk0] at h
 replace h := br h; rcases h with ⟨h1, h⟩ | ⟨h1, h⟩
 ·replace h := ob h; obtain ⟨e1, h2, h⟩ := h
  replace h := br h; rcases h with ⟨h3, h⟩ | ⟨h3, h⟩
  ·replace h := ob h; obtain ⟨r2, h4, h⟩ := h
   replace h4 := zbeh q (M + 7) (by omega) _ _ h4
   try simp only [kf, simprocAttr] at h4
   replace h := bb h; rcases h with ⟨h5', h5, h⟩ | ⟨h5', h5, h⟩
   ·replace h := ob h; obtain ⟨r3, h6, h⟩ := h
    replace h6 := zbe5 q (M + 7) (by omega) _ _ _ h6
    try simp only [kf, simprocAttr] at h6
    replace h := ob h; obtain ⟨r4, h7, h⟩ := h
    replace h7 := zbdu q (M + 7) (by omega) _ _ _ h7
    try simp only [kf, simprocAttr] at h7
    replace h := zbg0 M (by omega) j (by omega) _ _ _ _ _ _ _ _ _ _ _ _ _ _ h R hR
    simp only [zbe8, simprocAttr, *]
   ·cases h; subst hR; simp only [zbe8, simprocAttr, *]
  ·cases h; subst hR; simp only [zbe8, simprocAttr, *]
 ·cases h; subst hR; simp only [zbe8, simprocAttr, *]
theorem zbfa (q : Nat) (zbg0 : zbe7 q) : zbe7 (q + 1) := by
 intro M hM j hj v8z v8l v9 v10 h0_0 h0_1 h0_2z h0_2l h0_3 h0_4 h2z h2l h2x r h R hR fr H hc
 obtain ⟨j, rfl⟩ : ∃ i, j = i + 1 := ⟨j - 1, by omega⟩
 rw [zhk, hc]; clear hc
 rw [zkz] at h
 replace h := br h; rcases h with ⟨h1, h⟩ | ⟨h1, h⟩
 ·replace h := bn h; obtain ⟨h2, h⟩ := h
  replace h := ob h; obtain ⟨e5, h3, h⟩ := h
  replace h := br h; rcases h with ⟨h4, h⟩ | ⟨h4, h⟩
  ·replace h := ob h; obtain ⟨r6, h5, h⟩ := h
   replace h5 := zbeh q (M + 7) (by omega) _ _ h5
   try simp only [kf, simprocAttr] at h5
   replace h := bb h; rcases h with ⟨h6', h6, h⟩ | ⟨h6', h6, h⟩
   ·replace h := ob h; obtain ⟨r7, h7, h⟩ := h
    replace h7 := zbe5 q (M + 7) (by omega) _ _ _ h7
    try simp only [kf, simprocAttr] at h7
    replace h := ob h; obtain ⟨r8, h8, h⟩ := h
    replace h8 := zbdu q (M + 7) (by omega) _ _ _ h8
    try simp only [kf, simprocAttr] at h8
    replace h := zbg0 M (by omega) j (by omega) _ _ _ _ _ _ _ _ _ _ _ _ _ _ h R hR
    simp only [zbe8, simprocAttr, *]
   ·cases h; subst hR; simp only [zbe8, simprocAttr, *]
  ·cases h; subst hR; simp only [zbe8, simprocAttr, *]
 ·cases h; subst hR; simp only [zbe8, simprocAttr, *]
theorem zbfb : ∀ q, zbe6 q ∧ zbe7 q
 | 0 => by refine ⟨?_, ?_⟩ <;> (intro M hM j hj; intros; rename_i h _ _ _ _ _; cases h)
 | q + 1 => by have ⟨i0, i1⟩ := zbfb q; exact ⟨zbe9 q i1, zbfa q i1⟩
theorem zbfc : ∀ (q N : Nat), 8 * q ≤ N → ∀ (a0 : zjn) (a1 : (Sl zjq)), ∀ (r : zjn × Int), zk1 q a0 a1 = some r → (orc T N).deep F.zk1 [zjn.enc a0, (Sl.enc zjq.enc) a1] = some [zjn.enc r.1, (V.int .i64) r.2] := by
 intro q N hM a0 a1 r h
 rcases q with _ | q
 ·cases h
 obtain ⟨M, rfl⟩ : ∃ M, N = M + 8 := ⟨N - 8, by omega⟩
 have ih_snapshot_Take_l0 := (zbfb q).1
 generalize hR : some [zjn.enc r.1, (V.int .i64) r.2] = R
 rw [zhu, z4i, y4, zhs zng rfl]
 rw [zk1] at h
 replace h := ih_snapshot_Take_l0 M (by omega) (M + 7) (by omega) _ _ _ _ _ _ _ _ _ _ _ _ h R hR
 simp only [zbe8, simprocAttr, *]
def zbfd (q : Nat) : Prop := ∀ (M : Nat) (hM : 8 * q ≤ M) (j : Nat) (hj : q ≤ j) (v5 : Int) (h0_0 h1_0 : List Int) (r : (List Int)) (_ : zk2 q v5 h0_0 h1_0 = some r) (R : Option (List V)) (_ : some [(arrEnc (V.int .u32)) r] = R) (fr : Fr) (H : Hp) (_ : canon 0 [0, 1, 5] fr H = ([(0, (.ptr 0 0)), (1, (.ptr 1 0)), (5, (.int .i64 v5))], [(.box (List.map (V.int .u32) h0_0)), (.box (List.map (V.int .u32) h1_0))])), fin z4e (unw T (orc T (M + 7)) (M + 7) 0 [.blk 0, .code z4a] (iter 0 [0, 1, 5] (exec T (orc T (M + 7)) (M + 7) 0 z37) j fr H)) = R
def zbfe (q : Nat) : Prop := ∀ (M : Nat) (hM : 8 * q ≤ M) (j : Nat) (hj : q ≤ j) (j1 : Nat) (hj1 : q ≤ j1) (v2 v3 v5 v10 : Int) (h0_0 h1_0 : List Int) (r : (List Int)) (_ : zk3 q v2 v3 v5 v10 h0_0 h1_0 = some r) (R : Option (List V)) (_ : some [(arrEnc (V.int .u32)) r] = R) (fr : Fr) (H : Hp) (_ : canon 0 [0, 1, 2, 3, 5, 10] fr H = ([(0, (.ptr 0 0)), (1, (.ptr 1 0)), (2, (.int .i64 v2)), (3, (.int .u32 v3)), (5, (.int .i64 v5)), (10, (.int .i64 v10))], [(.box (List.map (V.int .u32) h0_0)), (.box (List.map (V.int .u32) h1_0))])), fin z4e (unw T (orc T (M + 7)) (M + 7) 0 [.blk 2, .code z30, .blk 1, .code z34, .rounds [0, 1, 5] z37 j1, .blk 0, .code z4a] (iter 0 [0, 1, 2, 3, 5, 10] (exec T (orc T (M + 7)) (M + 7) 0 z3x) j fr H)) = R
def zbff := And.intro @kk <| And.intro @ke <| And.intro @kn <| And.intro @zbah <| @zbaj
theorem zbfg (q : Nat) (zbg1 : zbfe q) : zbfd (q + 1) := by
 intro M hM j hj v5 h0_0 h1_0 r h R hR fr H hc
 obtain ⟨j, rfl⟩ : ∃ i, j = i + 1 := ⟨j - 1, by omega⟩
 rw [zhk, hc]; clear hc
 rw [zk2] at h
 replace h := br h; rcases h with ⟨h1, h⟩ | ⟨h1, h⟩
 ·replace h := zbg1 M (by omega) (M + 7) (by omega) j (by omega) _ _ _ _ _ _ _ h R hR
  simp (maxDischargeDepth := 12) only [zbff, simprocAttr, arrEnc, *]
 ·replace h := bn h; obtain ⟨h2, h⟩ := h
  replace h := bc h; rcases h with ⟨h3, h⟩ | ⟨h3, h⟩
  ·replace h := bn h; obtain ⟨h4, h⟩ := h
   replace h := bn h; obtain ⟨h5, h⟩ := h
   cases h; subst hR; simp (maxDischargeDepth := 12) only [zbff, simprocAttr, arrEnc, *]
  ·cases h
theorem zbfh (q : Nat) (zbg2 : zbfd q) (zbg1 : zbfe q) : zbfe (q + 1) := by
 intro M hM j hj j1 hj1 v2 v3 v5 v10 h0_0 h1_0 r h R hR fr H hc
 obtain ⟨j, rfl⟩ : ∃ i, j = i + 1 := ⟨j - 1, by omega⟩
 rw [zhk, hc]; clear hc
 rw [zk3] at h
 replace h := br h; rcases h with ⟨h1, h⟩ | ⟨h1, h⟩
 ·replace h := zbg1 M (by omega) j (by omega) j1 (by omega) _ _ _ _ _ _ _ h R hR
  simp (maxDischargeDepth := 12) only [zbff, simprocAttr, arrEnc, *]
 ·replace h := bn h; obtain ⟨h2, h⟩ := h
  replace h := bn h; obtain ⟨h3, h⟩ := h
  replace h := bn h; obtain ⟨h4, h⟩ := h
  replace h := zbg2 M (by omega) j1 (by omega) _ _ _ _ h R hR
  simp (maxDischargeDepth := 12) only [zbff, simprocAttr, arrEnc, *]
theorem zbfi : ∀ q, zbfd q ∧ zbfe q
 | 0 => by refine ⟨?_, ?_⟩ <;> (intro M hM j hj; intros; rename_i h _ _ _ _ _; cases h)
 | q + 1 => by have ⟨i0, i1⟩ := zbfi q; exact ⟨zbfg q i1, zbfh q i0 i1⟩
theorem zbfj : ∀ (q N : Nat), 8 * q ≤ N → ∀ (r : (List Int)), zk4 q = some r → (orc T N).deep F.zk4 [] = some [(arrEnc (V.int .u32)) r] := by
 intro q N hM r h
 rcases q with _ | q
 ·cases h
 obtain ⟨M, rfl⟩ : ∃ M, N = M + 8 := ⟨N - 8, by omega⟩
 have zbg2 := (zbfi q).1
 generalize hR : some [(arrEnc (V.int .u32)) r] = R
 rw [zhu, z5y, y4, zhs z4e rfl]
 rw [zk4] at h
 replace h := zbg2 M (by omega) (M + 7) (by omega) _ _ _ _ h R hR
 simp (maxDischargeDepth := 12) only [zbff, simprocAttr, arrEnc, *]
def zbfk (q : Nat) : Prop := ∀ (M : Nat) (hM : 8 * q ≤ M) (j : Nat) (hj : q ≤ j) (v6 : Int) (v12z : Bool) (v12l : List Int) (v13 v14 : Int) (h0_0 : List Int) (r : Int) (_ : zk5 q v6 v12z v12l v13 v14 h0_0 = some r) (R : Option (List V)) (_ : some [(V.int .u32) r] = R) (fr : Fr) (H : Hp) (_ : canon 0 [5, 6, 12, 13, 14] fr H = ([(5, (.ptr 0 0)), (6, (.int .u32 v6)), (12, (.sl v12z (List.map (V.int .u8) v12l))), (13, (.int .i64 v13)), (14, (.int .i64 v14))], [(.box (List.map (V.int .u32) h0_0))])), fin zzw (unw T (orc T (M + 7)) (M + 7) 0 [.blk 0, .code zzr] (iter 0 [5, 6, 12, 13, 14] (exec T (orc T (M + 7)) (M + 7) 0 zzo) j fr H)) = R
def zbfl := And.intro @kk <| And.intro @ke <| And.intro @kn <| And.intro @z9q <| And.intro @zbai <| @z9s
theorem zbfm (q : Nat) (zbg3 : zbfk q) : zbfk (q + 1) := by
 intro M hM j hj v6 v12z v12l v13 v14 h0_0 r h R hR fr H hc
 obtain ⟨j, rfl⟩ : ∃ i, j = i + 1 := ⟨j - 1, by omega⟩
 rw [zhk, hc]; clear hc
 rw [zk5] at h
 replace h := br h; rcases h with ⟨h1, h⟩ | ⟨h1, h⟩
 ·replace h := bn h; obtain ⟨h2, h⟩ := h
  replace h := ob h; obtain ⟨e2, h3, h⟩ := h
  replace h := bn h; obtain ⟨h4, h⟩ := h
  replace h := bn h; obtain ⟨h5, h⟩ := h
  replace h := ob h; obtain ⟨e3, h6, h⟩ := h
  replace h := zbg3 M (by omega) j (by omega) _ _ _ _ _ _ _ h R hR
  simp only [zbfl, simprocAttr, arrEnc, *]
 ·cases h; subst hR; simp only [zbfl, simprocAttr, arrEnc, *]
theorem zbfn : ∀ q, zbfk q
 | 0 => by intro M hM j hj; intros; rename_i h _ _ _ _ _; cases h
 | q + 1 => by have i0 := zbfn q; exact zbfm q i0
theorem zbfo : ∀ (q N : Nat), 8 * q ≤ N → ∀ (a0 : Int) (a1 : (Sl Int)), ∀ (r : Int), zk6 q a0 a1 = some r → (orc T N).deep F.zk6 [(V.int .u32) a0, (Sl.enc (V.int .u8)) a1] = some [(V.int .u32) r] := by
 intro q N hM a0 a1 r h
 rcases q with _ | q
 ·cases h
 obtain ⟨M, rfl⟩ : ∃ M, N = M + 8 := ⟨N - 8, by omega⟩
 have zbg3 := (zbfn q)
 generalize hR : some [(V.int .u32) r] = R
 rw [zhu, z5p, y4, zhs zzw rfl]
 rw [zk6] at h
 replace h := ob h; obtain ⟨r1, h1, h⟩ := h
 replace h1 := zbfj q (M + 7) (by omega)  _ h1
 try simp only [kf, simprocAttr] at h1
 replace h := bc h; rcases h with ⟨h2, h⟩ | ⟨h2, h⟩
 ·replace h := zbg3 M (by omega) (M + 7) (by omega) _ _ _ _ _ _ _ h R hR
  simp only [zbfl, simprocAttr, arrEnc, *]
 ·cases h
def zbfp := And.intro @kk <| And.intro @ke <| And.intro @kn <| And.intro @z8b <| And.intro @z9r <| @z8d
theorem zbfq : ∀ (q N : Nat), 8 * q ≤ N → ∀ (a0 : (Sl Int)), ∀ (r : Int), zk7 q a0 = some r → (orc T N).deep F.zk7 [(Sl.enc (V.int .u8)) a0] = some [(V.int .u32) r] := by
 intro q N hM a0 r h
 rcases q with _ | q
 ·cases h
 obtain ⟨M, rfl⟩ : ∃ M, N = M + 8 := ⟨N - 8, by omega⟩
 generalize hR : some [(V.int .u32) r] = R
 rw [zhu, z48, y4, zhs zso rfl]
 rw [zk7] at h
 replace h := ob h; obtain ⟨r1, h1, h⟩ := h
 replace h1 := zbfo q (M + 7) (by omega) _ _ _ h1
 try simp only [kf, simprocAttr] at h1
 cases h; subst hR; simp only [zbfp, simprocAttr, *]
def zbfr (q : Nat) : Prop := ∀ (M : Nat) (hM : 8 * q ≤ M) (j : Nat) (hj : q ≤ j) (v0 v7 v8 : Int) (h0z : Bool) (h0l : List Int) (r : (Ow Int)) (_ : zk8 q v0 v7 v8 h0z h0l = some r) (R : Option (List V)) (_ : some [(Ow.enc 1 (V.int .u8)) r] = R) (fr : Fr) (H : Hp) (_ : canon 0 [0, 5, 7, 8] fr H = ([(0, (.int .u64 v0)), (5, (.vw 0 0 0 h0l.length 1)), (7, (.int .i64 v7)), (8, (.int .i64 v8))], [(.row 0 h0z 1 (List.map (V.int .u8) h0l) true)])), fin zzb (unw T (orc T (M + 7)) (M + 7) 0 [.blk 0, .code zy7] (iter 0 [0, 5, 7, 8] (exec T (orc T (M + 7)) (M + 7) 0 zy4) j fr H)) = R
def zbfs := And.intro @kk <| And.intro @ke <| And.intro @kn <| And.intro @z9n <| @z9p
theorem zbft (q : Nat) (zbg4 : zbfr q) : zbfr (q + 1) := by
 intro M hM j hj v0 v7 v8 h0z h0l r h R hR fr H hc
 obtain ⟨j, rfl⟩ : ∃ i, j = i + 1 := ⟨j - 1, by omega⟩
 rw [zhk, hc]; clear hc
 rw [zk8] at h
 replace h := br h; rcases h with ⟨h1, h⟩ | ⟨h1, h⟩
 ·replace h := bm h; obtain ⟨h2, h⟩ := h
  replace h := bn h; obtain ⟨h3, h⟩ := h
  replace h := zbg4 M (by omega) j (by omega) _ _ _ _ _ _ h R hR
  simp only [zbfs, simprocAttr, *]
 ·cases h; subst hR; simp only [zbfs, simprocAttr, *]
theorem zbfu : ∀ q, zbfr q
 | 0 => by intro M hM j hj; intros; rename_i h _ _ _ _ _; cases h
 | q + 1 => by have i0 := zbfu q; exact zbft q i0
theorem zbfv : ∀ (q N : Nat), 8 * q ≤ N → ∀ (a0 a1 : Int), ∀ (r : (Ow Int)), zk9 q a0 a1 = some r → (orc T N).deep F.zk9 [(V.int .u64) a0, (V.int .i64) a1] = some [(Ow.enc 1 (V.int .u8)) r] := by
 intro q N hM a0 a1 r h
 rcases q with _ | q
 ·cases h
 obtain ⟨M, rfl⟩ : ∃ M, N = M + 8 := ⟨N - 8, by omega⟩
 have zbg4 := (zbfu q)
 generalize hR : some [(Ow.enc 1 (V.int .u8)) r] = R
 rw [zhu, z5o, y4, zhs zzb rfl]
 rw [zk9] at h
 replace h := zbg4 M (by omega) (M + 7) (by omega) _ _ _ _ _ _ h R hR
 simp only [zbfs, simprocAttr, *]
def zbfw := And.intro @kk <| And.intro @ke <| And.intro @kn <| And.intro @z78 <| And.intro @z9o <| @z8a
theorem zbfx : ∀ (q N : Nat), 8 * q ≤ N → ∀ (a0 : Int), ∀ (r : (Ow Int)), zla q a0 = some r → (orc T N).deep F.zla [(V.int .u32) a0] = some [(Ow.enc 1 (V.int .u8)) r] := by
 intro q N hM a0 r h
 rcases q with _ | q
 ·cases h
 obtain ⟨M, rfl⟩ : ∃ M, N = M + 8 := ⟨N - 8, by omega⟩
 generalize hR : some [(Ow.enc 1 (V.int .u8)) r] = R
 rw [zhu, z47, y4, zhs zsm rfl]
 rw [zla] at h
 replace h := ob h; obtain ⟨r1, h1, h⟩ := h
 replace h1 := zbfv q (M + 7) (by omega) _ _ _ h1
 try simp only [kf, simprocAttr] at h1
 cases h; subst hR; simp only [zbfw, simprocAttr, *]
def zbfy := And.intro @kk <| And.intro @ke <| And.intro @kn <| And.intro @z9b <| And.intro @z79 <| And.intro @z8c <| And.intro @z9r <| @z9d
theorem zbfz : ∀ (q N : Nat), 8 * q ≤ N → ∀ (a0 a1 : (Sl Int)), ∀ (r : (Ow Int)), zlb q a0 a1 = some r → (orc T N).deep F.zlb [(Sl.enc (V.int .u8)) a0, (Sl.enc (V.int .u8)) a1] = some [(Ow.enc 1 (V.int .u8)) r] := by
 intro q N hM a0 a1 r h
 rcases q with _ | q
 ·cases h
 obtain ⟨M, rfl⟩ : ∃ M, N = M + 8 := ⟨N - 8, by omega⟩
 generalize hR : some [(Ow.enc 1 (V.int .u8)) r] = R
 rw [zhu, z5k, y4, zhs zxn rfl]
 rw [zlb] at h
 replace h := ob h; obtain ⟨r1, h1, h⟩ := h
 replace h1 := zbfq q (M + 7) (by omega) _ _ h1
 try simp only [kf, simprocAttr] at h1
 replace h := ob h; obtain ⟨r2, h2, h⟩ := h
 replace h2 := zbfo q (M + 7) (by omega) _ _ _ h2
 try simp only [kf, simprocAttr] at h2
 replace h := ob h; obtain ⟨r3, h3, h⟩ := h
 replace h3 := zbfx q (M + 7) (by omega) _ _ h3
 try simp only [kf, simprocAttr] at h3
 cases h; subst hR; simp only [zbfy, simprocAttr, *]
def zbf0 (q : Nat) : Prop := ∀ (M : Nat) (hM : 8 * q ≤ M) (j : Nat) (hj : q ≤ j) (w0 : Nat) (v1 : Int) (h0z : Bool) (h0l : List Int) (h0x : Bool) (r : (Ow Int)) (_ : zlc q v1 h0z h0l h0x = some r) (R : Option (List V)) (_ : some [(Ow.enc 1 (V.int .u8)) r] = R) (fr : Fr) (H : Hp) (_ : canon 1 [0, 1] fr H = ([(0, (.vw 0 w0 0 h0l.length 1)), (1, (.int .u64 v1))], [(.row w0 h0z 1 (List.map (V.int .u8) h0l) h0x)])), fin zx0 (unw T (orc T (M + 7)) (M + 7) 1 [.blk 0, .code zxx] (iter 1 [0, 1] (exec T (orc T (M + 7)) (M + 7) 1 zxv) j fr H)) = R
def zbf1 := And.intro @kk <| And.intro @ke <| And.intro @kn <| And.intro @z9e <| @z9g
theorem zbf2 (q : Nat) (zbg5 : zbf0 q) : zbf0 (q + 1) := by
 intro M hM j hj w0 v1 h0z h0l h0x r h R hR fr H hc
 obtain ⟨j, rfl⟩ : ∃ i, j = i + 1 := ⟨j - 1, by omega⟩
 rw [zhk, hc]; clear hc
 rw [zlc] at h
 replace h := br h; rcases h with ⟨h1, h⟩ | ⟨h1, h⟩
 ·replace h := bn h; obtain ⟨h2, h⟩ := h
  replace h := zbg5 M (by omega) j (by omega) (w0 + 1) _ _ _ _ _ h R hR
  simp only [zbf1, simprocAttr, *]
 ·replace h := bn h; obtain ⟨h3, h⟩ := h
  cases h; subst hR; simp only [zbf1, simprocAttr, *]
theorem zbf3 : ∀ q, zbf0 q
 | 0 => by intro M hM j hj; intros; rename_i h _ _ _ _ _; cases h
 | q + 1 => by have i0 := zbf3 q; exact zbf2 q i0
theorem zbf4 : ∀ (q N : Nat), 8 * q ≤ N → ∀ (a0 : (Ow Int)) (a1 : Int), ∀ (r : (Ow Int)), zld q a0 a1 = some r → (orc T N).deep F.zld [(Ow.enc 1 (V.int .u8)) a0, (V.int .u64) a1] = some [(Ow.enc 1 (V.int .u8)) r] := by
 intro q N hM a0 a1 r h
 rcases q with _ | q
 ·cases h
 obtain ⟨M, rfl⟩ : ∃ M, N = M + 8 := ⟨N - 8, by omega⟩
 have zbg5 := (zbf3 q)
 generalize hR : some [(Ow.enc 1 (V.int .u8)) r] = R
 rw [zhu, z5l, y4, zhs zx0 rfl]
 rw [zld] at h
 replace h := zbg5 M (by omega) (M + 7) (by omega) 0 _ _ _ _ _ h R hR
 simp only [zbf1, simprocAttr, *]
def zbf5 := And.intro @kk <| And.intro @ke <| And.intro @kn <| And.intro @z72 <| And.intro @z9f <| @z74
theorem zbf6 : ∀ (q N : Nat), 8 * q ≤ N → ∀ (a0 : (Ow Int)) (a1 : Int), ∀ (r : (Ow Int)), zle q a0 a1 = some r → (orc T N).deep F.zle [(Ow.enc 1 (V.int .u8)) a0, (V.int .i64) a1] = some [(Ow.enc 1 (V.int .u8)) r] := by
 intro q N hM a0 a1 r h
 rcases q with _ | q
 ·cases h
 obtain ⟨M, rfl⟩ : ∃ M, N = M + 8 := ⟨N - 8, by omega⟩
 generalize hR : some [(Ow.enc 1 (V.int .u8)) r] = R
 rw [zhu, z45, y4, zhs zsi rfl]
 rw [zle] at h
 replace h := br h; rcases h with ⟨h1, h⟩ | ⟨h1, h⟩
 ·cases h; subst hR; simp only [zbf5, simprocAttr, *]
 ·replace h := br h; rcases h with ⟨h2, h⟩ | ⟨h2, h⟩
  ·cases h; subst hR; simp only [zbf5, simprocAttr, *]
  ·replace h := ob h; obtain ⟨r1, h3, h⟩ := h
   replace h3 := zbf4 q (M + 7) (by omega) _ _ _ h3
   try simp only [kf, simprocAttr] at h3
   cases h; subst hR; simp only [zbf5, simprocAttr, *]
def zbf7 := And.intro @kk <| And.intro @ke <| And.intro @kn <| And.intro @z9h <| @z9j
theorem zbf8 : ∀ (q N : Nat), 8 * q ≤ N → ∀ (a0 r : Int), zlf q a0 = some r → (orc T N).deep F.zlf [(V.int .i64) a0] = some [(V.int .u64) r] := by
 intro q N hM a0 r h
 rcases q with _ | q
 ·cases h
 obtain ⟨M, rfl⟩ : ∃ M, N = M + 8 := ⟨N - 8, by omega⟩
 generalize hR : some [(V.int .u64) r] = R
 rw [zhu, z5m, y4, zhs zx5 rfl]
 rw [zlf] at h
 cases h; subst hR; simp only [zbf7, simprocAttr, *]
def zbf9 := And.intro @kk <| And.intro @ke <| And.intro @kn <| And.intro @z69 <| And.intro @z9f <| And.intro @z9i <| @z7b
theorem zbga : ∀ (q N : Nat), 8 * q ≤ N → ∀ (a0 : (Ow Int)) (a1 : Int), ∀ (r : (Ow Int)), zlg q a0 a1 = some r → (orc T N).deep F.zlg [(Ow.enc 1 (V.int .u8)) a0, (V.int .i64) a1] = some [(Ow.enc 1 (V.int .u8)) r] := by
 intro q N hM a0 a1 r h
 rcases q with _ | q
 ·cases h
 obtain ⟨M, rfl⟩ : ∃ M, N = M + 8 := ⟨N - 8, by omega⟩
 generalize hR : some [(Ow.enc 1 (V.int .u8)) r] = R
 rw [zhu, z4v, y4, zhs zqn rfl]
 rw [zlg] at h
 replace h := ob h; obtain ⟨r1, h1, h⟩ := h
 replace h1 := zbf8 q (M + 7) (by omega) _ _ h1
 replace h := ob h; obtain ⟨r2, h2, h⟩ := h
 replace h2 := zbf4 q (M + 7) (by omega) _ _ _ h2
 try simp only [kf, simprocAttr] at h2
 cases h; subst hR; simp only [zbf9, simprocAttr, *]
def zbgb (q : Nat) : Prop := ∀ (M : Nat) (hM : 8 * q ≤ M) (j : Nat) (hj : q ≤ j) (v0z : Bool) (v0l : List (Sl Int)) (v3 : Int) (v9z : Bool) (v9l : List (Sl Int)) (v10 v11 : Int) (r : (Ow Int)) (_ : zlk q v0z v0l v3 v9z v9l v10 v11 = some r) (R : Option (List V)) (_ : some [(Ow.enc 1 (V.int .u8)) r] = R) (fr : Fr) (H : Hp) (_ : canon 0 [0, 3, 9, 10, 11] fr H = ([(0, (.sl v0z (List.map (Sl.enc (V.int .u8)) v0l))), (3, (.int .i64 v3)), (9, (.sl v9z (List.map (Sl.enc (V.int .u8)) v9l))), (10, (.int .i64 v10)), (11, (.int .i64 v11))], [])), fin ztf (unw T (orc T (M + 7)) (M + 7) 0 [.blk 0, .code ztb] (iter 0 [0, 3, 9, 10, 11] (exec T (orc T (M + 7)) (M + 7) 0 zsu) j fr H)) = R
def zbgc (q : Nat) : Prop := ∀ (M : Nat) (hM : 8 * q ≤ M) (j : Nat) (hj : q ≤ j) (v6len : Nat) (v25z : Bool) (v25l : List (Sl Int)) (v26 v27 : Int) (h0z : Bool) (h0l : List Int) (r : (Ow Int)) (_ : zlh q v6len v25z v25l v26 v27 h0z h0l = some r) (R : Option (List V)) (_ : some [(Ow.enc 1 (V.int .u8)) r] = R) (fr : Fr) (H : Hp) (_ : canon 0 [6, 25, 26, 27] fr H = ([(6, (.vw 0 0 0 v6len 0)), (25, (.sl v25z (List.map (Sl.enc (V.int .u8)) v25l))), (26, (.int .i64 v26)), (27, (.int .i64 v27))], [(.row 0 h0z 1 (List.map (V.int .u8) h0l) true)])), fin ztf (unw T (orc T (M + 7)) (M + 7) 0 [.blk 2, .code zs9] (iter 0 [6, 25, 26, 27] (exec T (orc T (M + 7)) (M + 7) 0 zs6) j fr H)) = R
def zbgd (q : Nat) : Prop := ∀ (M : Nat) (hM : 8 * q ≤ M) (j : Nat) (hj : q ≤ j) (v25z : Bool) (v25l : List (Sl Int)) (v26 : Int) (r : (Ow Int)) (_ : zlj q v25z v25l v26 = some r) (R : Option (List V)) (_ : some [(Ow.enc 1 (V.int .u8)) r] = R) (fr : Fr) (H : Hp) (_ : canon 0 [6, 25, 26, 27] fr H = ([(6, (.sl true [])), (25, (.sl v25z (List.map (Sl.enc (V.int .u8)) v25l))), (26, (.int .i64 v26)), (27, (.int .i64 0))], [])), fin ztf (unw T (orc T (M + 7)) (M + 7) 0 [.blk 2, .code zs9] (iter 0 [6, 25, 26, 27] (exec T (orc T (M + 7)) (M + 7) 0 zs6) j fr H)) = R
def zbge (q : Nat) : Prop := ∀ (M : Nat) (hM : 8 * q ≤ M) (j : Nat) (hj : q ≤ j) (v25z : Bool) (v25l : List (Sl Int)) (v26 v27 : Int) (h0z : Bool) (h0l : List Int) (r : (Ow Int)) (_ : zli q v25z v25l v26 v27 h0z h0l = some r) (R : Option (List V)) (_ : some [(Ow.enc 1 (V.int .u8)) r] = R) (fr : Fr) (H : Hp) (_ : canon 0 [6, 25, 26, 27] fr H = ([(6, (.vw 0 0 0 h0l.length 1)), (25, (.sl v25z (List.map (Sl.enc (V.int .u8)) v25l))), (26, (.int .i64 v26)), (27, (.int .i64 v27))], [(.row 0 h0z 1 (List.map (V.int .u8) h0l) true)])), fin ztf (unw T (orc T (M + 7)) (M + 7) 0 [.blk 2, .code zs9] (iter 0 [6, 25, 26, 27] (exec T (orc T (M + 7)) (M + 7) 0 zs6) j fr H)) = R
def zbgf := And.intro @kk <| And.intro @ke <| And.intro @kn <| And.intro @z8e <| And.intro @z9t <| And.intro @z9u <| And.intro @z9v <| @z8g
theorem zbgg (q : Nat) (zbg6 : zbgb q) (zbg7 : zbgc q) (zbg8 : zbgd q) : zbgb (q + 1) := by
 intro M hM j hj v0z v0l v3 v9z v9l v10 v11 r h R hR fr H hc
 obtain ⟨j, rfl⟩ : ∃ i, j = i + 1 := ⟨j - 1, by omega⟩
 rw [zhk, hc]; clear hc
 rw [zlk] at h
 replace h := br h; rcases h with ⟨h1, h⟩ | ⟨h1, h⟩
 ·replace h := bn h; obtain ⟨h2, h⟩ := h
  replace h := ob h; obtain ⟨e1, h3, h⟩ := h
  replace h := bm h; obtain ⟨h4, h⟩ := h
  replace h := zbg6 M (by omega) j (by omega) _ _ _ _ _ _ _ _ h R hR
  simp only [zbgf, simprocAttr, *]
 ·replace h := bm h; obtain ⟨h5, h⟩ := h
  replace h := br h; rcases h with ⟨h6, h⟩ | ⟨h6, h⟩
  ·replace h := bn h; obtain ⟨h7, h⟩ := h
   replace h := bn h; obtain ⟨h8, h⟩ := h
   replace h := bm h; obtain ⟨h9, h⟩ := h
   replace h := zbg7 M (by omega) (M + 7) (by omega) _ _ _ _ _ _ _ _ h R hR
   simp only [zbgf, simprocAttr, *]
  ·replace h := zbg8 M (by omega) (M + 7) (by omega) _ _ _ _ h R hR
   simp only [zbgf, simprocAttr, *]
theorem zbgh (q : Nat) (zbg7 : zbgc q) : zbgc (q + 1) := by
 intro M hM j hj v6len v25z v25l v26 v27 h0z h0l r h R hR fr H hc
 obtain ⟨j, rfl⟩ : ∃ i, j = i + 1 := ⟨j - 1, by omega⟩
 rw [zhk, hc]; clear hc
 rw [zlh] at h
 replace h := br h; rcases h with ⟨h1, h⟩ | ⟨h1, h⟩
 ·replace h := bn h; obtain ⟨h2, h⟩ := h
  replace h := ob h; obtain ⟨e2, h3, h⟩ := h
  replace h := bn h; obtain ⟨h4, h⟩ := h
  replace h := zbg7 M (by omega) j (by omega) _ _ _ _ _ _ _ _ h R hR
  simp only [zbgf, simprocAttr, *]
 ·cases h; subst hR; simp only [zbgf, simprocAttr, *]
theorem zbgi (q : Nat) (zbg9 : zbge q) : zbgd (q + 1) := by
 intro M hM j hj v25z v25l v26 r h R hR fr H hc
 obtain ⟨j, rfl⟩ : ∃ i, j = i + 1 := ⟨j - 1, by omega⟩
 rw [zhk, hc]; clear hc
 rw [zlj] at h
 replace h := br h; rcases h with ⟨h1, h⟩ | ⟨h1, h⟩
 ·replace h := ob h; obtain ⟨e3, h2, h⟩ := h
  replace h := bn h; obtain ⟨h3, h⟩ := h
  replace h := zbg9 M (by omega) j (by omega) _ _ _ _ _ _ _ h R hR
  simp only [zbgf, simprocAttr, *]
 ·cases h; subst hR; simp only [zbgf, simprocAttr, *]
theorem zbgj (q : Nat) (zbg9 : zbge q) : zbge (q + 1) := by
 intro M hM j hj v25z v25l v26 v27 h0z h0l r h R hR fr H hc
 obtain ⟨j, rfl⟩ : ∃ i, j = i + 1 := ⟨j - 1, by omega⟩
 rw [zhk, hc]; clear hc
 rw [zli] at h
 replace h := br h; rcases h with ⟨h1, h⟩ | ⟨h1, h⟩
 ·replace h := bn h; obtain ⟨h2, h⟩ := h
  replace h := ob h; obtain ⟨e4, h3, h⟩ := h
  replace h := bn h; obtain ⟨h4, h⟩ := h
  replace h := zbg9 M (by omega) j (by omega) _ _ _ _ _ _ _ h R hR
  simp only [zbgf, simprocAttr, *]
 ·cases h; subst hR; simp only [zbgf, simprocAttr, *]
theorem zbgk : ∀ q, zbgb q ∧ zbgc q ∧ zbgd q ∧ zbge q
 | 0 => by refine ⟨?_, ?_, ?_, ?_⟩ <;> (intro M hM j hj; intros; rename_i h _ _ _ _ _; cases h)
 | q + 1 => by have ⟨i0, i1, i2, i3⟩ := zbgk q; exact ⟨zbgg q i0 i1 i2, zbgh q i1, zbgi q i3, zbgj q i3⟩
theorem zbgl : ∀ (q N : Nat), 8 * q ≤ N → ∀ (a0 : (Sl (Sl Int))), ∀ (r : (Ow Int)), zll q a0 = some r → (orc T N).deep F.zll [(Sl.enc (Sl.enc (V.int .u8))) a0] = some [(Ow.enc 1 (V.int .u8)) r] := by
 intro q N hM a0 r h
 rcases q with _ | q
 ·cases h
 obtain ⟨M, rfl⟩ : ∃ M, N = M + 8 := ⟨N - 8, by omega⟩
 have zbg6 := (zbgk q).1
 generalize hR : some [(Ow.enc 1 (V.int .u8)) r] = R
 rw [zhu, z49, y4, zhs ztf rfl]
 rw [zll] at h
 replace h := zbg6 M (by omega) (M + 7) (by omega) _ _ _ _ _ _ _ _ h R hR
 simp only [zbgf, simprocAttr, *]
def zbgm := And.intro @kk <| And.intro @ke <| And.intro @kn <| And.intro @z7c <| And.intro @z73 <| And.intro @z8f <| And.intro @z9c <| @z7e
theorem zbgn : ∀ (q N : Nat), 8 * q ≤ N → ∀ (a0 : (Sl Int)), ∀ (r : (Ow Int) × Int), zlm q a0 = some r → (orc T N).deep F.zlm [(Sl.enc (V.int .u8)) a0] = some [(Ow.enc 1 (V.int .u8)) r.1, (V.int .i64) r.2] := by
 intro q N hM a0 r h
 rcases q with _ | q
 ·cases h
 obtain ⟨M, rfl⟩ : ∃ M, N = M + 8 := ⟨N - 8, by omega⟩
 generalize hR : some [(Ow.enc 1 (V.int .u8)) r.1, (V.int .i64) r.2] = R
 rw [zhu, z4w, y4, zhs zqp rfl]
 rw [zlm] at h
 replace h := br h; rcases h with ⟨h1, h⟩ | ⟨h1, h⟩
 ·cases h; subst hR; simp only [zbgm, simprocAttr, *]
 ·replace h := ob h; obtain ⟨r1, h2, h⟩ := h
  replace h2 := zbf6 q (M + 7) (by omega) _ _ _ h2
  try simp only [kf, simprocAttr] at h2
  replace h := ob h; obtain ⟨r2, h3, h⟩ := h
  replace h3 := zbfz q (M + 7) (by omega) _ _ _ h3
  try simp only [kf, simprocAttr] at h3
  replace h := ob h; obtain ⟨r3, h4, h⟩ := h
  replace h4 := zbgl q (M + 7) (by omega) _ _ h4
  try simp only [kf, simprocAttr] at h4
  cases h; subst hR; simp only [zbgm, simprocAttr, *]
def zbgo := And.intro @kk <| And.intro @ke <| And.intro @kn <| And.intro @zbae <| @zbag
theorem zbgp : ∀ (q N : Nat), 8 * q ≤ N → ∀ (a0 : zjl), ∀ (r : Int), zln q a0 = some r → (orc T N).deep F.zln [zjl.enc a0] = some [(V.int .i64) r] := by
 intro q N hM a0 r h
 rcases q with _ | q
 ·cases h
 obtain ⟨M, rfl⟩ : ∃ M, N = M + 8 := ⟨N - 8, by omega⟩
 generalize hR : some [(V.int .i64) r] = R
 rw [zhu, z5x, y4, zhs z3h rfl]
 rw [zln] at h
 replace h := bb h; rcases h with ⟨h1', h1, h⟩ | ⟨h1', h1, h⟩
 ·cases h; subst hR; simp only [zbgo, simprocAttr, *]
 ·cases h; subst hR; simp only [zbgo, simprocAttr, *]
end Go.Dvm.C
