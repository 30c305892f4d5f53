/- The machine comes to these answers: part 2. -/
import Derived.Test.YtngajodhbioheaaQl0
import Derived.Test.YtngajodhbioheaaQr0
set_option linter.all false
set_option maxRecDepth 100000
set_option maxHeartbeats 4000000
namespace Go.Dvm.C
open Go Go.Dvm Go.Dvm.I
def zbha (q : Nat) : Prop := ∀ (M : Nat) (hM : 8 * q ≤ M) (j : Nat) (hj : q ≤ j) (v21z : Bool) (v21l : List Int) (v22 v23 : Int) (h0z : Bool) (h0l : List Int) (h0x : Bool) (r : (Ow Int) × Int) (_ : zlo q v21z v21l v22 v23 h0z h0l h0x = some r) (R : Option (List V)) (_ : some [(Ow.enc 1 (V.int .u8)) r.1, (V.int .i64) r.2] = R) (fr : Fr) (H : Hp) (_ : canon 0 [4, 21, 22, 23] fr H = ([(4, (.vw 0 0 0 h0l.length 1)), (21, (.sl v21z (List.map (V.int .i64) v21l))), (22, (.int .i64 v22)), (23, (.int .i64 v23))], [(.row 0 h0z 1 (List.map (V.int .u8) h0l) h0x)])), fin zys (unw T (orc T (M + 7)) (M + 7) 0 [.blk 0, .code zyn] (iter 0 [4, 21, 22, 23] (exec T (orc T (M + 7)) (M + 7) 0 zyk) j fr H)) = R
def zbhb := And.intro @kk <| And.intro @ke <| And.intro @kn <| And.intro @z9k <| And.intro @z6v <| And.intro @z7a <| And.intro @z73 <| And.intro @zbaf <| @z9m
theorem zbhc (q : Nat) (zbh0 : zbha q) : zbha (q + 1) := by
 intro M hM j hj v21z v21l v22 v23 h0z h0l h0x r h R hR fr H hc
 obtain ⟨j, rfl⟩ : ∃ i, j = i + 1 := ⟨j - 1, by omega⟩
 rw [zhk, hc]; clear hc
 rw [zlo] at h
 replace h := br h; rcases h with ⟨h1, h⟩ | ⟨h1, h⟩
 ·replace h := bn h; obtain ⟨h2, h⟩ := h
  replace h := ob h; obtain ⟨e6, h3, h⟩ := h
  replace h := ob h; obtain ⟨r7, h4, h⟩ := h
  replace h4 := zbga q (M + 7) (by omega) _ _ _ h4
  try simp only [kf, simprocAttr] at h4
  replace h := zbh0 M (by omega) j (by omega) _ _ _ _ _ _ _ _ h R hR
  simp only [zbhb, simprocAttr, *]
 ·cases h; subst hR; simp only [zbhb, simprocAttr, *]
theorem zbhd : ∀ q, zbha q
 | 0 => by intro M hM j hj; intros; rename_i h _ _ _ _ _; cases h
 | q + 1 => by have i0 := zbhd q; exact zbhc q i0
theorem zbhe : ∀ (q N : Nat), 8 * q ≤ N → ∀ (a0 : zjl), ∀ (r : (Ow Int) × Int), zlp q a0 = some r → (orc T N).deep F.zlp [zjl.enc a0] = some [(Ow.enc 1 (V.int .u8)) r.1, (V.int .i64) r.2] := by
 intro q N hM a0 r h
 rcases q with _ | q
 ·cases h
 obtain ⟨M, rfl⟩ : ∃ M, N = M + 8 := ⟨N - 8, by omega⟩
 have zbh0 := (zbhd q)
 generalize hR : some [(Ow.enc 1 (V.int .u8)) r.1, (V.int .i64) r.2] = R
 rw [zhu, z5n, y4, zhs zys rfl]
 rw [zlp] at h
 replace h := ob h; obtain ⟨r1, h1, h⟩ := h
 replace h1 := zbcz q (M + 7) (by omega) _ _ h1
 try simp only [kf, simprocAttr] at h1
 replace h := bb h; rcases h with ⟨h2', h2, h⟩ | ⟨h2', h2, h⟩
 ·replace h := ob h; obtain ⟨r2, h3, h⟩ := h
  replace h3 := zbf6 q (M + 7) (by omega) _ _ _ h3
  try simp only [kf, simprocAttr] at h3
  replace h := ob h; obtain ⟨r3, h4, h⟩ := h
  replace h4 := zbgp q (M + 7) (by omega) _ _ h4
  try simp only [kf, simprocAttr] at h4
  replace h := ob h; obtain ⟨r4, h5, h⟩ := h
  replace h5 := zbf6 q (M + 7) (by omega) _ _ _ h5
  try simp only [kf, simprocAttr] at h5
  replace h := ob h; obtain ⟨r5, h6, h⟩ := h
  replace h6 := zbf6 q (M + 7) (by omega) _ _ _ h6
  try simp only [kf, simprocAttr] at h6
  replace h := zbh0 M (by omega) (M + 7) (by omega) _ _ _ _ _ _ _ _ h R hR
  simp only [zbhb, simprocAttr, *]
 ·cases h; subst hR; simp only [zbhb, simprocAttr, *]
def zbhf (q : Nat) : Prop := ∀ (M : Nat) (hM : 8 * q ≤ M) (j : Nat) (hj : q ≤ j) (v24z : Bool) (v24l : List zjm) (v25 v26 : Int) (h0z : Bool) (h0l : List Int) (h0x : Bool) (r : (Ow Int)) (_ : zlq q v24z v24l v25 v26 h0z h0l h0x = some r) (R : Option (List V)) (_ : some [(Ow.enc 1 (V.int .u8)) r] = R) (fr : Fr) (H : Hp) (_ : canon 0 [5, 24, 25, 26] fr H = ([(5, (.vw 0 0 0 h0l.length 1)), (24, (.sl v24z (List.map zjm.enc v24l))), (25, (.int .i64 v25)), (26, (.int .i64 v26))], [(.row 0 h0z 1 (List.map (V.int .u8) h0l) h0x)])), fin zsg (unw T (orc T (M + 7)) (M + 7) 0 [.blk 0, .code zsb] (iter 0 [5, 24, 25, 26] (exec T (orc T (M + 7)) (M + 7) 0 zr8) j fr H)) = R
def zbhg := And.intro @kk <| And.intro @ke <| And.intro @kn <| And.intro @z7z <| And.intro @z7a <| And.intro @z73 <| And.intro @z9l <| @z71
theorem zbhh (q : Nat) (zbh1 : zbhf q) : zbhf (q + 1) := by
 intro M hM j hj v24z v24l v25 v26 h0z h0l h0x r h R hR fr H hc
 obtain ⟨j, rfl⟩ : ∃ i, j = i + 1 := ⟨j - 1, by omega⟩
 rw [zhk, hc]; clear hc
 rw [zlq] at h
 replace h := br h; rcases h with ⟨h1, h⟩ | ⟨h1, h⟩
 ·replace h := bn h; obtain ⟨h2, h⟩ := h
  replace h := ob h; obtain ⟨e4, h3, h⟩ := h
  replace h := ob h; obtain ⟨r5, h4, h⟩ := h
  replace h4 := zbf6 q (M + 7) (by omega) _ _ _ h4
  try simp only [kf, simprocAttr] at h4
  replace h := ob h; obtain ⟨r6, h5, h⟩ := h
  replace h5 := zbf6 q (M + 7) (by omega) _ _ _ h5
  try simp only [kf, simprocAttr] at h5
  replace h := ob h; obtain ⟨r7, h6, h⟩ := h
  replace h6 := zbga q (M + 7) (by omega) _ _ _ h6
  try simp only [kf, simprocAttr] at h6
  replace h := zbh1 M (by omega) j (by omega) _ _ _ _ _ _ _ _ h R hR
  simp only [zbhg, simprocAttr, *]
 ·cases h; subst hR; simp only [zbhg, simprocAttr, *]
theorem zbhi : ∀ q, zbhf q
 | 0 => by intro M hM j hj; intros; rename_i h _ _ _ _ _; cases h
 | q + 1 => by have i0 := zbhi q; exact zbhh q i0
theorem zbhj : ∀ (q N : Nat), 8 * q ≤ N → ∀ (a0 : zjn), ∀ (r : (Ow Int)), zlr q a0 = some r → (orc T N).deep F.zlr [zjn.enc a0] = some [(Ow.enc 1 (V.int .u8)) r] := by
 intro q N hM a0 r h
 rcases q with _ | q
 ·cases h
 obtain ⟨M, rfl⟩ : ∃ M, N = M + 8 := ⟨N - 8, by omega⟩
 have zbh1 := (zbhi q)
 generalize hR : some [(Ow.enc 1 (V.int .u8)) r] = R
 rw [zhu, z44, y4, zhs zsg rfl]
 rw [zlr] at h
 replace h := ob h; obtain ⟨r1, h1, h⟩ := h
 replace h1 := zbhe q (M + 7) (by omega) _ _ h1
 try simp only [kf, simprocAttr] at h1
 replace h := ob h; obtain ⟨r2, h2, h⟩ := h
 replace h2 := zbf6 q (M + 7) (by omega) _ _ _ h2
 try simp only [kf, simprocAttr] at h2
 replace h := bn h; obtain ⟨h3, h⟩ := h
 replace h := ob h; obtain ⟨r3, h4, h⟩ := h
 replace h4 := zbf6 q (M + 7) (by omega) _ _ _ h4
 try simp only [kf, simprocAttr] at h4
 replace h := zbh1 M (by omega) (M + 7) (by omega) _ _ _ _ _ _ _ _ h R hR
 simp only [zbhg, simprocAttr, *]
def zbhk := And.intro @kk <| And.intro @ke <| And.intro @kn <| And.intro @z75 <| And.intro @z7d <| @z77
theorem zbhl : ∀ (q N : Nat), 8 * q ≤ N → ∀ (a0 : (Sl Int)), ∀ (r : (Ow Int)), zls q a0 = some r → (orc T N).deep F.zls [(Sl.enc (V.int .u8)) a0] = some [(Ow.enc 1 (V.int .u8)) r] := by
 intro q N hM a0 r h
 rcases q with _ | q
 ·cases h
 obtain ⟨M, rfl⟩ : ∃ M, N = M + 8 := ⟨N - 8, by omega⟩
 generalize hR : some [(Ow.enc 1 (V.int .u8)) r] = R
 rw [zhu, z46, y4, zhs zsk rfl]
 rw [zls] at h
 replace h := ob h; obtain ⟨r1, h1, h⟩ := h
 replace h1 := zbgn q (M + 7) (by omega) _ _ h1
 try simp only [kf, simprocAttr] at h1
 cases h; subst hR; simp only [zbhk, simprocAttr, *]
def zbhm (q : Nat) : Prop := ∀ (M : Nat) (hM : 8 * q ≤ M) (j : Nat) (hj : q ≤ j) (h0z : Bool) (h0l : List Int) (h0x h1z : Bool) (h1l : List Int) (h1x : Bool) (r : (Ow Int) × Int) (_ : zlu q h0z h0l h0x h1z h1l h1x = some r) (R : Option (List V)) (_ : some [(Ow.enc 1 (V.int .u8)) r.1, (V.int .i64) r.2] = R) (fr : Fr) (H : Hp) (_ : canon 0 [4, 6] fr H = ([(4, (.vw 0 0 0 h0l.length 1)), (6, (.vw 1 0 0 h1l.length 1))], [(.row 0 h0z 1 (List.map (V.int .u8) h0l) h0x), (.row 0 h1z 1 (List.map (V.int .u8) h1l) h1x)])), fin zn4 (unw T (orc T (M + 7)) (M + 7) 0 [.blk 0, .code znx] (iter 0 [4, 6] (exec T (orc T (M + 7)) (M + 7) 0 znv) j fr H)) = R
def zbhn (q : Nat) : Prop := ∀ (M : Nat) (hM : 8 * q ≤ M) (j : Nat) (hj : q ≤ j) (v4off v4len : Nat) (h0z : Bool) (h0l : List Int) (h1z : Bool) (h1l : List Int) (h1x : Bool) (r : (Ow Int) × Int) (_ : zlt q v4off v4len h0z h0l h1z h1l h1x = some r) (R : Option (List V)) (_ : some [(Ow.enc 1 (V.int .u8)) r.1, (V.int .i64) r.2] = R) (fr : Fr) (H : Hp) (_ : canon 0 [4, 6] fr H = ([(4, (.vw 0 0 v4off v4len 1)), (6, (.vw 1 0 0 h1l.length 1))], [(.row 0 h0z 1 (List.map (V.int .u8) h0l) false), (.row 0 h1z 1 (List.map (V.int .u8) h1l) h1x)])), fin zn4 (unw T (orc T (M + 7)) (M + 7) 0 [.blk 0, .code znx] (iter 0 [4, 6] (exec T (orc T (M + 7)) (M + 7) 0 znv) j fr H)) = R
def zbho := And.intro @kk <| And.intro @ke <| And.intro @kn <| And.intro @z6i <| And.intro @z54 <| And.intro @z70 <| And.intro @z73 <| And.intro @z76 <| And.intro @z79 <| And.intro @z8c <| @z6k
theorem zbhp (q : Nat) (zbh2 : zbhn q) : zbhm (q + 1) := by
 intro M hM j hj h0z h0l h0x h1z h1l h1x r h R hR fr H hc
 obtain ⟨j, rfl⟩ : ∃ i, j = i + 1 := ⟨j - 1, by omega⟩
 rw [zhk, hc]; clear hc
 rw [zlu] at h
 replace h := br h; rcases h with ⟨h1, h⟩ | ⟨h1, h⟩
 ·replace h := bn h; obtain ⟨h2, h⟩ := h
  replace h := bn h; obtain ⟨h3, h⟩ := h
  replace h := bn h; obtain ⟨h4, h⟩ := h
  replace h := ob h; obtain ⟨r9, h5, h⟩ := h
  replace h5 := zbhl q (M + 7) (by omega) _ _ h5
  try simp only [kf, simprocAttr] at h5
  replace h := bn h; obtain ⟨h6, h⟩ := h
  replace h := zbh2 M (by omega) j (by omega) _ _ _ _ _ _ _ _ h R hR
  simp only [zbho, simprocAttr, *]
 ·cases h; subst hR; simp only [zbho, simprocAttr, *]
theorem zbhq (q : Nat) (zbh2 : zbhn q) : zbhn (q + 1) := by
 intro M hM j hj v4off v4len h0z h0l h1z h1l h1x r h R hR fr H hc
 obtain ⟨j, rfl⟩ : ∃ i, j = i + 1 := ⟨j - 1, by omega⟩
 rw [zhk, hc]; clear hc
 rw [zlt] at h
 replace h := br h; rcases h with ⟨h1, h⟩ | ⟨h1, h⟩
 ·replace h := bn h; obtain ⟨h2, h⟩ := h
  replace h := bn h; obtain ⟨h3, h⟩ := h
  replace h := bn h; obtain ⟨h4, h⟩ := h
  replace h := ob h; obtain ⟨r10, h5, h⟩ := h
  replace h5 := zbhl q (M + 7) (by omega) _ _ h5
  try simp only [kf, simprocAttr] at h5
  replace h := bn h; obtain ⟨h6, h⟩ := h
  replace h := bn h; obtain ⟨h7, h⟩ := h
  replace h := zbh2 M (by omega) j (by omega) _ _ _ _ _ _ _ _ h R hR
  simp only [zbho, simprocAttr, *]
 ·cases h; subst hR; simp only [zbho, simprocAttr, *]
theorem zbhr : ∀ q, zbhm q ∧ zbhn q
 | 0 => by refine ⟨?_, ?_⟩ <;> (intro M hM j hj; intros; rename_i h _ _ _ _ _; cases h)
 | q + 1 => by have ⟨i0, i1⟩ := zbhr q; exact ⟨zbhp q i1, zbhq q i1⟩
theorem zbhs : ∀ (q N : Nat), 8 * q ≤ N → ∀ (a0 : zjn), ∀ (r : (Ow Int) × Int), zlv q a0 = some r → (orc T N).deep F.zlv [zjn.enc a0] = some [(Ow.enc 1 (V.int .u8)) r.1, (V.int .i64) r.2] := by
 intro q N hM a0 r h
 rcases q with _ | q
 ·cases h
 obtain ⟨M, rfl⟩ : ∃ M, N = M + 8 := ⟨N - 8, by omega⟩
 have ih_snapshot_Encode_l0 := (zbhr q).1
 generalize hR : some [(Ow.enc 1 (V.int .u8)) r.1, (V.int .i64) r.2] = R
 rw [zhu, z4m, y4, zhs zn4 rfl]
 rw [zlv] at h
 replace h := ob h; obtain ⟨r1, h1, h⟩ := h
 replace h1 := zbc8 q (M + 7) (by omega) _ _ h1
 try simp only [kf, simprocAttr] at h1
 replace h := bb h; rcases h with ⟨h2', h2, h⟩ | ⟨h2', h2, h⟩
 ·replace h := ob h; obtain ⟨r2, h3, h⟩ := h
  replace h3 := zbhj q (M + 7) (by omega) _ _ h3
  try simp only [kf, simprocAttr] at h3
  replace h := ob h; obtain ⟨r3, h4, h⟩ := h
  replace h4 := zbf6 q (M + 7) (by omega) _ _ _ h4
  try simp only [kf, simprocAttr] at h4
  replace h := ob h; obtain ⟨r4, h5, h⟩ := h
  replace h5 := zbf6 q (M + 7) (by omega) _ _ _ h5
  try simp only [kf, simprocAttr] at h5
  replace h := ob h; obtain ⟨r5, h6, h⟩ := h
  replace h6 := zbf6 q (M + 7) (by omega) _ _ _ h6
  try simp only [kf, simprocAttr] at h6
  replace h := ob h; obtain ⟨r6, h7, h⟩ := h
  replace h7 := zbfq q (M + 7) (by omega) _ _ h7
  try simp only [kf, simprocAttr] at h7
  replace h := ob h; obtain ⟨r7, h8, h⟩ := h
  replace h8 := zbfx q (M + 7) (by omega) _ _ h8
  try simp only [kf, simprocAttr] at h8
  replace h := bn h; obtain ⟨h9, h⟩ := h
  replace h := ob h; obtain ⟨r8, h10, h⟩ := h
  replace h10 := zbhl q (M + 7) (by omega) _ _ h10
  try simp only [kf, simprocAttr] at h10
  replace h := ih_snapshot_Encode_l0 M (by omega) (M + 7) (by omega) _ _ _ _ _ _ _ h R hR
  simp only [zbho, simprocAttr, *]
 ·cases h; subst hR; simp only [zbho, simprocAttr, *]
def zbht := And.intro @kk <| And.intro @ke <| And.intro @kn <| And.intro @z6c <| And.intro @z57 <| And.intro @z6j <| @z6e
theorem zbhu : ∀ (q N : Nat), 8 * q ≤ N → ∀ (r : Bool), zlw q = some r → (orc T N).deep F.zlw [] = some [V.bool r] := by
 intro q N hM r h
 rcases q with _ | q
 ·cases h
 obtain ⟨M, rfl⟩ : ∃ M, N = M + 8 := ⟨N - 8, by omega⟩
 generalize hR : some [V.bool r] = R
 rw [zhu, z4k, y4, zhs znk rfl]
 rw [zlw] at h
 replace h := ob h; obtain ⟨r1, h1, h⟩ := h
 replace h1 := zbfc q (M + 7) (by omega) _ _ _ h1
 try simp only [kf, simprocAttr] at h1
 replace h := ob h; obtain ⟨r2, h2, h⟩ := h
 replace h2 := zbhs q (M + 7) (by omega) _ _ h2
 try simp only [kf, simprocAttr] at h2
 replace h := br h; rcases h with ⟨h3, h⟩ | ⟨h3, h⟩
 ·replace h := br h; rcases h with ⟨h4, h⟩ | ⟨h4, h⟩
  ·replace h := br h; rcases h with ⟨h5, h⟩ | ⟨h5, h⟩
   ·replace h := br h; rcases h with ⟨h6, h⟩ | ⟨h6, h⟩
    ·replace h := br h; rcases h with ⟨h7, h⟩ | ⟨h7, h⟩
     ·replace h := ob h; obtain ⟨e3, h8, h⟩ := h
      replace h := br h; rcases h with ⟨h9, h⟩ | ⟨h9, h⟩
      ·replace h := br h; rcases h with ⟨h10, h⟩ | ⟨h10, h⟩
       ·replace h := br h; rcases h with ⟨h11, h⟩ | ⟨h11, h⟩
        ·replace h := br h; rcases h with ⟨h12, h⟩ | ⟨h12, h⟩
         ·replace h := ob h; obtain ⟨e4, h13, h⟩ := h
          cases h; subst hR; simp only [zbht, simprocAttr, *]
         ·cases h; subst hR; simp only [zbht, simprocAttr, *]
        ·cases h; subst hR; simp only [zbht, simprocAttr, *]
       ·cases h; subst hR; simp only [zbht, simprocAttr, *]
      ·cases h; subst hR; simp only [zbht, simprocAttr, *]
     ·cases h; subst hR; simp only [zbht, simprocAttr, *]
    ·cases h; subst hR; simp only [zbht, simprocAttr, *]
   ·cases h; subst hR; simp only [zbht, simprocAttr, *]
  ·cases h; subst hR; simp only [zbht, simprocAttr, *]
 ·cases h; subst hR; simp only [zbht, simprocAttr, *]
def zbhv (q : Nat) : Prop := ∀ (M : Nat) (hM : 8 * q ≤ M) (j : Nat) (hj : q ≤ j) (v0z : Bool) (v0l : List zjm) (v11 : Int) (v12 : Bool) (v13 h0_0 h0_1 h0_2 h0_3 h0_4 h0_5 h0_6 h1_0 h1_1 h1_2 h1_3 h1_4 h1_5 h1_6 : Int) (h2z : Bool) (h2l : List zjm) (h2x h3z : Bool) (h3l : List zjm) (h3x r : Bool) (_ : zlx q v0z v0l v11 v12 v13 h0_0 h0_1 h0_2 h0_3 h0_4 h0_5 h0_6 h1_0 h1_1 h1_2 h1_3 h1_4 h1_5 h1_6 h2z h2l h2x h3z h3l h3x = some r) (R : Option (List V)) (_ : some [V.bool r] = R) (fr : Fr) (H : Hp) (_ : canon 0 [0, 4, 5, 9, 10, 11, 12, 13] fr H = ([(0, (.sl v0z (List.map zjm.enc v0l))), (4, (.ptr 0 0)), (5, (.ptr 1 0)), (9, (.vw 2 0 0 h2l.length 1)), (10, (.vw 3 0 0 h3l.length 1)), (11, (.int .i64 v11)), (12, (.bool v12)), (13, (.int .i64 v13))], [(.box [(.int .i64 h0_0), (.int .i64 h0_1), (.int .i64 h0_2), (.int .i64 h0_3), (.int .i64 h0_4), (.int .i64 h0_5), (.int .i64 h0_6)]), (.box [(.int .i64 h1_0), (.int .i64 h1_1), (.int .i64 h1_2), (.int .i64 h1_3), (.int .i64 h1_4), (.int .i64 h1_5), (.int .i64 h1_6)]), (.row 0 h2z 3 (List.map zjm.enc h2l) h2x), (.row 0 h3z 3 (List.map zjm.enc h3l) h3x)])), fin zmx (unw T (orc T (M + 7)) (M + 7) 0 [.blk 0, .code zmn] (iter 0 [0, 4, 5, 9, 10, 11, 12, 13] (exec T (orc T (M + 7)) (M + 7) 0 zmi) j fr H)) = R
def zbhw := And.intro @kk <| And.intro @ke <| And.intro @kn <| And.intro @z50 <| And.intro @z6a <| And.intro @z6d <| And.intro @z6g <| And.intro @z6m <| @z52
theorem zbhx (q : Nat) (zbh3 : zbhv q) : zbhv (q + 1) := by
 intro M hM j hj v0z v0l v11 v12 v13 h0_0 h0_1 h0_2 h0_3 h0_4 h0_5 h0_6 h1_0 h1_1 h1_2 h1_3 h1_4 h1_5 h1_6 h2z h2l h2x h3z h3l h3x r h R hR fr H hc
 obtain ⟨j, rfl⟩ : ∃ i, j = i + 1 := ⟨j - 1, by omega⟩
 rw [zhk, hc]; clear hc
 rw [zlx] at h
 replace h := br h; rcases h with ⟨h1, h⟩ | ⟨h1, h⟩
 ·replace h := bn h; obtain ⟨h2, h⟩ := h
  replace h := bn h; obtain ⟨h3, h⟩ := h
  replace h := ob h; obtain ⟨e7, h4, h⟩ := h
  replace h := br h; rcases h with ⟨h5, h⟩ | ⟨h5, h⟩
  ·replace h := zbh3 M (by omega) j (by omega) _ _ _ _ _ _ _ _ _ _ _ _ _ _ _ _ _ _ _ _ _ _ _ _ _ _ h R hR
   simp only [zbhw, simprocAttr, *]
  ·replace h := zbh3 M (by omega) j (by omega) _ _ _ _ _ _ _ _ _ _ _ _ _ _ _ _ _ _ _ _ _ _ _ _ _ _ h R hR
   simp only [zbhw, simprocAttr, *]
 ·replace h := ob h; obtain ⟨r8, h6, h⟩ := h
  replace h6 := zbd8 q (M + 7) (by omega) _ _ _ h6
  try simp only [kf, simprocAttr] at h6
  replace h := br h; rcases h with ⟨h7, h⟩ | ⟨h7, h⟩
  ·replace h := bb h; rcases h with ⟨h8', h8, h⟩ | ⟨h8', h8, h⟩
   ·replace h := bb h; rcases h with ⟨h9', h9, h⟩ | ⟨h9', h9, h⟩
    ·cases h; subst hR; simp only [zbhw, simprocAttr, *]
    ·replace h := br h; rcases h with ⟨h10, h⟩ | ⟨h10, h⟩
     ·cases h; subst hR; simp only [zbhw, simprocAttr, *]
     ·cases h; subst hR; simp only [zbhw, simprocAttr, *]
   ·cases h; subst hR; simp only [zbhw, simprocAttr, *]
  ·cases h; subst hR; simp only [zbhw, simprocAttr, *]
theorem zbhy : ∀ q, zbhv q
 | 0 => by intro M hM j hj; intros; rename_i h _ _ _ _ _; cases h
 | q + 1 => by have i0 := zbhy q; exact zbhx q i0
theorem zbhz : ∀ (q N : Nat), 8 * q ≤ N → ∀ (a0 : (Sl zjm)) (a1 a2 : zjq), ∀ (r : Bool), zly q a0 a1 a2 = some r → (orc T N).deep F.zly [(Sl.enc zjm.enc) a0, zjq.enc a1, zjq.enc a2] = some [V.bool r] := by
 intro q N hM a0 a1 a2 r h
 rcases q with _ | q
 ·cases h
 obtain ⟨M, rfl⟩ : ∃ M, N = M + 8 := ⟨N - 8, by omega⟩
 have zbh3 := (zbhy q)
 generalize hR : some [V.bool r] = R
 rw [zhu, z4g, y4, zhs zmx rfl]
 rw [zly] at h
 replace h := ob h; obtain ⟨r1, h1, h⟩ := h
 replace h1 := zbhu q (M + 7) (by omega)  _ h1
 replace h := ob h; obtain ⟨r2, h2, h⟩ := h
 replace h2 := zbed q (M + 7) (by omega) _ _ h2
 try simp only [kf, simprocAttr] at h2
 replace h := bb h; rcases h with ⟨h3', h3, h⟩ | ⟨h3', h3, h⟩
 ·replace h := bb h; rcases h with ⟨h4', h4, h⟩ | ⟨h4', h4, h⟩
  ·replace h := br h; rcases h with ⟨h5, h⟩ | ⟨h5, h⟩
   ·cases h; subst hR; simp only [zbhw, simprocAttr, *]
   ·replace h := ob h; obtain ⟨r3, h6, h⟩ := h
    replace h6 := zbdu q (M + 7) (by omega) _ _ _ h6
    try simp only [kf, simprocAttr] at h6
    replace h := ob h; obtain ⟨r4, h7, h⟩ := h
    replace h7 := zbdu q (M + 7) (by omega) _ _ _ h7
    try simp only [kf, simprocAttr] at h7
    replace h := ob h; obtain ⟨r5, h8, h⟩ := h
    replace h8 := zbdu q (M + 7) (by omega) _ _ _ h8
    try simp only [kf, simprocAttr] at h8
    replace h := ob h; obtain ⟨r6, h9, h⟩ := h
    replace h9 := zbdu q (M + 7) (by omega) _ _ _ h9
    try simp only [kf, simprocAttr] at h9
    replace h := zbh3 M (by omega) (M + 7) (by omega) _ _ _ _ _ _ _ _ _ _ _ _ _ _ _ _ _ _ _ _ _ _ _ _ _ _ h R hR
    simp only [zbhw, simprocAttr, *]
  ·cases h; subst hR; simp only [zbhw, simprocAttr, *]
 ·cases h; subst hR; simp only [zbhw, simprocAttr, *]
end Go.Dvm.C
