/- The machine comes to these answers: part 2. -/
import Derived.Test.YtngajodhbioheaaQl0
import Derived.Test.YtngajodhbioheaaQr0
set_option linter.all false
set_option maxRecDepth 100000
set_option maxHeartbeats 4000000
namespace Go.Dvm.C
open Go Go.Dvm Go.Dvm.I
def zbt9 (q : Nat) : Prop := ∀ (M : Nat) (hM : 8 * q ≤ M) (j : Nat) (hj : q ≤ j) (v21z : Bool) (v21l : List Int) (v22 v23 : Int) (h0z : Bool) (h0l : List Int) (h0x : Bool) (r : (Ow Int) × Int) (_ : zlo q v21z v21l v22 v23 h0z h0l h0x = some r) (R : Option (List V)) (_ : some [(Ow.enc 1 (V.int .u8)) r.1, (V.int .i64) r.2] = R) (fr : Fr) (H : Hp) (_ : canon 0 [4, 21, 22, 23] fr H = ([(4, (.vw 0 0 0 h0l.length 1)), (21, (.sl v21z (List.map (V.int .i64) v21l))), (22, (.int .i64 v22)), (23, (.int .i64 v23))], [(.row 0 h0z 1 (List.map (V.int .u8) h0l) h0x)])), fin z5o (unw T (orc T (M + 7)) (M + 7) 0 [.blk 0, .code z5j] (iter 0 [4, 21, 22, 23] (exec T (orc T (M + 7)) (M + 7) 0 z5g) j fr H)) = R
def zbua := And.intro @kk <| And.intro @ke <| And.intro @kn <| And.intro @zblq <| And.intro @zbig <| And.intro @zbis <| And.intro @zbjr <| And.intro @zbm3 <| @zbls
theorem zbub (q : Nat) (zbwd : zbt9 q) : zbt9 (q + 1) := by
 intro M hM j hj v21z v21l v22 v23 h0z h0l h0x r h R hR fr H hc
 obtain ⟨j, rfl⟩ : ∃ i, j = i + 1 := ⟨j - 1, by omega⟩
 rw [zhk, hc]; clear hc
 rw [zlo] at h
 replace h := br h; rcases h with ⟨h1, h⟩ | ⟨h1, h⟩
 ·replace h := bn h; obtain ⟨h2, h⟩ := h
  replace h := ob h; obtain ⟨e6, h3, h⟩ := h
  replace h := ob h; obtain ⟨r7, h4, h⟩ := h
  replace h4 := zbta q (M + 7) (by omega) _ _ _ h4
  try simp only [kf, simprocAttr] at h4
  replace h := zbwd M (by omega) j (by omega) _ _ _ _ _ _ _ _ h R hR
  simp only [zbua, simprocAttr, *]
 ·cases h; subst hR; simp only [zbua, simprocAttr, *]
theorem zbuc : ∀ q, zbt9 q
 | 0 => by intro M hM j hj; intros; rename_i h _ _ _ _ _; cases h
 | q + 1 => by have i0 := zbuc q; exact zbub q i0
theorem zbud : ∀ (q N : Nat), 8 * q ≤ N → ∀ (a0 : zjm), ∀ (r : (Ow Int) × Int), zlp q a0 = some r → (orc T N).deep F.zlp [zjm.enc a0] = some [(Ow.enc 1 (V.int .u8)) r.1, (V.int .i64) r.2] := by
 intro q N hM a0 r h
 rcases q with _ | q
 ·cases h
 obtain ⟨M, rfl⟩ : ∃ M, N = M + 8 := ⟨N - 8, by omega⟩
 have zbwd := (zbuc q)
 generalize hR : some [(Ow.enc 1 (V.int .u8)) r.1, (V.int .i64) r.2] = R
 rw [zhu, zbgw, y6, zhs z5o rfl]
 rw [zlp] at h
 replace h := ob h; obtain ⟨r1, h1, h⟩ := h
 replace h1 := zbp2 q (M + 7) (by omega) _ _ h1
 try simp only [kf, simprocAttr] at h1
 replace h := bb h; rcases h with ⟨h2', h2, h⟩ | ⟨h2', h2, h⟩
 ·replace h := ob h; obtain ⟨r2, h3, h⟩ := h
  replace h3 := zbs6 q (M + 7) (by omega) _ _ _ h3
  try simp only [kf, simprocAttr] at h3
  replace h := ob h; obtain ⟨r3, h4, h⟩ := h
  replace h4 := zbtp q (M + 7) (by omega) _ _ h4
  try simp only [kf, simprocAttr] at h4
  replace h := ob h; obtain ⟨r4, h5, h⟩ := h
  replace h5 := zbs6 q (M + 7) (by omega) _ _ _ h5
  try simp only [kf, simprocAttr] at h5
  replace h := ob h; obtain ⟨r5, h6, h⟩ := h
  replace h6 := zbs6 q (M + 7) (by omega) _ _ _ h6
  try simp only [kf, simprocAttr] at h6
  replace h := zbwd M (by omega) (M + 7) (by omega) _ _ _ _ _ _ _ _ h R hR
  simp only [zbua, simprocAttr, *]
 ·cases h; subst hR; simp only [zbua, simprocAttr, *]
def zbue (q : Nat) : Prop := ∀ (M : Nat) (hM : 8 * q ≤ M) (j : Nat) (hj : q ≤ j) (v24z : Bool) (v24l : List zjn) (v25 v26 : Int) (h0z : Bool) (h0l : List Int) (h0x : Bool) (r : (Ow Int)) (_ : zlq q v24z v24l v25 v26 h0z h0l h0x = some r) (R : Option (List V)) (_ : some [(Ow.enc 1 (V.int .u8)) r] = R) (fr : Fr) (H : Hp) (_ : canon 0 [5, 24, 25, 26] fr H = ([(5, (.vw 0 0 0 h0l.length 1)), (24, (.sl v24z (List.map zjn.enc v24l))), (25, (.int .i64 v25)), (26, (.int .i64 v26))], [(.row 0 h0z 1 (List.map (V.int .u8) h0l) h0x)])), fin zuh (unw T (orc T (M + 7)) (M + 7) 0 [.blk 0, .code zuc] (iter 0 [5, 24, 25, 26] (exec T (orc T (M + 7)) (M + 7) 0 zt9) j fr H)) = R
def zbuf := And.intro @kk <| And.intro @ke <| And.intro @kn <| And.intro @zbjn <| And.intro @zbis <| And.intro @zbjr <| And.intro @zblr <| @zbjp
theorem zbug (q : Nat) (zbwe : zbue q) : zbue (q + 1) := by
 intro M hM j hj v24z v24l v25 v26 h0z h0l h0x r h R hR fr H hc
 obtain ⟨j, rfl⟩ : ∃ i, j = i + 1 := ⟨j - 1, by omega⟩
 rw [zhk, hc]; clear hc
 rw [zlq] at h
 replace h := br h; rcases h with ⟨h1, h⟩ | ⟨h1, h⟩
 ·replace h := bn h; obtain ⟨h2, h⟩ := h
  replace h := ob h; obtain ⟨e4, h3, h⟩ := h
  replace h := ob h; obtain ⟨r5, h4, h⟩ := h
  replace h4 := zbs6 q (M + 7) (by omega) _ _ _ h4
  try simp only [kf, simprocAttr] at h4
  replace h := ob h; obtain ⟨r6, h5, h⟩ := h
  replace h5 := zbs6 q (M + 7) (by omega) _ _ _ h5
  try simp only [kf, simprocAttr] at h5
  replace h := ob h; obtain ⟨r7, h6, h⟩ := h
  replace h6 := zbta q (M + 7) (by omega) _ _ _ h6
  try simp only [kf, simprocAttr] at h6
  replace h := zbwe M (by omega) j (by omega) _ _ _ _ _ _ _ _ h R hR
  simp only [zbuf, simprocAttr, *]
 ·cases h; subst hR; simp only [zbuf, simprocAttr, *]
theorem zbuh : ∀ q, zbue q
 | 0 => by intro M hM j hj; intros; rename_i h _ _ _ _ _; cases h
 | q + 1 => by have i0 := zbuh q; exact zbug q i0
theorem zbui : ∀ (q N : Nat), 8 * q ≤ N → ∀ (a0 : zjo), ∀ (r : (Ow Int)), zlr q a0 = some r → (orc T N).deep F.zlr [zjo.enc a0] = some [(Ow.enc 1 (V.int .u8)) r] := by
 intro q N hM a0 r h
 rcases q with _ | q
 ·cases h
 obtain ⟨M, rfl⟩ : ∃ M, N = M + 8 := ⟨N - 8, by omega⟩
 have zbwe := (zbuh q)
 generalize hR : some [(Ow.enc 1 (V.int .u8)) r] = R
 rw [zhu, zbf7, y6, zhs zuh rfl]
 rw [zlr] at h
 replace h := ob h; obtain ⟨r1, h1, h⟩ := h
 replace h1 := zbud q (M + 7) (by omega) _ _ h1
 try simp only [kf, simprocAttr] at h1
 replace h := ob h; obtain ⟨r2, h2, h⟩ := h
 replace h2 := zbs6 q (M + 7) (by omega) _ _ _ h2
 try simp only [kf, simprocAttr] at h2
 replace h := bn h; obtain ⟨h3, h⟩ := h
 replace h := ob h; obtain ⟨r3, h4, h⟩ := h
 replace h4 := zbs6 q (M + 7) (by omega) _ _ _ h4
 try simp only [kf, simprocAttr] at h4
 replace h := zbwe M (by omega) (M + 7) (by omega) _ _ _ _ _ _ _ _ h R hR
 simp only [zbuf, simprocAttr, *]
def zbuj := And.intro @kk <| And.intro @ke <| And.intro @kn <| And.intro @zbjt <| And.intro @zbiv <| @zbjv
theorem zbuk : ∀ (q N : Nat), 8 * q ≤ N → ∀ (a0 : (Sl Int)), ∀ (r : (Ow Int)), zls q a0 = some r → (orc T N).deep F.zls [(Sl.enc (V.int .u8)) a0] = some [(Ow.enc 1 (V.int .u8)) r] := by
 intro q N hM a0 r h
 rcases q with _ | q
 ·cases h
 obtain ⟨M, rfl⟩ : ∃ M, N = M + 8 := ⟨N - 8, by omega⟩
 generalize hR : some [(Ow.enc 1 (V.int .u8)) r] = R
 rw [zhu, zbf9, y6, zhs zul rfl]
 rw [zls] at h
 replace h := ob h; obtain ⟨r1, h1, h⟩ := h
 replace h1 := zbtn q (M + 7) (by omega) _ _ h1
 try simp only [kf, simprocAttr] at h1
 cases h; subst hR; simp only [zbuj, simprocAttr, *]
def zbul (q : Nat) : Prop := ∀ (M : Nat) (hM : 8 * q ≤ M) (j : Nat) (hj : q ≤ j) (h0z : Bool) (h0l : List Int) (h0x h1z : Bool) (h1l : List Int) (h1x : Bool) (r : (Ow Int) × Int) (_ : zlu q h0z h0l h0x h1z h1l h1x = some r) (R : Option (List V)) (_ : some [(Ow.enc 1 (V.int .u8)) r.1, (V.int .i64) r.2] = R) (fr : Fr) (H : Hp) (_ : canon 0 [4, 6] fr H = ([(4, (.vw 0 0 0 h0l.length 1)), (6, (.vw 1 0 0 h1l.length 1))], [(.row 0 h0z 1 (List.map (V.int .u8) h0l) h0x), (.row 0 h1z 1 (List.map (V.int .u8) h1l) h1x)])), fin zpq (unw T (orc T (M + 7)) (M + 7) 0 [.blk 0, .code zpj] (iter 0 [4, 6] (exec T (orc T (M + 7)) (M + 7) 0 zph) j fr H)) = R
def zbum (q : Nat) : Prop := ∀ (M : Nat) (hM : 8 * q ≤ M) (j : Nat) (hj : q ≤ j) (v4off v4len : Nat) (h0z : Bool) (h0l : List Int) (h1z : Bool) (h1l : List Int) (h1x : Bool) (r : (Ow Int) × Int) (_ : zlt q v4off v4len h0z h0l h1z h1l h1x = some r) (R : Option (List V)) (_ : some [(Ow.enc 1 (V.int .u8)) r.1, (V.int .i64) r.2] = R) (fr : Fr) (H : Hp) (_ : canon 0 [4, 6] fr H = ([(4, (.vw 0 0 v4off v4len 1)), (6, (.vw 1 0 0 h1l.length 1))], [(.row 0 h0z 1 (List.map (V.int .u8) h0l) false), (.row 0 h1z 1 (List.map (V.int .u8) h1l) h1x)])), fin zpq (unw T (orc T (M + 7)) (M + 7) 0 [.blk 0, .code zpj] (iter 0 [4, 6] (exec T (orc T (M + 7)) (M + 7) 0 zph) j fr H)) = R
def zbun := And.intro @kk <| And.intro @ke <| And.intro @kn <| And.intro @zbh6 <| And.intro @zbhm <| And.intro @zbjo <| And.intro @zbjr <| And.intro @zbju <| And.intro @zbjx <| And.intro @zbj0 <| @zbh8
theorem zbuo (q : Nat) (zbwf : zbum q) : zbul (q + 1) := by
 intro M hM j hj h0z h0l h0x h1z h1l h1x r h R hR fr H hc
 obtain ⟨j, rfl⟩ : ∃ i, j = i + 1 := ⟨j - 1, by omega⟩
 rw [zhk, hc]; clear hc
 rw [zlu] at h
 replace h := br h; rcases h with ⟨h1, h⟩ | ⟨h1, h⟩
 ·replace h := bn h; obtain ⟨h2, h⟩ := h
  replace h := bn h; obtain ⟨h3, h⟩ := h
  replace h := bn h; obtain ⟨h4, h⟩ := h
  replace h := ob h; obtain ⟨r9, h5, h⟩ := h
  replace h5 := zbuk q (M + 7) (by omega) _ _ h5
  try simp only [kf, simprocAttr] at h5
  replace h := bn h; obtain ⟨h6, h⟩ := h
  replace h := zbwf M (by omega) j (by omega) _ _ _ _ _ _ _ _ h R hR
  simp only [zbun, simprocAttr, *]
 ·cases h; subst hR; simp only [zbun, simprocAttr, *]
theorem zbup (q : Nat) (zbwf : zbum q) : zbum (q + 1) := by
 intro M hM j hj v4off v4len h0z h0l h1z h1l h1x r h R hR fr H hc
 obtain ⟨j, rfl⟩ : ∃ i, j = i + 1 := ⟨j - 1, by omega⟩
 rw [zhk, hc]; clear hc
 rw [zlt] at h
 replace h := br h; rcases h with ⟨h1, h⟩ | ⟨h1, h⟩
 ·replace h := bn h; obtain ⟨h2, h⟩ := h
  replace h := bn h; obtain ⟨h3, h⟩ := h
  replace h := bn h; obtain ⟨h4, h⟩ := h
  replace h := ob h; obtain ⟨r10, h5, h⟩ := h
  replace h5 := zbuk q (M + 7) (by omega) _ _ h5
  try simp only [kf, simprocAttr] at h5
  replace h := bn h; obtain ⟨h6, h⟩ := h
  replace h := bn h; obtain ⟨h7, h⟩ := h
  replace h := zbwf M (by omega) j (by omega) _ _ _ _ _ _ _ _ h R hR
  simp only [zbun, simprocAttr, *]
 ·cases h; subst hR; simp only [zbun, simprocAttr, *]
theorem zbuq : ∀ q, zbul q ∧ zbum q
 | 0 => by refine ⟨?_, ?_⟩ <;> (intro M hM j hj; intros; rename_i h _ _ _ _ _; cases h)
 | q + 1 => by have ⟨i0, i1⟩ := zbuq q; exact ⟨zbuo q i1, zbup q i1⟩
theorem zbur : ∀ (q N : Nat), 8 * q ≤ N → ∀ (a0 : zjo), ∀ (r : (Ow Int) × Int), zlv q a0 = some r → (orc T N).deep F.zlv [zjo.enc a0] = some [(Ow.enc 1 (V.int .u8)) r.1, (V.int .i64) r.2] := by
 intro q N hM a0 r h
 rcases q with _ | q
 ·cases h
 obtain ⟨M, rfl⟩ : ∃ M, N = M + 8 := ⟨N - 8, by omega⟩
 have ih_snapshot_Encode_l0 := (zbuq q).1
 generalize hR : some [(Ow.enc 1 (V.int .u8)) r.1, (V.int .i64) r.2] = R
 rw [zhu, zbfp, y6, zhs zpq rfl]
 rw [zlv] at h
 replace h := ob h; obtain ⟨r1, h1, h⟩ := h
 replace h1 := zbqb q (M + 7) (by omega) _ _ h1
 try simp only [kf, simprocAttr] at h1
 replace h := bb h; rcases h with ⟨h2', h2, h⟩ | ⟨h2', h2, h⟩
 ·replace h := ob h; obtain ⟨r2, h3, h⟩ := h
  replace h3 := zbui q (M + 7) (by omega) _ _ h3
  try simp only [kf, simprocAttr] at h3
  replace h := ob h; obtain ⟨r3, h4, h⟩ := h
  replace h4 := zbs6 q (M + 7) (by omega) _ _ _ h4
  try simp only [kf, simprocAttr] at h4
  replace h := ob h; obtain ⟨r4, h5, h⟩ := h
  replace h5 := zbs6 q (M + 7) (by omega) _ _ _ h5
  try simp only [kf, simprocAttr] at h5
  replace h := ob h; obtain ⟨r5, h6, h⟩ := h
  replace h6 := zbs6 q (M + 7) (by omega) _ _ _ h6
  try simp only [kf, simprocAttr] at h6
  replace h := ob h; obtain ⟨r6, h7, h⟩ := h
  replace h7 := zbsq q (M + 7) (by omega) _ _ h7
  try simp only [kf, simprocAttr] at h7
  replace h := ob h; obtain ⟨r7, h8, h⟩ := h
  replace h8 := zbsx q (M + 7) (by omega) _ _ h8
  try simp only [kf, simprocAttr] at h8
  replace h := bn h; obtain ⟨h9, h⟩ := h
  replace h := ob h; obtain ⟨r8, h10, h⟩ := h
  replace h10 := zbuk q (M + 7) (by omega) _ _ h10
  try simp only [kf, simprocAttr] at h10
  replace h := ih_snapshot_Encode_l0 M (by omega) (M + 7) (by omega) _ _ _ _ _ _ _ h R hR
  simp only [zbun, simprocAttr, *]
 ·cases h; subst hR; simp only [zbun, simprocAttr, *]
def zbus := And.intro @kk <| And.intro @ke <| And.intro @kn <| And.intro @zbhr <| And.intro @zbhp <| And.intro @zbh7 <| @zbht
theorem zbut : ∀ (q N : Nat), 8 * q ≤ N → ∀ (r : Bool), zlw q = some r → (orc T N).deep F.zlw [] = some [V.bool r] := by
 intro q N hM r h
 rcases q with _ | q
 ·cases h
 obtain ⟨M, rfl⟩ : ∃ M, N = M + 8 := ⟨N - 8, by omega⟩
 generalize hR : some [V.bool r] = R
 rw [zhu, zbfk, y6, zhs zng rfl]
 rw [zlw] at h
 replace h := ob h; obtain ⟨r1, h1, h⟩ := h
 replace h1 := zbsc q (M + 7) (by omega) _ _ _ h1
 try simp only [kf, simprocAttr] at h1
 replace h := ob h; obtain ⟨r2, h2, h⟩ := h
 replace h2 := zbur q (M + 7) (by omega) _ _ h2
 try simp only [kf, simprocAttr] at h2
 replace h := br h; rcases h with ⟨h3, h⟩ | ⟨h3, h⟩
 ·replace h := br h; rcases h with ⟨h4, h⟩ | ⟨h4, h⟩
  ·replace h := br h; rcases h with ⟨h5, h⟩ | ⟨h5, h⟩
   ·replace h := br h; rcases h with ⟨h6, h⟩ | ⟨h6, h⟩
    ·replace h := br h; rcases h with ⟨h7, h⟩ | ⟨h7, h⟩
     ·replace h := ob h; obtain ⟨e3, h8, h⟩ := h
      replace h := br h; rcases h with ⟨h9, h⟩ | ⟨h9, h⟩
      ·replace h := br h; rcases h with ⟨h10, h⟩ | ⟨h10, h⟩
       ·replace h := br h; rcases h with ⟨h11, h⟩ | ⟨h11, h⟩
        ·replace h := br h; rcases h with ⟨h12, h⟩ | ⟨h12, h⟩
         ·replace h := ob h; obtain ⟨e4, h13, h⟩ := h
          cases h; subst hR; simp only [zbus, simprocAttr, *]
         ·cases h; subst hR; simp only [zbus, simprocAttr, *]
        ·cases h; subst hR; simp only [zbus, simprocAttr, *]
       ·cases h; subst hR; simp only [zbus, simprocAttr, *]
      ·cases h; subst hR; simp only [zbus, simprocAttr, *]
     ·cases h; subst hR; simp only [zbus, simprocAttr, *]
    ·cases h; subst hR; simp only [zbus, simprocAttr, *]
   ·cases h; subst hR; simp only [zbus, simprocAttr, *]
  ·cases h; subst hR; simp only [zbus, simprocAttr, *]
 ·cases h; subst hR; simp only [zbus, simprocAttr, *]
def zbuu := And.intro @kk <| And.intro @ke <| And.intro @kn <| And.intro @zblb <| And.intro @zbl3 <| @zbld
theorem zbuv : ∀ (q N : Nat), 8 * q ≤ N → ∀ (a0 : zjq), ∀ (r : Bool), zlx q a0 = some r → (orc T N).deep F.zlx [zjq.enc a0] = some [V.bool r] := by
 intro q N hM a0 r h
 rcases q with _ | q
 ·cases h
 obtain ⟨M, rfl⟩ : ∃ M, N = M + 8 := ⟨N - 8, by omega⟩
 generalize hR : some [V.bool r] = R
 rw [zhu, zbgr, y6, zhs z0z rfl]
 rw [zlx] at h
 replace h := br h; rcases h with ⟨h1, h⟩ | ⟨h1, h⟩
 ·replace h := br h; rcases h with ⟨h2, h⟩ | ⟨h2, h⟩
  ·replace h := ob h; obtain ⟨r1, h3, h⟩ := h
   replace h3 := zbq8 q (M + 7) (by omega) _ _ h3
   replace h := br h; rcases h with ⟨h4, h⟩ | ⟨h4, h⟩
   ·replace h := ob h; obtain ⟨r2, h5, h⟩ := h
    replace h5 := zbq8 q (M + 7) (by omega) _ _ h5
    cases h; subst hR; simp only [zbuu, simprocAttr, *]
   ·cases h; subst hR; simp only [zbuu, simprocAttr, *]
  ·cases h; subst hR; simp only [zbuu, simprocAttr, *]
 ·cases h; subst hR; simp only [zbuu, simprocAttr, *]
def zbuw := And.intro @kk <| And.intro @ke <| And.intro @kn <| And.intro @zbix <| And.intro @zblc <| @zbiz
theorem zbux : ∀ (q N : Nat), 8 * q ≤ N → ∀ (a0 : zjr), ∀ (r : Bool), zly q a0 = some r → (orc T N).deep F.zly [zjr.enc a0] = some [V.bool r] := by
 intro q N hM a0 r h
 rcases q with _ | q
 ·cases h
 obtain ⟨M, rfl⟩ : ∃ M, N = M + 8 := ⟨N - 8, by omega⟩
 generalize hR : some [V.bool r] = R
 rw [zhu, zbfy, y6, zhs zrp rfl]
 rw [zly] at h
 replace h := ob h; obtain ⟨r1, h1, h⟩ := h
 replace h1 := zbuv q (M + 7) (by omega) _ _ h1
 try simp only [kf, simprocAttr] at h1
 replace h := bb h; rcases h with ⟨h2', h2, h⟩ | ⟨h2', h2, h⟩
 ·replace h := br h; rcases h with ⟨h3, h⟩ | ⟨h3, h⟩
  ·replace h := br h; rcases h with ⟨h4, h⟩ | ⟨h4, h⟩
   ·replace h := br h; rcases h with ⟨h5, h⟩ | ⟨h5, h⟩
    ·replace h := br h; rcases h with ⟨h6, h⟩ | ⟨h6, h⟩
     ·replace h := br h; rcases h with ⟨h7, h⟩ | ⟨h7, h⟩
      ·replace h := br h; rcases h with ⟨h8, h⟩ | ⟨h8, h⟩
       ·replace h := br h; rcases h with ⟨h9, h⟩ | ⟨h9, h⟩
        ·cases h; subst hR; simp only [zbuw, simprocAttr, *]
        ·cases h; subst hR; simp only [zbuw, simprocAttr, *]
       ·cases h; subst hR; simp only [zbuw, simprocAttr, *]
      ·cases h; subst hR; simp only [zbuw, simprocAttr, *]
     ·cases h; subst hR; simp only [zbuw, simprocAttr, *]
    ·cases h; subst hR; simp only [zbuw, simprocAttr, *]
   ·cases h; subst hR; simp only [zbuw, simprocAttr, *]
  ·cases h; subst hR; simp only [zbuw, simprocAttr, *]
 ·cases h; subst hR; simp only [zbuw, simprocAttr, *]
def zbuy := And.intro @kk <| And.intro @ke <| And.intro @kn <| And.intro @zble <| And.intro @zbl3 <| @zblg
theorem zbuz : ∀ (q N : Nat), 8 * q ≤ N → ∀ (a0 : zjm) (a1 : zjq), ∀ (r : zjm × Int), zlz q a0 a1 = some r → (orc T N).deep F.zlz [zjm.enc a0, zjq.enc a1] = some [zjm.enc r.1, (V.int .i64) r.2] := by
 intro q N hM a0 a1 r h
 rcases q with _ | q
 ·cases h
 obtain ⟨M, rfl⟩ : ∃ M, N = M + 8 := ⟨N - 8, by omega⟩
 generalize hR : some [zjm.enc r.1, (V.int .i64) r.2] = R
 rw [zhu, zbgs, y6, zhs z1m rfl]
 rw [zlz] at h
 replace h := ob h; obtain ⟨e1, h1, h⟩ := h
 replace h := br h; rcases h with ⟨h2, h⟩ | ⟨h2, h⟩
 ·replace h := br h; rcases h with ⟨h3, h⟩ | ⟨h3, h⟩
  ·replace h := ob h; obtain ⟨r2, h4, h⟩ := h
   replace h4 := zbq8 q (M + 7) (by omega) _ _ h4
   replace h := ob h; obtain ⟨r3, h5, h⟩ := h
   replace h5 := zbq8 q (M + 7) (by omega) _ _ h5
   cases h; subst hR; simp only [zbuy, simprocAttr, *]
  ·replace h := br h; rcases h with ⟨h6, h⟩ | ⟨h6, h⟩
   ·replace h := br h; rcases h with ⟨h7, h⟩ | ⟨h7, h⟩
    ·replace h := ob h; obtain ⟨r4, h8, h⟩ := h
     replace h8 := zbq8 q (M + 7) (by omega) _ _ h8
     cases h; subst hR; simp only [zbuy, simprocAttr, *]
    ·replace h := br h; rcases h with ⟨h9, h⟩ | ⟨h9, h⟩
     ·cases h; subst hR; simp only [zbuy, simprocAttr, *]
     ·cases h; subst hR; simp only [zbuy, simprocAttr, *]
   ·replace h := br h; rcases h with ⟨h10, h⟩ | ⟨h10, h⟩
    ·cases h; subst hR; simp only [zbuy, simprocAttr, *]
    ·cases h; subst hR; simp only [zbuy, simprocAttr, *]
 ·replace h := br h; rcases h with ⟨h11, h⟩ | ⟨h11, h⟩
  ·replace h := br h; rcases h with ⟨h12, h⟩ | ⟨h12, h⟩
   ·replace h := ob h; obtain ⟨r5, h13, h⟩ := h
    replace h13 := zbq8 q (M + 7) (by omega) _ _ h13
    cases h; subst hR; simp only [zbuy, simprocAttr, *]
   ·replace h := br h; rcases h with ⟨h14, h⟩ | ⟨h14, h⟩
    ·cases h; subst hR; simp only [zbuy, simprocAttr, *]
    ·cases h; subst hR; simp only [zbuy, simprocAttr, *]
  ·replace h := br h; rcases h with ⟨h15, h⟩ | ⟨h15, h⟩
   ·cases h; subst hR; simp only [zbuy, simprocAttr, *]
   ·cases h; subst hR; simp only [zbuy, simprocAttr, *]
def zbu0 := And.intro @kk <| And.intro @ke <| And.intro @kn <| And.intro @zblh <| And.intro @zbl3 <| @zblj
theorem zbu1 : ∀ (q N : Nat), 8 * q ≤ N → ∀ (a0 : zjm) (a1 : zjq), ∀ (r : zjm × Int), zl0 q a0 a1 = some r → (orc T N).deep F.zl0 [zjm.enc a0, zjq.enc a1] = some [zjm.enc r.1, (V.int .i64) r.2] := by
 intro q N hM a0 a1 r h
 rcases q with _ | q
 ·cases h
 obtain ⟨M, rfl⟩ : ∃ M, N = M + 8 := ⟨N - 8, by omega⟩
 generalize hR : some [zjm.enc r.1, (V.int .i64) r.2] = R
 rw [zhu, zbgt, y6, zhs z2t rfl]
 rw [zl0] at h
 replace h := br h; rcases h with ⟨h1, h⟩ | ⟨h1, h⟩
 ·replace h := br h; rcases h with ⟨h2, h⟩ | ⟨h2, h⟩
  ·cases h; subst hR; simp only [zbu0, simprocAttr, *]
  ·replace h := bn h; obtain ⟨h3, h⟩ := h
   replace h := ob h; obtain ⟨r1, h4, h⟩ := h
   replace h4 := zbq8 q (M + 7) (by omega) _ _ h4
   replace h := bn h; obtain ⟨h5, h⟩ := h
   cases h; subst hR; simp only [zbu0, simprocAttr, *]
 ·replace h := br h; rcases h with ⟨h6, h⟩ | ⟨h6, h⟩
  ·replace h := br h; rcases h with ⟨h7, h⟩ | ⟨h7, h⟩
   ·cases h; subst hR; simp only [zbu0, simprocAttr, *]
   ·replace h := bn h; obtain ⟨h8, h⟩ := h
    replace h := br h; rcases h with ⟨h9, h⟩ | ⟨h9, h⟩
    ·replace h := bn h; obtain ⟨h10, h⟩ := h
     replace h := bn h; obtain ⟨h11, h⟩ := h
     replace h := ob h; obtain ⟨e2, h12, h⟩ := h
     cases h; subst hR; simp only [zbu0, simprocAttr, *]
    ·replace h := bn h; obtain ⟨h13, h⟩ := h
     replace h := bn h; obtain ⟨h14, h⟩ := h
     replace h := bm h; obtain ⟨h15, h⟩ := h
     replace h := bn h; obtain ⟨h16, h⟩ := h
     replace h := ob h; obtain ⟨e3, h17, h⟩ := h
     cases h; subst hR; simp only [zbu0, simprocAttr, *]
  ·replace h := br h; rcases h with ⟨h18, h⟩ | ⟨h18, h⟩
   ·cases h; subst hR; simp only [zbu0, simprocAttr, *]
   ·cases h; subst hR; simp only [zbu0, simprocAttr, *]
def zbu2 (q : Nat) : Prop := ∀ (M : Nat) (hM : 8 * q ≤ M) (j : Nat) (hj : q ≤ j) (v0z : Bool) (v0l : List Int) (v1 v5 r : Int) (_ : zl1 q v0z v0l v1 v5 = some r) (R : Option (List V)) (_ : some [(V.int .i64) r] = R) (fr : Fr) (H : Hp) (_ : canon 0 [0, 1, 5] fr H = ([(0, (.sl v0z (List.map (V.int .i64) v0l))), (1, (.int .i64 v1)), (5, (.int .i64 v5))], [])), fin zbbj (unw T (orc T (M + 7)) (M + 7) 0 [.blk 0, .code zbbg] (iter 0 [0, 1, 5] (exec T (orc T (M + 7)) (M + 7) 0 zbbd) j fr H)) = R
def zbu3 := And.intro @kk <| And.intro @ke <| And.intro @kn <| And.intro @zbmq <| @zbms
theorem zbu4 (q : Nat) (zbwg : zbu2 q) : zbu2 (q + 1) := by
 intro M hM j hj v0z v0l v1 v5 r h R hR fr H hc
 obtain ⟨j, rfl⟩ : ∃ i, j = i + 1 := ⟨j - 1, by omega⟩
 rw [zhk, hc]; clear hc
 rw [zl1] at h
 replace h := br h; rcases h with ⟨h1, h⟩ | ⟨h1, h⟩
 ·replace h := bn h; obtain ⟨h2, h⟩ := h
  replace h := ob h; obtain ⟨e1, h3, h⟩ := h
  replace h := br h; rcases h with ⟨h4, h⟩ | ⟨h4, h⟩
  ·cases h; subst hR; simp only [zbu3, simprocAttr, *]
  ·replace h := zbwg M (by omega) j (by omega) _ _ _ _ _ h R hR
   simp only [zbu3, simprocAttr, *]
 ·cases h; subst hR; simp only [zbu3, simprocAttr, *]
theorem zbu5 : ∀ q, zbu2 q
 | 0 => by intro M hM j hj; intros; rename_i h _ _ _ _ _; cases h
 | q + 1 => by have i0 := zbu5 q; exact zbu4 q i0
theorem zbu6 : ∀ (q N : Nat), 8 * q ≤ N → ∀ (a0 : (Sl Int)) (a1 : Int), ∀ (r : Int), zl2 q a0 a1 = some r → (orc T N).deep F.zl2 [(Sl.enc (V.int .i64)) a0, (V.int .i64) a1] = some [(V.int .i64) r] := by
 intro q N hM a0 a1 r h
 rcases q with _ | q
 ·cases h
 obtain ⟨M, rfl⟩ : ∃ M, N = M + 8 := ⟨N - 8, by omega⟩
 have zbwg := (zbu5 q)
 generalize hR : some [(V.int .i64) r] = R
 rw [zhu, zbg8, y6, zhs zbbj rfl]
 rw [zl2] at h
 replace h := zbwg M (by omega) (M + 7) (by omega) _ _ _ _ _ h R hR
 simp only [zbu3, simprocAttr, *]
def zbu7 (q : Nat) : Prop := ∀ (M : Nat) (hM : 8 * q ≤ M) (j : Nat) (hj : q ≤ j) (v0z : Bool) (v0l : List Int) (v1 v6 : Int) (h0z : Bool) (h0l : List Int) (r : (Ow Int)) (_ : zl3 q v0z v0l v1 v6 h0z h0l = some r) (R : Option (List V)) (_ : some [(Ow.enc 1 (V.int .i64)) r] = R) (fr : Fr) (H : Hp) (_ : canon 0 [0, 1, 5, 6] fr H = ([(0, (.sl v0z (List.map (V.int .i64) v0l))), (1, (.int .i64 v1)), (5, (.vw 0 0 0 h0l.length 1)), (6, (.int .i64 v6))], [(.row 0 h0z 1 (List.map (V.int .i64) h0l) true)])), fin zbb4 (unw T (orc T (M + 7)) (M + 7) 0 [.blk 0, .code zbb0] (iter 0 [0, 1, 5, 6] (exec T (orc T (M + 7)) (M + 7) 0 zbbx) j fr H)) = R
def zbu8 := And.intro @kk <| And.intro @ke <| And.intro @kn <| And.intro @zbmt <| @zbmv
theorem zbu9 (q : Nat) (zbwh : zbu7 q) : zbu7 (q + 1) := by
 intro M hM j hj v0z v0l v1 v6 h0z h0l r h R hR fr H hc
 obtain ⟨j, rfl⟩ : ∃ i, j = i + 1 := ⟨j - 1, by omega⟩
 rw [zhk, hc]; clear hc
 rw [zl3] at h
 replace h := br h; rcases h with ⟨h1, h⟩ | ⟨h1, h⟩
 ·replace h := bn h; obtain ⟨h2, h⟩ := h
  replace h := ob h; obtain ⟨e1, h3, h⟩ := h
  replace h := br h; rcases h with ⟨h4, h⟩ | ⟨h4, h⟩
  ·replace h := zbwh M (by omega) j (by omega) _ _ _ _ _ _ _ h R hR
   simp only [zbu8, simprocAttr, *]
  ·replace h := bn h; obtain ⟨h5, h⟩ := h
   replace h := bn h; obtain ⟨h6, h⟩ := h
   replace h := ob h; obtain ⟨e2, h7, h⟩ := h
   replace h := bn h; obtain ⟨h8, h⟩ := h
   replace h := zbwh M (by omega) j (by omega) _ _ _ _ _ _ _ h R hR
   simp only [zbu8, simprocAttr, *]
 ·cases h; subst hR; simp only [zbu8, simprocAttr, *]
theorem zbva : ∀ q, zbu7 q
 | 0 => by intro M hM j hj; intros; rename_i h _ _ _ _ _; cases h
 | q + 1 => by have i0 := zbva q; exact zbu9 q i0
theorem zbvb : ∀ (q N : Nat), 8 * q ≤ N → ∀ (a0 : (Sl Int)) (a1 : Int), ∀ (r : (Ow Int)), zl4 q a0 a1 = some r → (orc T N).deep F.zl4 [(Sl.enc (V.int .i64)) a0, (V.int .i64) a1] = some [(Ow.enc 1 (V.int .i64)) r] := by
 intro q N hM a0 a1 r h
 rcases q with _ | q
 ·cases h
 obtain ⟨M, rfl⟩ : ∃ M, N = M + 8 := ⟨N - 8, by omega⟩
 have zbwh := (zbva q)
 generalize hR : some [(Ow.enc 1 (V.int .i64)) r] = R
 rw [zhu, zbg9, y6, zhs zbb4 rfl]
 rw [zl4] at h
 replace h := zbwh M (by omega) (M + 7) (by omega) _ _ _ _ _ _ _ h R hR
 simp only [zbu8, simprocAttr, *]
def zbvc (q : Nat) : Prop := ∀ (M : Nat) (hM : 8 * q ≤ M) (j : Nat) (hj : q ≤ j) (v0z : Bool) (v0l : List Int) (v1 v2 : Int) (v8 : Bool) (v9 : Int) (h0z : Bool) (h0l : List Int) (r : (Ow Int)) (_ : zl5 q v0z v0l v1 v2 v8 v9 h0z h0l = some r) (R : Option (List V)) (_ : some [(Ow.enc 1 (V.int .i64)) r] = R) (fr : Fr) (H : Hp) (_ : canon 0 [0, 1, 2, 7, 8, 9] fr H = ([(0, (.sl v0z (List.map (V.int .i64) v0l))), (1, (.int .i64 v1)), (2, (.int .i64 v2)), (7, (.vw 0 0 0 h0l.length 1)), (8, (.bool v8)), (9, (.int .i64 v9))], [(.row 0 h0z 1 (List.map (V.int .i64) h0l) true)])), fin zbc5 (unw T (orc T (M + 7)) (M + 7) 0 [.blk 0, .code zbc0] (iter 0 [0, 1, 2, 7, 8, 9] (exec T (orc T (M + 7)) (M + 7) 0 zbcr) j fr H)) = R
def zbvd := And.intro @kk <| And.intro @ke <| And.intro @kn <| And.intro @zbmw <| @zbmy
theorem zbve (q : Nat) (zbwi : zbvc q) : zbvc (q + 1) := by
 intro M hM j hj v0z v0l v1 v2 v8 v9 h0z h0l r h R hR fr H hc
 obtain ⟨j, rfl⟩ : ∃ i, j = i + 1 := ⟨j - 1, by omega⟩
 rw [zhk, hc]; clear hc
 rw [zl5] at h
 replace h := br h; rcases h with ⟨h1, h⟩ | ⟨h1, h⟩
 ·replace h := bb h; rcases h with ⟨h2', h2, h⟩ | ⟨h2', h2, h⟩
  ·replace h := bn h; obtain ⟨h3, h⟩ := h
   replace h := ob h; obtain ⟨e1, h4, h⟩ := h
   replace h := br h; rcases h with ⟨h5, h⟩ | ⟨h5, h⟩
   ·replace h := zbwi M (by omega) j (by omega) _ _ _ _ _ _ _ _ _ h R hR
    simp only [zbvd, simprocAttr, *]
   ·replace h := bn h; obtain ⟨h6, h⟩ := h
    replace h := bn h; obtain ⟨h7, h⟩ := h
    replace h := ob h; obtain ⟨e2, h8, h⟩ := h
    replace h := bn h; obtain ⟨h9, h⟩ := h
    replace h := zbwi M (by omega) j (by omega) _ _ _ _ _ _ _ _ _ h R hR
    simp only [zbvd, simprocAttr, *]
  ·replace h := bn h; obtain ⟨h10, h⟩ := h
   replace h := ob h; obtain ⟨e3, h11, h⟩ := h
   replace h := br h; rcases h with ⟨h12, h⟩ | ⟨h12, h⟩
   ·replace h := bn h; obtain ⟨h13, h⟩ := h
    replace h := bn h; obtain ⟨h14, h⟩ := h
    replace h := br h; rcases h with ⟨h15, h⟩ | ⟨h15, h⟩
    ·replace h := zbwi M (by omega) j (by omega) _ _ _ _ _ _ _ _ _ h R hR
     simp only [zbvd, simprocAttr, *]
    ·replace h := bn h; obtain ⟨h16, h⟩ := h
     replace h := bn h; obtain ⟨h17, h⟩ := h
     replace h := ob h; obtain ⟨e4, h18, h⟩ := h
     replace h := bn h; obtain ⟨h19, h⟩ := h
     replace h := zbwi M (by omega) j (by omega) _ _ _ _ _ _ _ _ _ h R hR
     simp only [zbvd, simprocAttr, *]
   ·replace h := br h; rcases h with ⟨h20, h⟩ | ⟨h20, h⟩
    ·replace h := zbwi M (by omega) j (by omega) _ _ _ _ _ _ _ _ _ h R hR
     simp only [zbvd, simprocAttr, *]
    ·replace h := bn h; obtain ⟨h21, h⟩ := h
     replace h := bn h; obtain ⟨h22, h⟩ := h
     replace h := ob h; obtain ⟨e5, h23, h⟩ := h
     replace h := bn h; obtain ⟨h24, h⟩ := h
     replace h := zbwi M (by omega) j (by omega) _ _ _ _ _ _ _ _ _ h R hR
     simp only [zbvd, simprocAttr, *]
 ·replace h := bb h; rcases h with ⟨h25', h25, h⟩ | ⟨h25', h25, h⟩
  ·cases h; subst hR; simp only [zbvd, simprocAttr, *]
  ·replace h := bn h; obtain ⟨h26, h⟩ := h
   replace h := bn h; obtain ⟨h27, h⟩ := h
   cases h; subst hR; simp only [zbvd, simprocAttr, *]
theorem zbvf : ∀ q, zbvc q
 | 0 => by intro M hM j hj; intros; rename_i h _ _ _ _ _; cases h
 | q + 1 => by have i0 := zbvf q; exact zbve q i0
theorem zbvg : ∀ (q N : Nat), 8 * q ≤ N → ∀ (a0 : (Sl Int)) (a1 a2 : Int), ∀ (r : (Ow Int)), zl6 q a0 a1 a2 = some r → (orc T N).deep F.zl6 [(Sl.enc (V.int .i64)) a0, (V.int .i64) a1, (V.int .i64) a2] = some [(Ow.enc 1 (V.int .i64)) r] := by
 intro q N hM a0 a1 a2 r h
 rcases q with _ | q
 ·cases h
 obtain ⟨M, rfl⟩ : ∃ M, N = M + 8 := ⟨N - 8, by omega⟩
 have zbwi := (zbvf q)
 generalize hR : some [(Ow.enc 1 (V.int .i64)) r] = R
 rw [zhu, zbha, y6, zhs zbc5 rfl]
 rw [zl6] at h
 replace h := zbwi M (by omega) (M + 7) (by omega) _ _ _ _ _ _ _ _ _ h R hR
 simp only [zbvd, simprocAttr, *]
def zbvh := And.intro @kk <| And.intro @ke <| And.intro @kn <| And.intro @zblk <| And.intro @zbl3 <| And.intro @zbmr <| And.intro @zbmu <| And.intro @zbmx <| @zblm
theorem zbvi : ∀ (q N : Nat), 8 * q ≤ N → ∀ (a0 : zjm) (a1 : zjq), ∀ (r : zjm × Int), zl7 q a0 a1 = some r → (orc T N).deep F.zl7 [zjm.enc a0, zjq.enc a1] = some [zjm.enc r.1, (V.int .i64) r.2] := by
 intro q N hM a0 a1 r h
 rcases q with _ | q
 ·cases h
 obtain ⟨M, rfl⟩ : ∃ M, N = M + 8 := ⟨N - 8, by omega⟩
 generalize hR : some [zjm.enc r.1, (V.int .i64) r.2] = R
 rw [zhu, zbgu, y6, zhs z3q rfl]
 rw [zl7] at h
 replace h := br h; rcases h with ⟨h1, h⟩ | ⟨h1, h⟩
 ·replace h := br h; rcases h with ⟨h2, h⟩ | ⟨h2, h⟩
  ·cases h; subst hR; simp only [zbvh, simprocAttr, *]
  ·replace h := br h; rcases h with ⟨h3, h⟩ | ⟨h3, h⟩
   ·cases h; subst hR; simp only [zbvh, simprocAttr, *]
   ·replace h := ob h; obtain ⟨r1, h4, h⟩ := h
    replace h4 := zbu6 q (M + 7) (by omega) _ _ _ h4
    try simp only [kf, simprocAttr] at h4
    replace h := br h; rcases h with ⟨h5, h⟩ | ⟨h5, h⟩
    ·replace h := bn h; obtain ⟨h6, h⟩ := h
     replace h := ob h; obtain ⟨e2, h7, h⟩ := h
     replace h := br h; rcases h with ⟨h8, h⟩ | ⟨h8, h⟩
     ·replace h := ob h; obtain ⟨r3, h9, h⟩ := h
      replace h9 := zbvb q (M + 7) (by omega) _ _ _ h9
      try simp only [kf, simprocAttr] at h9
      replace h := br h; rcases h with ⟨h10, h⟩ | ⟨h10, h⟩
      ·replace h := br h; rcases h with ⟨h11, h⟩ | ⟨h11, h⟩
       ·replace h := br h; rcases h with ⟨h12, h⟩ | ⟨h12, h⟩
        ·cases h; subst hR; simp only [zbvh, simprocAttr, *]
        ·replace h := ob h; obtain ⟨r4, h13, h⟩ := h
         replace h13 := zbq8 q (M + 7) (by omega) _ _ h13
         replace h := ob h; obtain ⟨r5, h14, h⟩ := h
         replace h14 := zbvg q (M + 7) (by omega) _ _ _ _ h14
         try simp only [kf, simprocAttr] at h14
         cases h; subst hR; simp only [zbvh, simprocAttr, *]
       ·replace h := ob h; obtain ⟨r6, h15, h⟩ := h
        replace h15 := zbq8 q (M + 7) (by omega) _ _ h15
        replace h := ob h; obtain ⟨r7, h16, h⟩ := h
        replace h16 := zbvg q (M + 7) (by omega) _ _ _ _ h16
        try simp only [kf, simprocAttr] at h16
        cases h; subst hR; simp only [zbvh, simprocAttr, *]
      ·cases h; subst hR; simp only [zbvh, simprocAttr, *]
     ·replace h := br h; rcases h with ⟨h17, h⟩ | ⟨h17, h⟩
      ·replace h := br h; rcases h with ⟨h18, h⟩ | ⟨h18, h⟩
       ·replace h := br h; rcases h with ⟨h19, h⟩ | ⟨h19, h⟩
        ·cases h; subst hR; simp only [zbvh, simprocAttr, *]
        ·replace h := ob h; obtain ⟨r8, h20, h⟩ := h
         replace h20 := zbq8 q (M + 7) (by omega) _ _ h20
         replace h := ob h; obtain ⟨r9, h21, h⟩ := h
         replace h21 := zbvg q (M + 7) (by omega) _ _ _ _ h21
         try simp only [kf, simprocAttr] at h21
         cases h; subst hR; simp only [zbvh, simprocAttr, *]
       ·replace h := ob h; obtain ⟨r10, h22, h⟩ := h
        replace h22 := zbq8 q (M + 7) (by omega) _ _ h22
        replace h := ob h; obtain ⟨r11, h23, h⟩ := h
        replace h23 := zbvg q (M + 7) (by omega) _ _ _ _ h23
        try simp only [kf, simprocAttr] at h23
        cases h; subst hR; simp only [zbvh, simprocAttr, *]
      ·cases h; subst hR; simp only [zbvh, simprocAttr, *]
    ·replace h := br h; rcases h with ⟨h24, h⟩ | ⟨h24, h⟩
     ·replace h := ob h; obtain ⟨r12, h25, h⟩ := h
      replace h25 := zbvb q (M + 7) (by omega) _ _ _ h25
      try simp only [kf, simprocAttr] at h25
      replace h := br h; rcases h with ⟨h26, h⟩ | ⟨h26, h⟩
      ·replace h := br h; rcases h with ⟨h27, h⟩ | ⟨h27, h⟩
       ·replace h := br h; rcases h with ⟨h28, h⟩ | ⟨h28, h⟩
        ·cases h; subst hR; simp only [zbvh, simprocAttr, *]
        ·replace h := ob h; obtain ⟨r13, h29, h⟩ := h
         replace h29 := zbq8 q (M + 7) (by omega) _ _ h29
         replace h := ob h; obtain ⟨r14, h30, h⟩ := h
         replace h30 := zbvg q (M + 7) (by omega) _ _ _ _ h30
         try simp only [kf, simprocAttr] at h30
         cases h; subst hR; simp only [zbvh, simprocAttr, *]
       ·replace h := ob h; obtain ⟨r15, h31, h⟩ := h
        replace h31 := zbq8 q (M + 7) (by omega) _ _ h31
        replace h := ob h; obtain ⟨r16, h32, h⟩ := h
        replace h32 := zbvg q (M + 7) (by omega) _ _ _ _ h32
        try simp only [kf, simprocAttr] at h32
        cases h; subst hR; simp only [zbvh, simprocAttr, *]
      ·cases h; subst hR; simp only [zbvh, simprocAttr, *]
     ·replace h := br h; rcases h with ⟨h33, h⟩ | ⟨h33, h⟩
      ·replace h := br h; rcases h with ⟨h34, h⟩ | ⟨h34, h⟩
       ·replace h := br h; rcases h with ⟨h35, h⟩ | ⟨h35, h⟩
        ·cases h; subst hR; simp only [zbvh, simprocAttr, *]
        ·replace h := ob h; obtain ⟨r17, h36, h⟩ := h
         replace h36 := zbq8 q (M + 7) (by omega) _ _ h36
         replace h := ob h; obtain ⟨r18, h37, h⟩ := h
         replace h37 := zbvg q (M + 7) (by omega) _ _ _ _ h37
         try simp only [kf, simprocAttr] at h37
         cases h; subst hR; simp only [zbvh, simprocAttr, *]
       ·replace h := ob h; obtain ⟨r19, h38, h⟩ := h
        replace h38 := zbq8 q (M + 7) (by omega) _ _ h38
        replace h := ob h; obtain ⟨r20, h39, h⟩ := h
        replace h39 := zbvg q (M + 7) (by omega) _ _ _ _ h39
        try simp only [kf, simprocAttr] at h39
        cases h; subst hR; simp only [zbvh, simprocAttr, *]
      ·cases h; subst hR; simp only [zbvh, simprocAttr, *]
 ·replace h := br h; rcases h with ⟨h40, h⟩ | ⟨h40, h⟩
  ·replace h := br h; rcases h with ⟨h41, h⟩ | ⟨h41, h⟩
   ·cases h; subst hR; simp only [zbvh, simprocAttr, *]
   ·replace h := br h; rcases h with ⟨h42, h⟩ | ⟨h42, h⟩
    ·cases h; subst hR; simp only [zbvh, simprocAttr, *]
    ·replace h := ob h; obtain ⟨r21, h43, h⟩ := h
     replace h43 := zbu6 q (M + 7) (by omega) _ _ _ h43
     try simp only [kf, simprocAttr] at h43
     replace h := br h; rcases h with ⟨h44, h⟩ | ⟨h44, h⟩
     ·replace h := bn h; obtain ⟨h45, h⟩ := h
      replace h := ob h; obtain ⟨e22, h46, h⟩ := h
      replace h := ob h; obtain ⟨r23, h47, h⟩ := h
      replace h47 := zbvb q (M + 7) (by omega) _ _ _ h47
      try simp only [kf, simprocAttr] at h47
      replace h := br h; rcases h with ⟨h48, h⟩ | ⟨h48, h⟩
      ·replace h := br h; rcases h with ⟨h49, h⟩ | ⟨h49, h⟩
       ·replace h := br h; rcases h with ⟨h50, h⟩ | ⟨h50, h⟩
        ·cases h; subst hR; simp only [zbvh, simprocAttr, *]
        ·replace h := ob h; obtain ⟨r24, h51, h⟩ := h
         replace h51 := zbq8 q (M + 7) (by omega) _ _ h51
         replace h := ob h; obtain ⟨r25, h52, h⟩ := h
         replace h52 := zbvg q (M + 7) (by omega) _ _ _ _ h52
         try simp only [kf, simprocAttr] at h52
         cases h; subst hR; simp only [zbvh, simprocAttr, *]
       ·replace h := ob h; obtain ⟨r26, h53, h⟩ := h
        replace h53 := zbq8 q (M + 7) (by omega) _ _ h53
        replace h := ob h; obtain ⟨r27, h54, h⟩ := h
        replace h54 := zbvg q (M + 7) (by omega) _ _ _ _ h54
        try simp only [kf, simprocAttr] at h54
        cases h; subst hR; simp only [zbvh, simprocAttr, *]
      ·cases h; subst hR; simp only [zbvh, simprocAttr, *]
     ·replace h := ob h; obtain ⟨r28, h55, h⟩ := h
      replace h55 := zbvb q (M + 7) (by omega) _ _ _ h55
      try simp only [kf, simprocAttr] at h55
      replace h := br h; rcases h with ⟨h56, h⟩ | ⟨h56, h⟩
      ·replace h := br h; rcases h with ⟨h57, h⟩ | ⟨h57, h⟩
       ·replace h := br h; rcases h with ⟨h58, h⟩ | ⟨h58, h⟩
        ·cases h; subst hR; simp only [zbvh, simprocAttr, *]
        ·replace h := ob h; obtain ⟨r29, h59, h⟩ := h
         replace h59 := zbq8 q (M + 7) (by omega) _ _ h59
         replace h := ob h; obtain ⟨r30, h60, h⟩ := h
         replace h60 := zbvg q (M + 7) (by omega) _ _ _ _ h60
         try simp only [kf, simprocAttr] at h60
         cases h; subst hR; simp only [zbvh, simprocAttr, *]
       ·replace h := ob h; obtain ⟨r31, h61, h⟩ := h
        replace h61 := zbq8 q (M + 7) (by omega) _ _ h61
        replace h := ob h; obtain ⟨r32, h62, h⟩ := h
        replace h62 := zbvg q (M + 7) (by omega) _ _ _ _ h62
        try simp only [kf, simprocAttr] at h62
        cases h; subst hR; simp only [zbvh, simprocAttr, *]
      ·cases h; subst hR; simp only [zbvh, simprocAttr, *]
  ·replace h := br h; rcases h with ⟨h63, h⟩ | ⟨h63, h⟩
   ·replace h := br h; rcases h with ⟨h64, h⟩ | ⟨h64, h⟩
    ·cases h; subst hR; simp only [zbvh, simprocAttr, *]
    ·replace h := br h; rcases h with ⟨h65, h⟩ | ⟨h65, h⟩
     ·cases h; subst hR; simp only [zbvh, simprocAttr, *]
     ·replace h := ob h; obtain ⟨r33, h66, h⟩ := h
      replace h66 := zbu6 q (M + 7) (by omega) _ _ _ h66
      try simp only [kf, simprocAttr] at h66
      replace h := br h; rcases h with ⟨h67, h⟩ | ⟨h67, h⟩
      ·replace h := bn h; obtain ⟨h68, h⟩ := h
       replace h := ob h; obtain ⟨e34, h69, h⟩ := h
       replace h := br h; rcases h with ⟨h70, h⟩ | ⟨h70, h⟩
       ·replace h := br h; rcases h with ⟨h71, h⟩ | ⟨h71, h⟩
        ·cases h; subst hR; simp only [zbvh, simprocAttr, *]
        ·replace h := ob h; obtain ⟨r35, h72, h⟩ := h
         replace h72 := zbq8 q (M + 7) (by omega) _ _ h72
         replace h := ob h; obtain ⟨r36, h73, h⟩ := h
         replace h73 := zbvg q (M + 7) (by omega) _ _ _ _ h73
         try simp only [kf, simprocAttr] at h73
         cases h; subst hR; simp only [zbvh, simprocAttr, *]
       ·replace h := ob h; obtain ⟨r37, h74, h⟩ := h
        replace h74 := zbq8 q (M + 7) (by omega) _ _ h74
        replace h := ob h; obtain ⟨r38, h75, h⟩ := h
        replace h75 := zbvg q (M + 7) (by omega) _ _ _ _ h75
        try simp only [kf, simprocAttr] at h75
        cases h; subst hR; simp only [zbvh, simprocAttr, *]
      ·replace h := br h; rcases h with ⟨h76, h⟩ | ⟨h76, h⟩
       ·replace h := br h; rcases h with ⟨h77, h⟩ | ⟨h77, h⟩
        ·cases h; subst hR; simp only [zbvh, simprocAttr, *]
        ·replace h := ob h; obtain ⟨r39, h78, h⟩ := h
         replace h78 := zbq8 q (M + 7) (by omega) _ _ h78
         replace h := ob h; obtain ⟨r40, h79, h⟩ := h
         replace h79 := zbvg q (M + 7) (by omega) _ _ _ _ h79
         try simp only [kf, simprocAttr] at h79
         cases h; subst hR; simp only [zbvh, simprocAttr, *]
       ·replace h := ob h; obtain ⟨r41, h80, h⟩ := h
        replace h80 := zbq8 q (M + 7) (by omega) _ _ h80
        replace h := ob h; obtain ⟨r42, h81, h⟩ := h
        replace h81 := zbvg q (M + 7) (by omega) _ _ _ _ h81
        try simp only [kf, simprocAttr] at h81
        cases h; subst hR; simp only [zbvh, simprocAttr, *]
   ·cases h; subst hR; simp only [zbvh, simprocAttr, *]
def zbvj := And.intro @kk <| And.intro @ke <| And.intro @kn <| And.intro @zbmz <| And.intro @zbmr <| And.intro @zbmx <| @zbm1
theorem zbvk : ∀ (q N : Nat), 8 * q ≤ N → ∀ (a0 : zjm) (a1 : zjq), ∀ (r : zjm × Int), zl8 q a0 a1 = some r → (orc T N).deep F.zl8 [zjm.enc a0, zjq.enc a1] = some [zjm.enc r.1, (V.int .i64) r.2] := by
 intro q N hM a0 a1 r h
 rcases q with _ | q
 ·cases h
 obtain ⟨M, rfl⟩ : ∃ M, N = M + 8 := ⟨N - 8, by omega⟩
 generalize hR : some [zjm.enc r.1, (V.int .i64) r.2] = R
 rw [zhu, zbhb, y6, zhs zbd8 rfl]
 rw [zl8] at h
 replace h := br h; rcases h with ⟨h1, h⟩ | ⟨h1, h⟩
 ·cases h; subst hR; simp only [zbvj, simprocAttr, *]
 ·replace h := br h; rcases h with ⟨h2, h⟩ | ⟨h2, h⟩
  ·cases h; subst hR; simp only [zbvj, simprocAttr, *]
  ·replace h := br h; rcases h with ⟨h3, h⟩ | ⟨h3, h⟩
   ·cases h; subst hR; simp only [zbvj, simprocAttr, *]
   ·replace h := ob h; obtain ⟨r1, h4, h⟩ := h
    replace h4 := zbu6 q (M + 7) (by omega) _ _ _ h4
    try simp only [kf, simprocAttr] at h4
    replace h := ob h; obtain ⟨r2, h5, h⟩ := h
    replace h5 := zbu6 q (M + 7) (by omega) _ _ _ h5
    try simp only [kf, simprocAttr] at h5
    replace h := br h; rcases h with ⟨h6, h⟩ | ⟨h6, h⟩
    ·cases h; subst hR; simp only [zbvj, simprocAttr, *]
    ·replace h := bn h; obtain ⟨h7, h⟩ := h
     replace h := ob h; obtain ⟨e3, h8, h⟩ := h
     replace h := br h; rcases h with ⟨h9, h⟩ | ⟨h9, h⟩
     ·cases h; subst hR; simp only [zbvj, simprocAttr, *]
     ·replace h := br h; rcases h with ⟨h10, h⟩ | ⟨h10, h⟩
      ·cases h; subst hR; simp only [zbvj, simprocAttr, *]
      ·replace h := br h; rcases h with ⟨h11, h⟩ | ⟨h11, h⟩
       ·replace h := bn h; obtain ⟨h12, h⟩ := h
        replace h := ob h; obtain ⟨e4, h13, h⟩ := h
        replace h := br h; rcases h with ⟨h14, h⟩ | ⟨h14, h⟩
        ·replace h := br h; rcases h with ⟨h15, h⟩ | ⟨h15, h⟩
         ·cases h; subst hR; simp only [zbvj, simprocAttr, *]
         ·replace h := br h; rcases h with ⟨h16, h⟩ | ⟨h16, h⟩
          ·cases h; subst hR; simp only [zbvj, simprocAttr, *]
          ·replace h := ob h; obtain ⟨r5, h17, h⟩ := h
           replace h17 := zbvg q (M + 7) (by omega) _ _ _ _ h17
           try simp only [kf, simprocAttr] at h17
           replace h := ob h; obtain ⟨r6, h18, h⟩ := h
           replace h18 := zbvg q (M + 7) (by omega) _ _ _ _ h18
           try simp only [kf, simprocAttr] at h18
           cases h; subst hR; simp only [zbvj, simprocAttr, *]
        ·replace h := br h; rcases h with ⟨h19, h⟩ | ⟨h19, h⟩
         ·cases h; subst hR; simp only [zbvj, simprocAttr, *]
         ·replace h := ob h; obtain ⟨r7, h20, h⟩ := h
          replace h20 := zbvg q (M + 7) (by omega) _ _ _ _ h20
          try simp only [kf, simprocAttr] at h20
          replace h := ob h; obtain ⟨r8, h21, h⟩ := h
          replace h21 := zbvg q (M + 7) (by omega) _ _ _ _ h21
          try simp only [kf, simprocAttr] at h21
          cases h; subst hR; simp only [zbvj, simprocAttr, *]
       ·replace h := br h; rcases h with ⟨h22, h⟩ | ⟨h22, h⟩
        ·replace h := br h; rcases h with ⟨h23, h⟩ | ⟨h23, h⟩
         ·cases h; subst hR; simp only [zbvj, simprocAttr, *]
         ·replace h := br h; rcases h with ⟨h24, h⟩ | ⟨h24, h⟩
          ·cases h; subst hR; simp only [zbvj, simprocAttr, *]
          ·replace h := ob h; obtain ⟨r9, h25, h⟩ := h
           replace h25 := zbvg q (M + 7) (by omega) _ _ _ _ h25
           try simp only [kf, simprocAttr] at h25
           replace h := ob h; obtain ⟨r10, h26, h⟩ := h
           replace h26 := zbvg q (M + 7) (by omega) _ _ _ _ h26
           try simp only [kf, simprocAttr] at h26
           cases h; subst hR; simp only [zbvj, simprocAttr, *]
        ·replace h := br h; rcases h with ⟨h27, h⟩ | ⟨h27, h⟩
         ·cases h; subst hR; simp only [zbvj, simprocAttr, *]
         ·replace h := ob h; obtain ⟨r11, h28, h⟩ := h
          replace h28 := zbvg q (M + 7) (by omega) _ _ _ _ h28
          try simp only [kf, simprocAttr] at h28
          replace h := ob h; obtain ⟨r12, h29, h⟩ := h
          replace h29 := zbvg q (M + 7) (by omega) _ _ _ _ h29
          try simp only [kf, simprocAttr] at h29
          cases h; subst hR; simp only [zbvj, simprocAttr, *]
def zbvl := And.intro @kk <| And.intro @ke <| And.intro @kn <| And.intro @zbln <| And.intro @zbl3 <| And.intro @zbmr <| And.intro @zbmx <| And.intro @zbm0 <| @zblp
theorem zbvm : ∀ (q N : Nat), 8 * q ≤ N → ∀ (a0 : zjm) (a1 : zjq), ∀ (r : zjm × Int), zl9 q a0 a1 = some r → (orc T N).deep F.zl9 [zjm.enc a0, zjq.enc a1] = some [zjm.enc r.1, (V.int .i64) r.2] := by
 intro q N hM a0 a1 r h
 rcases q with _ | q
 ·cases h
 obtain ⟨M, rfl⟩ : ∃ M, N = M + 8 := ⟨N - 8, by omega⟩
 generalize hR : some [zjm.enc r.1, (V.int .i64) r.2] = R
 rw [zhu, zbgv, y6, zhs z41 rfl]
 rw [zl9] at h
 replace h := br h; rcases h with ⟨h1, h⟩ | ⟨h1, h⟩
 ·replace h := ob h; obtain ⟨r1, h2, h⟩ := h
  replace h2 := zbvk q (M + 7) (by omega) _ _ _ h2
  try simp only [kf, simprocAttr] at h2
  cases h; subst hR; simp only [zbvl, simprocAttr, *]
 ·replace h := br h; rcases h with ⟨h3, h⟩ | ⟨h3, h⟩
  ·replace h := br h; rcases h with ⟨h4, h⟩ | ⟨h4, h⟩
   ·cases h; subst hR; simp only [zbvl, simprocAttr, *]
   ·replace h := br h; rcases h with ⟨h5, h⟩ | ⟨h5, h⟩
    ·cases h; subst hR; simp only [zbvl, simprocAttr, *]
    ·replace h := ob h; obtain ⟨r2, h6, h⟩ := h
     replace h6 := zbu6 q (M + 7) (by omega) _ _ _ h6
     try simp only [kf, simprocAttr] at h6
     replace h := br h; rcases h with ⟨h7, h⟩ | ⟨h7, h⟩
     ·replace h := bn h; obtain ⟨h8, h⟩ := h
      replace h := ob h; obtain ⟨e3, h9, h⟩ := h
      cases h; subst hR; simp only [zbvl, simprocAttr, *]
     ·cases h; subst hR; simp only [zbvl, simprocAttr, *]
  ·replace h := br h; rcases h with ⟨h10, h⟩ | ⟨h10, h⟩
   ·replace h := br h; rcases h with ⟨h11, h⟩ | ⟨h11, h⟩
    ·cases h; subst hR; simp only [zbvl, simprocAttr, *]
    ·replace h := br h; rcases h with ⟨h12, h⟩ | ⟨h12, h⟩
     ·cases h; subst hR; simp only [zbvl, simprocAttr, *]
     ·replace h := ob h; obtain ⟨r4, h13, h⟩ := h
      replace h13 := zbu6 q (M + 7) (by omega) _ _ _ h13
      try simp only [kf, simprocAttr] at h13
      replace h := br h; rcases h with ⟨h14, h⟩ | ⟨h14, h⟩
      ·replace h := bn h; obtain ⟨h15, h⟩ := h
       replace h := ob h; obtain ⟨e5, h16, h⟩ := h
       replace h := br h; rcases h with ⟨h17, h⟩ | ⟨h17, h⟩
       ·cases h; subst hR; simp only [zbvl, simprocAttr, *]
       ·replace h := br h; rcases h with ⟨h18, h⟩ | ⟨h18, h⟩
        ·replace h := br h; rcases h with ⟨h19, h⟩ | ⟨h19, h⟩
         ·cases h; subst hR; simp only [zbvl, simprocAttr, *]
         ·replace h := br h; rcases h with ⟨h20, h⟩ | ⟨h20, h⟩
          ·replace h := ob h; obtain ⟨r6, h21, h⟩ := h
           replace h21 := zbq8 q (M + 7) (by omega) _ _ h21
           replace h := ob h; obtain ⟨r7, h22, h⟩ := h
           replace h22 := zbq8 q (M + 7) (by omega) _ _ h22
           replace h := ob h; obtain ⟨r8, h23, h⟩ := h
           replace h23 := zbvg q (M + 7) (by omega) _ _ _ _ h23
           try simp only [kf, simprocAttr] at h23
           cases h; subst hR; simp only [zbvl, simprocAttr, *]
          ·replace h := ob h; obtain ⟨r9, h24, h⟩ := h
           replace h24 := zbq8 q (M + 7) (by omega) _ _ h24
           replace h := ob h; obtain ⟨r10, h25, h⟩ := h
           replace h25 := zbq8 q (M + 7) (by omega) _ _ h25
           replace h := ob h; obtain ⟨r11, h26, h⟩ := h
           replace h26 := zbvg q (M + 7) (by omega) _ _ _ _ h26
           try simp only [kf, simprocAttr] at h26
           cases h; subst hR; simp only [zbvl, simprocAttr, *]
        ·replace h := br h; rcases h with ⟨h27, h⟩ | ⟨h27, h⟩
         ·replace h := ob h; obtain ⟨r12, h28, h⟩ := h
          replace h28 := zbq8 q (M + 7) (by omega) _ _ h28
          replace h := ob h; obtain ⟨r13, h29, h⟩ := h
          replace h29 := zbq8 q (M + 7) (by omega) _ _ h29
          replace h := ob h; obtain ⟨r14, h30, h⟩ := h
          replace h30 := zbvg q (M + 7) (by omega) _ _ _ _ h30
          try simp only [kf, simprocAttr] at h30
          cases h; subst hR; simp only [zbvl, simprocAttr, *]
         ·replace h := ob h; obtain ⟨r15, h31, h⟩ := h
          replace h31 := zbq8 q (M + 7) (by omega) _ _ h31
          replace h := ob h; obtain ⟨r16, h32, h⟩ := h
          replace h32 := zbq8 q (M + 7) (by omega) _ _ h32
          replace h := ob h; obtain ⟨r17, h33, h⟩ := h
          replace h33 := zbvg q (M + 7) (by omega) _ _ _ _ h33
          try simp only [kf, simprocAttr] at h33
          cases h; subst hR; simp only [zbvl, simprocAttr, *]
      ·replace h := br h; rcases h with ⟨h34, h⟩ | ⟨h34, h⟩
       ·cases h; subst hR; simp only [zbvl, simprocAttr, *]
       ·replace h := br h; rcases h with ⟨h35, h⟩ | ⟨h35, h⟩
        ·replace h := br h; rcases h with ⟨h36, h⟩ | ⟨h36, h⟩
         ·cases h; subst hR; simp only [zbvl, simprocAttr, *]
         ·replace h := ob h; obtain ⟨r18, h37, h⟩ := h
          replace h37 := zbq8 q (M + 7) (by omega) _ _ h37
          replace h := ob h; obtain ⟨r19, h38, h⟩ := h
          replace h38 := zbq8 q (M + 7) (by omega) _ _ h38
          replace h := ob h; obtain ⟨r20, h39, h⟩ := h
          replace h39 := zbvg q (M + 7) (by omega) _ _ _ _ h39
          try simp only [kf, simprocAttr] at h39
          cases h; subst hR; simp only [zbvl, simprocAttr, *]
        ·replace h := ob h; obtain ⟨r21, h40, h⟩ := h
         replace h40 := zbq8 q (M + 7) (by omega) _ _ h40
         replace h := ob h; obtain ⟨r22, h41, h⟩ := h
         replace h41 := zbq8 q (M + 7) (by omega) _ _ h41
         replace h := ob h; obtain ⟨r23, h42, h⟩ := h
         replace h42 := zbvg q (M + 7) (by omega) _ _ _ _ h42
         try simp only [kf, simprocAttr] at h42
         cases h; subst hR; simp only [zbvl, simprocAttr, *]
   ·cases h; subst hR; simp only [zbvl, simprocAttr, *]
def zbvn := And.intro @kk <| And.intro @ke <| And.intro @kn <| And.intro @zbi0 <| And.intro @zbj3 <| And.intro @zblf <| And.intro @zbli <| And.intro @zbll <| And.intro @zblo <| @zbi2
theorem zbvo : ∀ (q N : Nat), 8 * q ≤ N → ∀ (a0 : zjm) (a1 : zjq), ∀ (r : zjm × Int), zma q a0 a1 = some r → (orc T N).deep F.zma [zjm.enc a0, zjq.enc a1] = some [zjm.enc r.1, (V.int .i64) r.2] := by
 intro q N hM a0 a1 r h
 rcases q with _ | q
 ·cases h
 obtain ⟨M, rfl⟩ : ∃ M, N = M + 8 := ⟨N - 8, by omega⟩
 generalize hR : some [zjm.enc r.1, (V.int .i64) r.2] = R
 rw [zhu, zbfz, y6, zhs zss rfl]
 rw [zma] at h
 replace h := ob h; obtain ⟨r1, h1, h⟩ := h
 replace h1 := zbrd q (M + 7) (by omega) _ _ h1
 try simp only [kf, simprocAttr] at h1
 replace h := bb h; rcases h with ⟨h2', h2, h⟩ | ⟨h2', h2, h⟩
 ·replace h := bb h; rcases h with ⟨h3', h3, h⟩ | ⟨h3', h3, h⟩
  ·cases h; subst hR; simp only [zbvn, simprocAttr, *]
  ·replace h := br h; rcases h with ⟨h4, h⟩ | ⟨h4, h⟩
   ·replace h := br h; rcases h with ⟨h5, h⟩ | ⟨h5, h⟩
    ·replace h := br h; rcases h with ⟨h6, h⟩ | ⟨h6, h⟩
     ·cases h; subst hR; simp only [zbvn, simprocAttr, *]
     ·cases h; subst hR; simp only [zbvn, simprocAttr, *]
    ·cases h; subst hR; simp only [zbvn, simprocAttr, *]
   ·replace h := br h; rcases h with ⟨h7, h⟩ | ⟨h7, h⟩
    ·replace h := ob h; obtain ⟨r2, h8, h⟩ := h
     replace h8 := zbuz q (M + 7) (by omega) _ _ _ h8
     try simp only [kf, simprocAttr] at h8
     cases h; subst hR; simp only [zbvn, simprocAttr, *]
    ·replace h := br h; rcases h with ⟨h9, h⟩ | ⟨h9, h⟩
     ·replace h := ob h; obtain ⟨r3, h10, h⟩ := h
      replace h10 := zbuz q (M + 7) (by omega) _ _ _ h10
      try simp only [kf, simprocAttr] at h10
      cases h; subst hR; simp only [zbvn, simprocAttr, *]
     ·replace h := br h; rcases h with ⟨h11, h⟩ | ⟨h11, h⟩
      ·replace h := ob h; obtain ⟨r4, h12, h⟩ := h
       replace h12 := zbu1 q (M + 7) (by omega) _ _ _ h12
       try simp only [kf, simprocAttr] at h12
       cases h; subst hR; simp only [zbvn, simprocAttr, *]
      ·replace h := br h; rcases h with ⟨h13, h⟩ | ⟨h13, h⟩
       ·replace h := ob h; obtain ⟨r5, h14, h⟩ := h
        replace h14 := zbu1 q (M + 7) (by omega) _ _ _ h14
        try simp only [kf, simprocAttr] at h14
        cases h; subst hR; simp only [zbvn, simprocAttr, *]
       ·replace h := br h; rcases h with ⟨h15, h⟩ | ⟨h15, h⟩
        ·replace h := ob h; obtain ⟨r6, h16, h⟩ := h
         replace h16 := zbvi q (M + 7) (by omega) _ _ _ h16
         try simp only [kf, simprocAttr] at h16
         cases h; subst hR; simp only [zbvn, simprocAttr, *]
        ·replace h := br h; rcases h with ⟨h17, h⟩ | ⟨h17, h⟩
         ·replace h := ob h; obtain ⟨r7, h18, h⟩ := h
          replace h18 := zbvm q (M + 7) (by omega) _ _ _ h18
          try simp only [kf, simprocAttr] at h18
          cases h; subst hR; simp only [zbvn, simprocAttr, *]
         ·cases h; subst hR; simp only [zbvn, simprocAttr, *]
 ·cases h; subst hR; simp only [zbvn, simprocAttr, *]
def zbvp (q : Nat) : Prop := ∀ (M : Nat) (hM : 8 * q ≤ M) (j : Nat) (hj : q ≤ j) (v0z : Bool) (v0l : List zjn) (v6 : Bool) (v7 h0_0 h0_1 h0_2 h0_3 h0_4 h0_5 h0_6 : Int) (h1z : Bool) (h1l : List zjn) (r : (Ow zjn)) (_ : zmb q v0z v0l v6 v7 h0_0 h0_1 h0_2 h0_3 h0_4 h0_5 h0_6 h1z h1l = some r) (R : Option (List V)) (_ : some [(Ow.enc 3 zjn.enc) r] = R) (fr : Fr) (H : Hp) (_ : canon 0 [0, 3, 5, 6, 7] fr H = ([(0, (.sl v0z (List.map zjn.enc v0l))), (3, (.ptr 0 0)), (5, (.vw 1 0 0 h1l.length 1)), (6, (.bool v6)), (7, (.int .i64 v7))], [(.box [(.int .i64 h0_0), (.int .i64 h0_1), (.int .i64 h0_2), (.int .i64 h0_3), (.int .i64 h0_4), (.int .i64 h0_5), (.int .i64 h0_6)]), (.row 0 h1z 3 (List.map zjn.enc h1l) true)])), fin zpa (unw T (orc T (M + 7)) (M + 7) 0 [.blk 0, .code zo5] (iter 0 [0, 3, 5, 6, 7] (exec T (orc T (M + 7)) (M + 7) 0 zoy) j fr H)) = R
def zbvq := And.intro @kk <| And.intro @ke <| And.intro @kn <| And.intro @zbh3 <| @zbh5
theorem zbvr (q : Nat) (zbwj : zbvp q) : zbvp (q + 1) := by
 intro M hM j hj v0z v0l v6 v7 h0_0 h0_1 h0_2 h0_3 h0_4 h0_5 h0_6 h1z h1l r h R hR fr H hc
 obtain ⟨j, rfl⟩ : ∃ i, j = i + 1 := ⟨j - 1, by omega⟩
 rw [zhk, hc]; clear hc
 rw [zmb] at h
 replace h := br h; rcases h with ⟨h1, h⟩ | ⟨h1, h⟩
 ·replace h := bb h; rcases h with ⟨h2', h2, h⟩ | ⟨h2', h2, h⟩
  ·replace h := bn h; obtain ⟨h3, h⟩ := h
   replace h := ob h; obtain ⟨e1, h4, h⟩ := h
   replace h := br h; rcases h with ⟨h5, h⟩ | ⟨h5, h⟩
   ·replace h := zbwj M (by omega) j (by omega) _ _ _ _ _ _ _ _ _ _ _ _ _ _ h R hR
    simp only [zbvq, simprocAttr, *]
   ·replace h := bn h; obtain ⟨h6, h⟩ := h
    replace h := zbwj M (by omega) j (by omega) _ _ _ _ _ _ _ _ _ _ _ _ _ _ h R hR
    simp only [zbvq, simprocAttr, *]
  ·replace h := bn h; obtain ⟨h7, h⟩ := h
   replace h := ob h; obtain ⟨e2, h8, h⟩ := h
   replace h := br h; rcases h with ⟨h9, h⟩ | ⟨h9, h⟩
   ·replace h := bn h; obtain ⟨h10, h⟩ := h
    replace h := br h; rcases h with ⟨h11, h⟩ | ⟨h11, h⟩
    ·replace h := zbwj M (by omega) j (by omega) _ _ _ _ _ _ _ _ _ _ _ _ _ _ h R hR
     simp only [zbvq, simprocAttr, *]
    ·replace h := bn h; obtain ⟨h12, h⟩ := h
     replace h := zbwj M (by omega) j (by omega) _ _ _ _ _ _ _ _ _ _ _ _ _ _ h R hR
     simp only [zbvq, simprocAttr, *]
   ·replace h := br h; rcases h with ⟨h13, h⟩ | ⟨h13, h⟩
    ·replace h := zbwj M (by omega) j (by omega) _ _ _ _ _ _ _ _ _ _ _ _ _ _ h R hR
     simp only [zbvq, simprocAttr, *]
    ·replace h := bn h; obtain ⟨h14, h⟩ := h
     replace h := zbwj M (by omega) j (by omega) _ _ _ _ _ _ _ _ _ _ _ _ _ _ h R hR
     simp only [zbvq, simprocAttr, *]
 ·replace h := bb h; rcases h with ⟨h15', h15, h⟩ | ⟨h15', h15, h⟩
  ·cases h; subst hR; simp only [zbvq, simprocAttr, *]
  ·replace h := bn h; obtain ⟨h16, h⟩ := h
   cases h; subst hR; simp only [zbvq, simprocAttr, *]
theorem zbvs : ∀ q, zbvp q
 | 0 => by intro M hM j hj; intros; rename_i h _ _ _ _ _; cases h
 | q + 1 => by have i0 := zbvs q; exact zbvr q i0
theorem zbvt : ∀ (q N : Nat), 8 * q ≤ N → ∀ (a0 : (Sl zjn)) (a1 : zjr), ∀ (r : (Ow zjn)), zmc q a0 a1 = some r → (orc T N).deep F.zmc [(Sl.enc zjn.enc) a0, zjr.enc a1] = some [(Ow.enc 3 zjn.enc) r] := by
 intro q N hM a0 a1 r h
 rcases q with _ | q
 ·cases h
 obtain ⟨M, rfl⟩ : ∃ M, N = M + 8 := ⟨N - 8, by omega⟩
 have zbwj := (zbvs q)
 generalize hR : some [(Ow.enc 3 zjn.enc) r] = R
 rw [zhu, zbfo, y6, zhs zpa rfl]
 rw [zmc] at h
 replace h := zbwj M (by omega) (M + 7) (by omega) _ _ _ _ _ _ _ _ _ _ _ _ _ _ h R hR
 simp only [zbvq, simprocAttr, *]
def zbvu (q : Nat) : Prop := ∀ (M : Nat) (hM : 8 * q ≤ M) (j : Nat) (hj : q ≤ j) (v1z : Bool) (v1l : List zjr) (h0_0 h0_1 : Int) (h0_2z : Bool) (h0_2l : List Int) (h0_3 : Bool) (h0_4 : Int) (h0_5z : Bool) (h0_5l : List zjn) (r : zjo × Int) (_ : zme q v1z v1l h0_0 h0_1 h0_2z h0_2l h0_3 h0_4 h0_5z h0_5l = some r) (R : Option (List V)) (_ : some [zjo.enc r.1, (V.int .i64) r.2] = R) (fr : Fr) (H : Hp) (_ : canon 0 [1, 2, 4, 6] fr H = ([(1, (.sl v1z (List.map zjr.enc v1l))), (2, (.ptr 0 0)), (4, (.ptr 1 0)), (6, (.int .i64 0))], [(.box [(.int .i64 h0_0), (.int .i64 h0_1), (.sl h0_2z (List.map (V.int .i64) h0_2l)), (.bool h0_3), (.int .i64 h0_4), (.sl h0_5z (List.map zjn.enc h0_5l))]), (.box [(.int .i64 0), (.int .i64 0), (.sl true []), (.bool false), (.int .i64 0), (.sl true [])])])), fin zn6 (unw T (orc T (M + 7)) (M + 7) 0 [.blk 0, .code zn3] (iter 0 [1, 2, 4, 6] (exec T (orc T (M + 7)) (M + 7) 0 zn0) j fr H)) = R
def zbvv (q : Nat) : Prop := ∀ (M : Nat) (hM : 8 * q ≤ M) (j : Nat) (hj : q ≤ j) (v1z : Bool) (v1l : List zjr) (v6 h0_0 h0_1 : Int) (h0_2z : Bool) (h0_2l : List Int) (h0_3 : Bool) (h0_4 : Int) (h2z : Bool) (h2l : List zjn) (h2x : Bool) (r : zjo × Int) (_ : zmd q v1z v1l v6 h0_0 h0_1 h0_2z h0_2l h0_3 h0_4 h2z h2l h2x = some r) (R : Option (List V)) (_ : some [zjo.enc r.1, (V.int .i64) r.2] = R) (fr : Fr) (H : Hp) (_ : canon 0 [1, 2, 4, 6] fr H = ([(1, (.sl v1z (List.map zjr.enc v1l))), (2, (.ptr 0 0)), (4, (.ptr 1 0)), (6, (.int .i64 v6))], [(.box [(.int .i64 h0_0), (.int .i64 h0_1), (.sl h0_2z (List.map (V.int .i64) h0_2l)), (.bool h0_3), (.int .i64 h0_4), (.vw 2 0 0 h2l.length 1)]), (.box [(.int .i64 0), (.int .i64 0), (.sl true []), (.bool false), (.int .i64 0), (.sl true [])]), (.row 0 h2z 3 (List.map zjn.enc h2l) h2x)])), fin zn6 (unw T (orc T (M + 7)) (M + 7) 0 [.blk 0, .code zn3] (iter 0 [1, 2, 4, 6] (exec T (orc T (M + 7)) (M + 7) 0 zn0) j fr H)) = R
def zbvw := And.intro @kk <| And.intro @ke <| And.intro @kn <| And.intro @zbhu <| And.intro @zbh4 <| And.intro @zbiy <| And.intro @zbi1 <| @zbhw
theorem zbvx (q : Nat) (zbwk : zbvv q) : zbvu (q + 1) := by
 intro M hM j hj v1z v1l h0_0 h0_1 h0_2z h0_2l h0_3 h0_4 h0_5z h0_5l r h R hR fr H hc
 obtain ⟨j, rfl⟩ : ∃ i, j = i + 1 := ⟨j - 1, by omega⟩
 rw [zhk, hc]; clear hc
 rw [zme] at h
 replace h := br h; rcases h with ⟨h1, h⟩ | ⟨h1, h⟩
 ·replace h := ob h; obtain ⟨e1, h2, h⟩ := h
  replace h := br h; rcases h with ⟨h3, h⟩ | ⟨h3, h⟩
  ·replace h := ob h; obtain ⟨r2, h4, h⟩ := h
   replace h4 := zbux q (M + 7) (by omega) _ _ h4
   try simp only [kf, simprocAttr] at h4
   replace h := bb h; rcases h with ⟨h5', h5, h⟩ | ⟨h5', h5, h⟩
   ·replace h := ob h; obtain ⟨r3, h6, h⟩ := h
    replace h6 := zbvo q (M + 7) (by omega) _ _ _ h6
    try simp only [kf, simprocAttr] at h6
    replace h := ob h; obtain ⟨r4, h7, h⟩ := h
    replace h7 := zbvt q (M + 7) (by omega) _ _ _ h7
    try simp only [kf, simprocAttr] at h7
    replace h := zbwk M (by omega) j (by omega) _ _ _ _ _ _ _ _ _ _ _ _ _ h R hR
    simp only [zbvw, simprocAttr, *]
   ·cases h; subst hR; simp only [zbvw, simprocAttr, *]
  ·cases h; subst hR; simp only [zbvw, simprocAttr, *]
 ·cases h; subst hR; simp only [zbvw, simprocAttr, *]
theorem zbvy (q : Nat) (zbwk : zbvv q) : zbvv (q + 1) := by
 intro M hM j hj v1z v1l v6 h0_0 h0_1 h0_2z h0_2l h0_3 h0_4 h2z h2l h2x r h R hR fr H hc
 obtain ⟨j, rfl⟩ : ∃ i, j = i + 1 := ⟨j - 1, by omega⟩
 rw [zhk, hc]; clear hc
 rw [zmd] at h
 replace h := br h; rcases h with ⟨h1, h⟩ | ⟨h1, h⟩
 ·replace h := bn h; obtain ⟨h2, h⟩ := h
  replace h := ob h; obtain ⟨e5, h3, h⟩ := h
  replace h := br h; rcases h with ⟨h4, h⟩ | ⟨h4, h⟩
  ·replace h := ob h; obtain ⟨r6, h5, h⟩ := h
   replace h5 := zbux q (M + 7) (by omega) _ _ h5
   try simp only [kf, simprocAttr] at h5
   replace h := bb h; rcases h with ⟨h6', h6, h⟩ | ⟨h6', h6, h⟩
   ·replace h := ob h; obtain ⟨r7, h7, h⟩ := h
    replace h7 := zbvo q (M + 7) (by omega) _ _ _ h7
    try simp only [kf, simprocAttr] at h7
    replace h := ob h; obtain ⟨r8, h8, h⟩ := h
    replace h8 := zbvt q (M + 7) (by omega) _ _ _ h8
    try simp only [kf, simprocAttr] at h8
    replace h := zbwk M (by omega) j (by omega) _ _ _ _ _ _ _ _ _ _ _ _ _ h R hR
    simp only [zbvw, simprocAttr, *]
   ·cases h; subst hR; simp only [zbvw, simprocAttr, *]
  ·cases h; subst hR; simp only [zbvw, simprocAttr, *]
 ·cases h; subst hR; simp only [zbvw, simprocAttr, *]
theorem zbvz : ∀ q, zbvu q ∧ zbvv q
 | 0 => by refine ⟨?_, ?_⟩ <;> (intro M hM j hj; intros; rename_i h _ _ _ _ _; cases h)
 | q + 1 => by have ⟨i0, i1⟩ := zbvz q; exact ⟨zbvx q i1, zbvy q i1⟩
theorem zbv0 : ∀ (q N : Nat), 8 * q ≤ N → ∀ (a0 : zjo) (a1 : (Sl zjr)), ∀ (r : zjo × Int), zmf q a0 a1 = some r → (orc T N).deep F.zmf [zjo.enc a0, (Sl.enc zjr.enc) a1] = some [zjo.enc r.1, (V.int .i64) r.2] := by
 intro q N hM a0 a1 r h
 rcases q with _ | q
 ·cases h
 obtain ⟨M, rfl⟩ : ∃ M, N = M + 8 := ⟨N - 8, by omega⟩
 have ih_ferrymanref09_Take_l0 := (zbvz q).1
 generalize hR : some [zjo.enc r.1, (V.int .i64) r.2] = R
 rw [zhu, zbfl, y6, zhs zn6 rfl]
 rw [zmf] at h
 replace h := ih_ferrymanref09_Take_l0 M (by omega) (M + 7) (by omega) _ _ _ _ _ _ _ _ _ _ _ h R hR
 simp only [zbvw, simprocAttr, *]
def zbv1 (q : Nat) : Prop := ∀ (M : Nat) (hM : 8 * q ≤ M) (j : Nat) (hj : q ≤ j) (v5 h0_0 : Int) (h0_1z : Bool) (h0_1l : List Int) (h0_2 : Bool) (h0_3 h1_0 : Int) (h1_1z : Bool) (h1_1l : List Int) (h1_2 : Bool) (h1_3 : Int) (r : Bool) (_ : zmg q v5 h0_0 h0_1z h0_1l h0_2 h0_3 h1_0 h1_1z h1_1l h1_2 h1_3 = some r) (R : Option (List V)) (_ : some [V.bool r] = R) (fr : Fr) (H : Hp) (_ : canon 0 [2, 3, 5] fr H = ([(2, (.ptr 0 0)), (3, (.ptr 1 0)), (5, (.int .i64 v5))], [(.box [(.int .i64 h0_0), (.sl h0_1z (List.map (V.int .i64) h0_1l)), (.bool h0_2), (.int .i64 h0_3)]), (.box [(.int .i64 h1_0), (.sl h1_1z (List.map (V.int .i64) h1_1l)), (.bool h1_2), (.int .i64 h1_3)])])), fin zs4 (unw T (orc T (M + 7)) (M + 7) 0 [.blk 0, .code zs0] (iter 0 [2, 3, 5] (exec T (orc T (M + 7)) (M + 7) 0 zsx) j fr H)) = R
def zbv2 := And.intro @kk <| And.intro @ke <| And.intro @kn <| And.intro @zbi3 <| @zbi5
theorem zbv3 (q : Nat) (zbwl : zbv1 q) : zbv1 (q + 1) := by
 intro M hM j hj v5 h0_0 h0_1z h0_1l h0_2 h0_3 h1_0 h1_1z h1_1l h1_2 h1_3 r h R hR fr H hc
 obtain ⟨j, rfl⟩ : ∃ i, j = i + 1 := ⟨j - 1, by omega⟩
 rw [zhk, hc]; clear hc
 rw [zmg] at h
 replace h := br h; rcases h with ⟨h1, h⟩ | ⟨h1, h⟩
 ·replace h := bn h; obtain ⟨h2, h⟩ := h
  replace h := ob h; obtain ⟨e1, h3, h⟩ := h
  replace h := ob h; obtain ⟨e2, h4, h⟩ := h
  replace h := br h; rcases h with ⟨h5, h⟩ | ⟨h5, h⟩
  ·replace h := zbwl M (by omega) j (by omega) _ _ _ _ _ _ _ _ _ _ _ _ h R hR
   simp only [zbv2, simprocAttr, *]
  ·cases h; subst hR; simp only [zbv2, simprocAttr, *]
 ·cases h; subst hR; simp only [zbv2, simprocAttr, *]
theorem zbv4 : ∀ q, zbv1 q
 | 0 => by intro M hM j hj; intros; rename_i h _ _ _ _ _; cases h
 | q + 1 => by have i0 := zbv4 q; exact zbv3 q i0
theorem zbv5 : ∀ (q N : Nat), 8 * q ≤ N → ∀ (a0 a1 : zjm), ∀ (r : Bool), zmh q a0 a1 = some r → (orc T N).deep F.zmh [zjm.enc a0, zjm.enc a1] = some [V.bool r] := by
 intro q N hM a0 a1 r h
 rcases q with _ | q
 ·cases h
 obtain ⟨M, rfl⟩ : ∃ M, N = M + 8 := ⟨N - 8, by omega⟩
 have zbwl := (zbv4 q)
 generalize hR : some [V.bool r] = R
 rw [zhu, zbf0, y6, zhs zs4 rfl]
 rw [zmh] at h
 replace h := br h; rcases h with ⟨h1, h⟩ | ⟨h1, h⟩
 ·replace h := bb h; rcases h with ⟨h2', h2, h⟩ | ⟨h2', h2, h⟩
  ·replace h := br h; rcases h with ⟨h3, h⟩ | ⟨h3, h⟩
   ·replace h := br h; rcases h with ⟨h4, h⟩ | ⟨h4, h⟩
    ·replace h := zbwl M (by omega) (M + 7) (by omega) _ _ _ _ _ _ _ _ _ _ _ _ h R hR
     simp only [zbv2, simprocAttr, *]
    ·cases h; subst hR; simp only [zbv2, simprocAttr, *]
   ·cases h; subst hR; simp only [zbv2, simprocAttr, *]
  ·cases h; subst hR; simp only [zbv2, simprocAttr, *]
 ·cases h; subst hR; simp only [zbv2, simprocAttr, *]
def zbv6 (q : Nat) : Prop := ∀ (M : Nat) (hM : 8 * q ≤ M) (j : Nat) (hj : q ≤ j) (v6 h0_0 h0_1 : Int) (h0_2z : Bool) (h0_2l : List Int) (h0_3 : Bool) (h0_4 : Int) (h0_5z : Bool) (h0_5l : List zjn) (h1_0 h1_1 : Int) (h1_2z : Bool) (h1_2l : List Int) (h1_3 : Bool) (h1_4 : Int) (h1_5z : Bool) (h1_5l : List zjn) (r : Bool) (_ : zmi q v6 h0_0 h0_1 h0_2z h0_2l h0_3 h0_4 h0_5z h0_5l h1_0 h1_1 h1_2z h1_2l h1_3 h1_4 h1_5z h1_5l = some r) (R : Option (List V)) (_ : some [V.bool r] = R) (fr : Fr) (H : Hp) (_ : canon 0 [2, 3, 6] fr H = ([(2, (.ptr 0 0)), (3, (.ptr 1 0)), (6, (.int .i64 v6))], [(.box [(.int .i64 h0_0), (.int .i64 h0_1), (.sl h0_2z (List.map (V.int .i64) h0_2l)), (.bool h0_3), (.int .i64 h0_4), (.sl h0_5z (List.map zjn.enc h0_5l))]), (.box [(.int .i64 h1_0), (.int .i64 h1_1), (.sl h1_2z (List.map (V.int .i64) h1_2l)), (.bool h1_3), (.int .i64 h1_4), (.sl h1_5z (List.map zjn.enc h1_5l))])])), fin zok (unw T (orc T (M + 7)) (M + 7) 0 [.blk 0, .code zof] (iter 0 [2, 3, 6] (exec T (orc T (M + 7)) (M + 7) 0 zoc) j fr H)) = R
def zbv7 := And.intro @kk <| And.intro @ke <| And.intro @kn <| And.intro @zbhx <| And.intro @zbi4 <| @zbhz
theorem zbv8 (q : Nat) (zbwm : zbv6 q) : zbv6 (q + 1) := by
 intro M hM j hj v6 h0_0 h0_1 h0_2z h0_2l h0_3 h0_4 h0_5z h0_5l h1_0 h1_1 h1_2z h1_2l h1_3 h1_4 h1_5z h1_5l r h R hR fr H hc
 obtain ⟨j, rfl⟩ : ∃ i, j = i + 1 := ⟨j - 1, by omega⟩
 rw [zhk, hc]; clear hc
 rw [zmi] at h
 replace h := br h; rcases h with ⟨h1, h⟩ | ⟨h1, h⟩
 ·replace h := bn h; obtain ⟨h2, h⟩ := h
  replace h := ob h; obtain ⟨e2, h3, h⟩ := h
  replace h := ob h; obtain ⟨e3, h4, h⟩ := h
  replace h := br h; rcases h with ⟨h5, h⟩ | ⟨h5, h⟩
  ·replace h := br h; rcases h with ⟨h6, h⟩ | ⟨h6, h⟩
   ·replace h := br h; rcases h with ⟨h7, h⟩ | ⟨h7, h⟩
    ·replace h := zbwm M (by omega) j (by omega) _ _ _ _ _ _ _ _ _ _ _ _ _ _ _ _ _ _ h R hR
     simp only [zbv7, simprocAttr, *]
    ·cases h; subst hR; simp only [zbv7, simprocAttr, *]
   ·cases h; subst hR; simp only [zbv7, simprocAttr, *]
  ·cases h; subst hR; simp only [zbv7, simprocAttr, *]
 ·cases h; subst hR; simp only [zbv7, simprocAttr, *]
theorem zbv9 : ∀ q, zbv6 q
 | 0 => by intro M hM j hj; intros; rename_i h _ _ _ _ _; cases h
 | q + 1 => by have i0 := zbv9 q; exact zbv8 q i0
theorem zbwa : ∀ (q N : Nat), 8 * q ≤ N → ∀ (a0 a1 : zjo), ∀ (r : Bool), zmj q a0 a1 = some r → (orc T N).deep F.zmj [zjo.enc a0, zjo.enc a1] = some [V.bool r] := by
 intro q N hM a0 a1 r h
 rcases q with _ | q
 ·cases h
 obtain ⟨M, rfl⟩ : ∃ M, N = M + 8 := ⟨N - 8, by omega⟩
 have zbwm := (zbv9 q)
 generalize hR : some [V.bool r] = R
 rw [zhu, zbfm, y6, zhs zok rfl]
 rw [zmj] at h
 replace h := ob h; obtain ⟨r1, h1, h⟩ := h
 replace h1 := zbv5 q (M + 7) (by omega) _ _ _ h1
 try simp only [kf, simprocAttr] at h1
 replace h := bb h; rcases h with ⟨h2', h2, h⟩ | ⟨h2', h2, h⟩
 ·replace h := br h; rcases h with ⟨h3, h⟩ | ⟨h3, h⟩
  ·replace h := br h; rcases h with ⟨h4, h⟩ | ⟨h4, h⟩
   ·replace h := zbwm M (by omega) (M + 7) (by omega) _ _ _ _ _ _ _ _ _ _ _ _ _ _ _ _ _ _ h R hR
    simp only [zbv7, simprocAttr, *]
   ·cases h; subst hR; simp only [zbv7, simprocAttr, *]
  ·cases h; subst hR; simp only [zbv7, simprocAttr, *]
 ·cases h; subst hR; simp only [zbv7, simprocAttr, *]
def zbwb := And.intro @kk <| And.intro @ke <| And.intro @kn <| And.intro @zbhf <| And.intro @zbhj <| And.intro @zbhp <| And.intro @zbhs <| And.intro @zbhv <| And.intro @zbhy <| And.intro @zbh1 <| And.intro @zbh4 <| @zbhh
theorem zbwc : ∀ (q N : Nat), 8 * q ≤ N → ∀ (a0 : zjo) (a1 : (Sl zjr)) (a2 : zjr), ∀ (r : Bool), zmk q a0 a1 a2 = some r → (orc T N).deep F.zmk [zjo.enc a0, (Sl.enc zjr.enc) a1, zjr.enc a2] = some [V.bool r] := by
 intro q N hM a0 a1 a2 r h
 rcases q with _ | q
 ·cases h
 obtain ⟨M, rfl⟩ : ∃ M, N = M + 8 := ⟨N - 8, by omega⟩
 generalize hR : some [V.bool r] = R
 rw [zhu, zbfg, y6, zhs zmt rfl]
 rw [zmk] at h
 replace h := ob h; obtain ⟨r1, h1, h⟩ := h
 replace h1 := zbut q (M + 7) (by omega)  _ h1
 replace h := ob h; obtain ⟨r2, h2, h⟩ := h
 replace h2 := zbq1 q (M + 7) (by omega) _ _ h2
 try simp only [kf, simprocAttr] at h2
 replace h := bb h; rcases h with ⟨h3', h3, h⟩ | ⟨h3', h3, h⟩
 ·replace h := bb h; rcases h with ⟨h4', h4, h⟩ | ⟨h4', h4, h⟩
  ·replace h := br h; rcases h with ⟨h5, h⟩ | ⟨h5, h⟩
   ·cases h; subst hR; simp only [zbwb, simprocAttr, *]
   ·replace h := br h; rcases h with ⟨h6, h⟩ | ⟨h6, h⟩
    ·cases h; subst hR; simp only [zbwb, simprocAttr, *]
    ·replace h := bn h; obtain ⟨h7, h⟩ := h
     replace h := bn h; obtain ⟨h8, h⟩ := h
     replace h := ob h; obtain ⟨r3, h9, h⟩ := h
     replace h9 := zbsc q (M + 7) (by omega) _ _ _ h9
     try simp only [kf, simprocAttr] at h9
     replace h := ob h; obtain ⟨r4, h10, h⟩ := h
     replace h10 := zbv0 q (M + 7) (by omega) _ _ _ h10
     try simp only [kf, simprocAttr] at h10
     replace h := ob h; obtain ⟨r5, h11, h⟩ := h
     replace h11 := zbwa q (M + 7) (by omega) _ _ _ h11
     try simp only [kf, simprocAttr] at h11
     replace h := ob h; obtain ⟨r6, h12, h⟩ := h
     replace h12 := zbqx q (M + 7) (by omega) _ _ _ h12
     try simp only [kf, simprocAttr] at h12
     replace h := ob h; obtain ⟨r7, h13, h⟩ := h
     replace h13 := zbvt q (M + 7) (by omega) _ _ _ h13
     try simp only [kf, simprocAttr] at h13
     replace h := ob h; obtain ⟨r8, h14, h⟩ := h
     replace h14 := zbwa q (M + 7) (by omega) _ _ _ h14
     try simp only [kf, simprocAttr] at h14
     replace h := ob h; obtain ⟨r9, h15, h⟩ := h
     replace h15 := zbwa q (M + 7) (by omega) _ _ _ h15
     try simp only [kf, simprocAttr] at h15
     replace h := bb h; rcases h with ⟨h16', h16, h⟩ | ⟨h16', h16, h⟩
     ·replace h := br h; rcases h with ⟨h17, h⟩ | ⟨h17, h⟩
      ·replace h := bb h; rcases h with ⟨h18', h18, h⟩ | ⟨h18', h18, h⟩
       ·cases h; subst hR; simp only [zbwb, simprocAttr, *]
       ·cases h; subst hR; simp only [zbwb, simprocAttr, *]
      ·cases h; subst hR; simp only [zbwb, simprocAttr, *]
     ·cases h; subst hR; simp only [zbwb, simprocAttr, *]
  ·cases h; subst hR; simp only [zbwb, simprocAttr, *]
 ·cases h; subst hR; simp only [zbwb, simprocAttr, *]
end Go.Dvm.C
