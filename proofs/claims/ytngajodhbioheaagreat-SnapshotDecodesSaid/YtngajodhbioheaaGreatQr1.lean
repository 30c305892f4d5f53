/- The machine comes to these answers: part 2. -/
import Derived.Test.YtngajodhbioheaaGreatQl0
import Derived.Test.YtngajodhbioheaaGreatQr0
set_option linter.all false
set_option maxRecDepth 100000
set_option maxHeartbeats 4000000
namespace Go.Dvm.C
open Go Go.Dvm Go.Dvm.I
def zbw1 (q : Nat) : Prop := ∀ (M : Nat) (hM : 8 * q ≤ M) (j : Nat) (hj : q ≤ j) (v0z : Bool) (v0l : List Int) (v4 v9 v10 : Int) (r : Int × Int) (_ : zlk q v0z v0l v4 v9 v10 = some r) (R : Option (List V)) (_ : some [(V.int .u64) r.1, (V.int .i64) r.2] = R) (fr : Fr) (H : Hp) (_ : canon 0 [0, 4, 9, 10] fr H = ([(0, (.sl v0z (List.map (V.int .u8) v0l))), (4, (.int .u64 v4)), (9, (.int .i64 v9)), (10, (.int .i64 v10))], [])), fin z7d (unw T (orc T (M + 7)) (M + 7) 0 [.blk 0, .code z69] (iter 0 [0, 4, 9, 10] (exec T (orc T (M + 7)) (M + 7) 0 z66) j fr H)) = R
def zbw2 := And.intro @kk <| And.intro @ke <| And.intro @kn <| And.intro @zbmb <| @zbmd
theorem zbw3 (q : Nat) (zb06 : zbw1 q) : zbw1 (q + 1) := by
 intro M hM j hj v0z v0l v4 v9 v10 r h R hR fr H hc
 obtain ⟨j, rfl⟩ : ∃ i, j = i + 1 := ⟨j - 1, by omega⟩
 rw [zhj, hc]; clear hc
 rw [zlk] at h
 replace h := br h; rcases h with ⟨h1, h⟩ | ⟨h1, h⟩
 ·replace h := bn h; obtain ⟨h2, h⟩ := h
  replace h := ob h; obtain ⟨e1, h3, h⟩ := h
  replace h := bm h; obtain ⟨h4, h⟩ := h
  replace h := br h; rcases h with ⟨h5, h⟩ | ⟨h5, h⟩
  ·replace h := br h; rcases h with ⟨h6, h⟩ | ⟨h6, h⟩
   ·cases h; subst hR; simp only [zbw2, simprocAttr, *]
   ·replace h := br h; rcases h with ⟨h7, h⟩ | ⟨h7, h⟩
    ·replace h := br h; rcases h with ⟨h8, h⟩ | ⟨h8, h⟩
     ·cases h; subst hR; simp only [zbw2, simprocAttr, *]
     ·replace h := br h; rcases h with ⟨h9, h⟩ | ⟨h9, h⟩
      ·cases h; subst hR; simp only [zbw2, simprocAttr, *]
      ·replace h := zb06 M (by omega) j (by omega) _ _ _ _ _ _ h R hR
       simp only [zbw2, simprocAttr, *]
    ·replace h := br h; rcases h with ⟨h10, h⟩ | ⟨h10, h⟩
     ·cases h; subst hR; simp only [zbw2, simprocAttr, *]
     ·replace h := zb06 M (by omega) j (by omega) _ _ _ _ _ _ h R hR
      simp only [zbw2, simprocAttr, *]
  ·replace h := br h; rcases h with ⟨h11, h⟩ | ⟨h11, h⟩
   ·replace h := br h; rcases h with ⟨h12, h⟩ | ⟨h12, h⟩
    ·cases h; subst hR; simp only [zbw2, simprocAttr, *]
    ·replace h := br h; rcases h with ⟨h13, h⟩ | ⟨h13, h⟩
     ·cases h; subst hR; simp only [zbw2, simprocAttr, *]
     ·replace h := zb06 M (by omega) j (by omega) _ _ _ _ _ _ h R hR
      simp only [zbw2, simprocAttr, *]
   ·replace h := br h; rcases h with ⟨h14, h⟩ | ⟨h14, h⟩
    ·cases h; subst hR; simp only [zbw2, simprocAttr, *]
    ·replace h := zb06 M (by omega) j (by omega) _ _ _ _ _ _ h R hR
     simp only [zbw2, simprocAttr, *]
 ·cases h; subst hR; simp only [zbw2, simprocAttr, *]
theorem zbw4 : ∀ q, zbw1 q
 | 0 => by intro M hM j hj; intros; rename_i h _ _ _ _ _; cases h
 | q + 1 => by have i0 := zbw4 q; exact zbw3 q i0
theorem zbw5 : ∀ (q N : Nat), 8 * q ≤ N → ∀ (a0 : (Sl Int)), ∀ (r : Int × Int), zll q a0 = some r → (orc T N).deep F.zll [(Sl.enc (V.int .u8)) a0] = some [(V.int .u64) r.1, (V.int .i64) r.2] := by
 intro q N hM a0 r h
 rcases q with _ | q
 ·cases h
 obtain ⟨M, rfl⟩ : ∃ M, N = M + 8 := ⟨N - 8, by omega⟩
 have zb06 := (zbw4 q)
 generalize hR : some [(V.int .u64) r.1, (V.int .i64) r.2] = R
 rw [zhs, zbf5, y5, zhq]
 rw [zll] at h
 replace h := zb06 M (by omega) (M + 7) (by omega) _ _ _ _ _ _ h R hR
 simp only [zbw2, simprocAttr, *]
def zbw6 := And.intro @kk <| And.intro @ke <| And.intro @kn <| And.intro @zbjk <| And.intro @zbmc <| @zbjm
theorem zbw7 : ∀ (q N : Nat), 8 * q ≤ N → ∀ (a0 : (Sl Int)), ∀ (r : Int × Int), zlm q a0 = some r → (orc T N).deep F.zlm [(Sl.enc (V.int .u8)) a0] = some [(V.int .i64) r.1, (V.int .i64) r.2] := by
 intro q N hM a0 r h
 rcases q with _ | q
 ·cases h
 obtain ⟨M, rfl⟩ : ∃ M, N = M + 8 := ⟨N - 8, by omega⟩
 generalize hR : some [(V.int .i64) r.1, (V.int .i64) r.2] = R
 rw [zhs, zbe8, y5, zhq]
 rw [zlm] at h
 replace h := ob h; obtain ⟨r1, h1, h⟩ := h
 replace h1 := zbw5 q (M + 7) (by omega) _ _ h1
 try simp only [kf, simprocAttr] at h1
 replace h := br h; rcases h with ⟨h2, h⟩ | ⟨h2, h⟩
 ·cases h; subst hR; simp only [zbw6, simprocAttr, *]
 ·cases h; subst hR; simp only [zbw6, simprocAttr, *]
def zbw8 (q : Nat) : Prop := ∀ (M : Nat) (hM : 8 * q ≤ M) (j : Nat) (hj : q ≤ j) (v0z : Bool) (v0l : List Int) (v1z : Bool) (v1l : List Int) (v12 v13 : Int) (r : Bool) (_ : zln q v0z v0l v1z v1l v12 v13 = some r) (R : Option (List V)) (_ : some [V.bool r] = R) (fr : Fr) (H : Hp) (_ : canon 0 [0, 1, 12, 13] fr H = ([(0, (.sl v0z (List.map (V.int .u8) v0l))), (1, (.sl v1z (List.map (V.int .u8) v1l))), (12, (.int .i64 v12)), (13, (.int .i64 v13))], [])), fin zbck (unw T (orc T (M + 7)) (M + 7) 0 [.blk 0, .code zbcg] (iter 0 [0, 1, 12, 13] (exec T (orc T (M + 7)) (M + 7) 0 zbcd) j fr H)) = R
def zbw9 := And.intro @kk <| And.intro @ke <| And.intro @kn <| And.intro @zbob <| @zbod
theorem zbxa (q : Nat) (zb07 : zbw8 q) : zbw8 (q + 1) := by
 intro M hM j hj v0z v0l v1z v1l v12 v13 r h R hR fr H hc
 obtain ⟨j, rfl⟩ : ∃ i, j = i + 1 := ⟨j - 1, by omega⟩
 rw [zhj, hc]; clear hc
 rw [zln] at h
 replace h := br h; rcases h with ⟨h1, h⟩ | ⟨h1, h⟩
 ·replace h := bn h; obtain ⟨h2, h⟩ := h
  replace h := ob h; obtain ⟨e1, h3, h⟩ := h
  replace h := ob h; obtain ⟨e2, h4, h⟩ := h
  replace h := br h; rcases h with ⟨h5, h⟩ | ⟨h5, h⟩
  ·replace h := zb07 M (by omega) j (by omega) _ _ _ _ _ _ _ h R hR
   simp only [zbw9, simprocAttr, *]
  ·cases h; subst hR; simp only [zbw9, simprocAttr, *]
 ·cases h; subst hR; simp only [zbw9, simprocAttr, *]
theorem zbxb : ∀ q, zbw8 q
 | 0 => by intro M hM j hj; intros; rename_i h _ _ _ _ _; cases h
 | q + 1 => by have i0 := zbxb q; exact zbxa q i0
theorem zbxc : ∀ (q N : Nat), 8 * q ≤ N → ∀ (a0 a1 : (Sl Int)), ∀ (r : Bool), zlo q a0 a1 = some r → (orc T N).deep F.zlo [(Sl.enc (V.int .u8)) a0, (Sl.enc (V.int .u8)) a1] = some [V.bool r] := by
 intro q N hM a0 a1 r h
 rcases q with _ | q
 ·cases h
 obtain ⟨M, rfl⟩ : ∃ M, N = M + 8 := ⟨N - 8, by omega⟩
 have zb07 := (zbxb q)
 generalize hR : some [V.bool r] = R
 rw [zhs, zbgt, y5, zhq]
 rw [zlo] at h
 replace h := br h; rcases h with ⟨h1, h⟩ | ⟨h1, h⟩
 ·replace h := zb07 M (by omega) (M + 7) (by omega) _ _ _ _ _ _ _ h R hR
  simp only [zbw9, simprocAttr, *]
 ·cases h; subst hR; simp only [zbw9, simprocAttr, *]
def zbxd := And.intro @kk <| And.intro @ke <| And.intro @kn <| And.intro @zboe <| @zbog
theorem zbxe : ∀ (q N : Nat), 8 * q ≤ N → ∀ (a0 : (Sl Int)), ∀ (r : (Ow Int)), zlp q a0 = some r → (orc T N).deep F.zlp [(Sl.enc (V.int .u8)) a0] = some [(Ow.enc 1 (V.int .u8)) r] := by
 intro q N hM a0 r h
 rcases q with _ | q
 ·cases h
 obtain ⟨M, rfl⟩ : ∃ M, N = M + 8 := ⟨N - 8, by omega⟩
 generalize hR : some [(Ow.enc 1 (V.int .u8)) r] = R
 rw [zhs, zbgu, y5, zhq]
 rw [zlp] at h
 replace h := bb h; rcases h with ⟨h1', h1, h⟩ | ⟨h1', h1, h⟩
 ·cases h; subst hR; simp only [zbxd, simprocAttr, *]
 ·replace h := bn h; obtain ⟨h2, h⟩ := h
  cases h; subst hR; simp only [zbxd, simprocAttr, *]
def zbxf := And.intro @kk <| And.intro @ke <| And.intro @kn <| And.intro @zbl8 <| And.intro @zbjl <| And.intro @zbn6 <| And.intro @zbn9 <| And.intro @zboc <| And.intro @zbof <| @zbma
theorem zbxg : ∀ (q N : Nat), 8 * q ≤ N → ∀ (a0 : (Sl Int)), ∀ (r : (Ow Int) × Int × Int), zlq q a0 = some r → (orc T N).deep F.zlq [(Sl.enc (V.int .u8)) a0] = some [(Ow.enc 1 (V.int .u8)) r.1, (V.int .i64) r.2.1, (V.int .i64) r.2.2] := by
 intro q N hM a0 r h
 rcases q with _ | q
 ·cases h
 obtain ⟨M, rfl⟩ : ∃ M, N = M + 8 := ⟨N - 8, by omega⟩
 generalize hR : some [(Ow.enc 1 (V.int .u8)) r.1, (V.int .i64) r.2.1, (V.int .i64) r.2.2] = R
 rw [zhs, zbf4, y5, zhq]
 rw [zlq] at h
 replace h := ob h; obtain ⟨r1, h1, h⟩ := h
 replace h1 := zbwf q (M + 7) (by omega) _ _ h1
 try simp only [kf, simprocAttr] at h1
 replace h := bb h; rcases h with ⟨h2', h2, h⟩ | ⟨h2', h2, h⟩
 ·cases h; subst hR; simp only [zbxf, simprocAttr, *]
 ·replace h := ob h; obtain ⟨r2, h3, h⟩ := h
  replace h3 := zbw7 q (M + 7) (by omega) _ _ h3
  try simp only [kf, simprocAttr] at h3
  replace h := br h; rcases h with ⟨h4, h⟩ | ⟨h4, h⟩
  ·cases h; subst hR; simp only [zbxf, simprocAttr, *]
  ·replace h := br h; rcases h with ⟨h5, h⟩ | ⟨h5, h⟩
   ·cases h; subst hR; simp only [zbxf, simprocAttr, *]
   ·replace h := br h; rcases h with ⟨h6, h⟩ | ⟨h6, h⟩
    ·cases h; subst hR; simp only [zbxf, simprocAttr, *]
    ·replace h := bn h; obtain ⟨h7, h⟩ := h
     replace h := bn h; obtain ⟨h8, h⟩ := h
     replace h := bn h; obtain ⟨h9, h⟩ := h
     replace h := bn h; obtain ⟨h10, h⟩ := h
     replace h := bn h; obtain ⟨h11, h⟩ := h
     replace h := bn h; obtain ⟨h12, h⟩ := h
     replace h := bn h; obtain ⟨h13, h⟩ := h
     replace h := bn h; obtain ⟨h14, h⟩ := h
     replace h := bn h; obtain ⟨h15, h⟩ := h
     replace h := ob h; obtain ⟨r3, h16, h⟩ := h
     replace h16 := zbvi q (M + 7) (by omega) _ _ _ h16
     try simp only [kf, simprocAttr] at h16
     replace h := ob h; obtain ⟨r4, h17, h⟩ := h
     replace h17 := zbxc q (M + 7) (by omega) _ _ _ h17
     try simp only [kf, simprocAttr] at h17
     replace h := bb h; rcases h with ⟨h18', h18, h⟩ | ⟨h18', h18, h⟩
     ·replace h := ob h; obtain ⟨r5, h19, h⟩ := h
      replace h19 := zbxe q (M + 7) (by omega) _ _ h19
      try simp only [kf, simprocAttr] at h19
      cases h; subst hR; simp only [zbxf, simprocAttr, *]
     ·cases h; subst hR; simp only [zbxf, simprocAttr, *]
def zbxh (q : Nat) : Prop := ∀ (M : Nat) (hM : 8 * q ≤ M) (j : Nat) (hj : q ≤ j) (v0z : Bool) (v0l : List Int) (v3 : Int) (h0z : Bool) (h0l : List (Sl Int)) (r : (Ow (Sl Int)) × Int × Int) (_ : zlr q v0z v0l v3 h0z h0l = some r) (R : Option (List V)) (_ : some [(Ow.enc 1 (Sl.enc (V.int .u8))) r.1, (V.int .i64) r.2.1, (V.int .i64) r.2.2] = R) (fr : Fr) (H : Hp) (_ : canon 0 [0, 2, 3] fr H = ([(0, (.sl v0z (List.map (V.int .u8) v0l))), (2, (.vw 0 0 0 h0l.length 1)), (3, (.int .i64 v3))], [(.row 0 h0z 1 (List.map (Sl.enc (V.int .u8)) h0l) true)])), fin zul (unw T (orc T (M + 7)) (M + 7) 0 [.blk 0, .code zui] (iter 0 [0, 2, 3] (exec T (orc T (M + 7)) (M + 7) 0 zug) j fr H)) = R
def zbxi := And.intro @kk <| And.intro @ke <| And.intro @kn <| And.intro @zbjh <| And.intro @zbl9 <| @zbjj
theorem zbxj (q : Nat) (zb08 : zbxh q) : zbxh (q + 1) := by
 intro M hM j hj v0z v0l v3 h0z h0l r h R hR fr H hc
 obtain ⟨j, rfl⟩ : ∃ i, j = i + 1 := ⟨j - 1, by omega⟩
 rw [zhj, hc]; clear hc
 rw [zlr] at h
 replace h := br h; rcases h with ⟨h1, h⟩ | ⟨h1, h⟩
 ·replace h := bn h; obtain ⟨h2, h⟩ := h
  replace h := bn h; obtain ⟨h3, h⟩ := h
  replace h := ob h; obtain ⟨r1, h4, h⟩ := h
  replace h4 := zbxg q (M + 7) (by omega) _ _ h4
  try simp only [kf, simprocAttr] at h4
  replace h := br h; rcases h with ⟨h5, h⟩ | ⟨h5, h⟩
  ·replace h := bn h; obtain ⟨h6, h⟩ := h
   replace h := zb08 M (by omega) j (by omega) _ _ _ _ _ _ h R hR
   simp only [zbxi, simprocAttr, *]
  ·cases h; subst hR; simp only [zbxi, simprocAttr, *]
 ·cases h; subst hR; simp only [zbxi, simprocAttr, *]
theorem zbxk : ∀ q, zbxh q
 | 0 => by intro M hM j hj; intros; rename_i h _ _ _ _ _; cases h
 | q + 1 => by have i0 := zbxk q; exact zbxj q i0
theorem zbxl : ∀ (q N : Nat), 8 * q ≤ N → ∀ (a0 : (Sl Int)), ∀ (r : (Ow (Sl Int)) × Int × Int), zls q a0 = some r → (orc T N).deep F.zls [(Sl.enc (V.int .u8)) a0] = some [(Ow.enc 1 (Sl.enc (V.int .u8))) r.1, (V.int .i64) r.2.1, (V.int .i64) r.2.2] := by
 intro q N hM a0 r h
 rcases q with _ | q
 ·cases h
 obtain ⟨M, rfl⟩ : ∃ M, N = M + 8 := ⟨N - 8, by omega⟩
 have zb08 := (zbxk q)
 generalize hR : some [(Ow.enc 1 (Sl.enc (V.int .u8))) r.1, (V.int .i64) r.2.1, (V.int .i64) r.2.2] = R
 rw [zhs, zbe7, y5, zhq]
 rw [zls] at h
 replace h := zb08 M (by omega) (M + 7) (by omega) _ _ _ _ _ _ h R hR
 simp only [zbxi, simprocAttr, *]
def zbxm := And.intro @kk <| And.intro @ke <| And.intro @kn <| And.intro @zbhq <| And.intro @zbji <| @zbhs
theorem zbxn : ∀ (q N : Nat), 8 * q ≤ N → ∀ (a0 : (Sl Int)), ∀ (r : (Ow (Sl Int)) × Int), zlt q a0 = some r → (orc T N).deep F.zlt [(Sl.enc (V.int .u8)) a0] = some [(Ow.enc 1 (Sl.enc (V.int .u8))) r.1, (V.int .i64) r.2] := by
 intro q N hM a0 r h
 rcases q with _ | q
 ·cases h
 obtain ⟨M, rfl⟩ : ∃ M, N = M + 8 := ⟨N - 8, by omega⟩
 generalize hR : some [(Ow.enc 1 (Sl.enc (V.int .u8))) r.1, (V.int .i64) r.2] = R
 rw [zhs, zbem, y5, zhq]
 rw [zlt] at h
 replace h := ob h; obtain ⟨r1, h1, h⟩ := h
 replace h1 := zbxl q (M + 7) (by omega) _ _ h1
 try simp only [kf, simprocAttr] at h1
 replace h := br h; rcases h with ⟨h2, h⟩ | ⟨h2, h⟩
 ·cases h; subst hR; simp only [zbxm, simprocAttr, *]
 ·cases h; subst hR; simp only [zbxm, simprocAttr, *]
def zbxo (q : Nat) : Prop := ∀ (M : Nat) (hM : 8 * q ≤ M) (j : Nat) (hj : q ≤ j) (v0z : Bool) (v0l : List Int) (v3 v7 v8 r : Int) (_ : zlu q v0z v0l v3 v7 v8 = some r) (R : Option (List V)) (_ : some [(V.int .u64) r] = R) (fr : Fr) (H : Hp) (_ : canon 0 [0, 3, 7, 8] fr H = ([(0, (.sl v0z (List.map (V.int .u8) v0l))), (3, (.int .u64 v3)), (7, (.int .i64 v7)), (8, (.int .i64 v8))], [])), fin zux (unw T (orc T (M + 7)) (M + 7) 0 [.blk 0, .code zut] (iter 0 [0, 3, 7, 8] (exec T (orc T (M + 7)) (M + 7) 0 zuq) j fr H)) = R
def zbxp := And.intro @kk <| And.intro @ke <| And.intro @kn <| And.intro @zbjn <| @zbjp
theorem zbxq (q : Nat) (zb09 : zbxo q) : zbxo (q + 1) := by
 intro M hM j hj v0z v0l v3 v7 v8 r h R hR fr H hc
 obtain ⟨j, rfl⟩ : ∃ i, j = i + 1 := ⟨j - 1, by omega⟩
 rw [zhj, hc]; clear hc
 rw [zlu] at h
 replace h := br h; rcases h with ⟨h1, h⟩ | ⟨h1, h⟩
 ·replace h := bn h; obtain ⟨h2, h⟩ := h
  replace h := ob h; obtain ⟨e1, h3, h⟩ := h
  replace h := bm h; obtain ⟨h4, h⟩ := h
  replace h := zb09 M (by omega) j (by omega) _ _ _ _ _ _ h R hR
  simp only [zbxp, simprocAttr, *]
 ·cases h; subst hR; simp only [zbxp, simprocAttr, *]
theorem zbxr : ∀ q, zbxo q
 | 0 => by intro M hM j hj; intros; rename_i h _ _ _ _ _; cases h
 | q + 1 => by have i0 := zbxr q; exact zbxq q i0
theorem zbxs : ∀ (q N : Nat), 8 * q ≤ N → ∀ (a0 : (Sl Int)), ∀ (r : Int), zlv q a0 = some r → (orc T N).deep F.zlv [(Sl.enc (V.int .u8)) a0] = some [(V.int .u64) r] := by
 intro q N hM a0 r h
 rcases q with _ | q
 ·cases h
 obtain ⟨M, rfl⟩ : ∃ M, N = M + 8 := ⟨N - 8, by omega⟩
 have zb09 := (zbxr q)
 generalize hR : some [(V.int .u64) r] = R
 rw [zhs, zbe9, y5, zhq]
 rw [zlv] at h
 replace h := zb09 M (by omega) (M + 7) (by omega) _ _ _ _ _ _ h R hR
 simp only [zbxp, simprocAttr, *]
def zbxt := And.intro @kk <| And.intro @ke <| And.intro @kn <| And.intro @zbht <| And.intro @zbjl <| And.intro @zbjo <| @zbhv
theorem zbxu : ∀ (q N : Nat), 8 * q ≤ N → ∀ (a0 : (Sl Int)), ∀ (r : zjk × Int), zlw q a0 = some r → (orc T N).deep F.zlw [(Sl.enc (V.int .u8)) a0] = some [zjk.enc r.1, (V.int .i64) r.2] := by
 intro q N hM a0 r h
 rcases q with _ | q
 ·cases h
 obtain ⟨M, rfl⟩ : ∃ M, N = M + 8 := ⟨N - 8, by omega⟩
 generalize hR : some [zjk.enc r.1, (V.int .i64) r.2] = R
 rw [zhs, zben, y5, zhq]
 rw [zlw] at h
 replace h := br h; rcases h with ⟨h1, h⟩ | ⟨h1, h⟩
 ·cases h; subst hR; simp only [zbxt, simprocAttr, *]
 ·replace h := ob h; obtain ⟨e1, h2, h⟩ := h
  replace h := br h; rcases h with ⟨h3, h⟩ | ⟨h3, h⟩
  ·replace h := bn h; obtain ⟨h4, h⟩ := h
   replace h := ob h; obtain ⟨r2, h5, h⟩ := h
   replace h5 := zbw7 q (M + 7) (by omega) _ _ h5
   try simp only [kf, simprocAttr] at h5
   replace h := bn h; obtain ⟨h6, h⟩ := h
   replace h := bn h; obtain ⟨h7, h⟩ := h
   replace h := ob h; obtain ⟨r3, h8, h⟩ := h
   replace h8 := zbw7 q (M + 7) (by omega) _ _ h8
   try simp only [kf, simprocAttr] at h8
   replace h := bn h; obtain ⟨h9, h⟩ := h
   replace h := bn h; obtain ⟨h10, h⟩ := h
   replace h := ob h; obtain ⟨r4, h11, h⟩ := h
   replace h11 := zbw7 q (M + 7) (by omega) _ _ h11
   try simp only [kf, simprocAttr] at h11
   replace h := bn h; obtain ⟨h12, h⟩ := h
   replace h := bn h; obtain ⟨h13, h⟩ := h
   replace h := br h; rcases h with ⟨h14, h⟩ | ⟨h14, h⟩
   ·cases h; subst hR; simp only [zbxt, simprocAttr, *]
   ·replace h := br h; rcases h with ⟨h15, h⟩ | ⟨h15, h⟩
    ·cases h; subst hR; simp only [zbxt, simprocAttr, *]
    ·replace h := br h; rcases h with ⟨h16, h⟩ | ⟨h16, h⟩
     ·cases h; subst hR; simp only [zbxt, simprocAttr, *]
     ·replace h := br h; rcases h with ⟨h17, h⟩ | ⟨h17, h⟩
      ·replace h := br h; rcases h with ⟨h18, h⟩ | ⟨h18, h⟩
       ·replace h := ob h; obtain ⟨r5, h19, h⟩ := h
        replace h19 := zbxs q (M + 7) (by omega) _ _ h19
        try simp only [kf, simprocAttr] at h19
        cases h; subst hR; simp only [zbxt, simprocAttr, *]
       ·cases h; subst hR; simp only [zbxt, simprocAttr, *]
      ·cases h; subst hR; simp only [zbxt, simprocAttr, *]
  ·cases h; subst hR; simp only [zbxt, simprocAttr, *]
def zbxv (q : Nat) : Prop := ∀ (M : Nat) (hM : 8 * q ≤ M) (j : Nat) (hj : q ≤ j) (v0z : Bool) (v0l : List (Sl Int)) (v5z : Bool) (v5l : List (Sl Int)) (v6 v7 : Int) (r : Bool) (_ : zlx q v0z v0l v5z v5l v6 v7 = some r) (R : Option (List V)) (_ : some [V.bool r] = R) (fr : Fr) (H : Hp) (_ : canon 0 [0, 5, 6, 7] fr H = ([(0, (.sl v0z (List.map (Sl.enc (V.int .u8)) v0l))), (5, (.sl v5z (List.map (Sl.enc (V.int .u8)) v5l))), (6, (.int .i64 v6)), (7, (.int .i64 v7))], [])), fin zp1 (unw T (orc T (M + 7)) (M + 7) 0 [.blk 0, .code zpy] (iter 0 [0, 5, 6, 7] (exec T (orc T (M + 7)) (M + 7) 0 zpv) j fr H)) = R
def zbxw := And.intro @kk <| And.intro @ke <| And.intro @kn <| And.intro @zbhz <| @zbh1
theorem zbxx (q : Nat) (zb1a : zbxv q) : zbxv (q + 1) := by
 intro M hM j hj v0z v0l v5z v5l v6 v7 r h R hR fr H hc
 obtain ⟨j, rfl⟩ : ∃ i, j = i + 1 := ⟨j - 1, by omega⟩
 rw [zhj, hc]; clear hc
 rw [zlx] at h
 replace h := br h; rcases h with ⟨h1, h⟩ | ⟨h1, h⟩
 ·replace h := bn h; obtain ⟨h2, h⟩ := h
  replace h := ob h; obtain ⟨e1, h3, h⟩ := h
  replace h := br h; rcases h with ⟨h4, h⟩ | ⟨h4, h⟩
  ·cases h; subst hR; simp only [zbxw, simprocAttr, *]
  ·replace h := br h; rcases h with ⟨h5, h⟩ | ⟨h5, h⟩
   ·cases h; subst hR; simp only [zbxw, simprocAttr, *]
   ·replace h := br h; rcases h with ⟨h6, h⟩ | ⟨h6, h⟩
    ·replace h := br h; rcases h with ⟨h7, h⟩ | ⟨h7, h⟩
     ·cases h; subst hR; simp only [zbxw, simprocAttr, *]
     ·replace h := zb1a M (by omega) j (by omega) _ _ _ _ _ _ _ h R hR
      simp only [zbxw, simprocAttr, *]
    ·replace h := zb1a M (by omega) j (by omega) _ _ _ _ _ _ _ h R hR
     simp only [zbxw, simprocAttr, *]
 ·cases h; subst hR; simp only [zbxw, simprocAttr, *]
theorem zbxy : ∀ q, zbxv q
 | 0 => by intro M hM j hj; intros; rename_i h _ _ _ _ _; cases h
 | q + 1 => by have i0 := zbxy q; exact zbxx q i0
theorem zbxz : ∀ (q N : Nat), 8 * q ≤ N → ∀ (a0 : (Sl (Sl Int))), ∀ (r : Bool), zly q a0 = some r → (orc T N).deep F.zly [(Sl.enc (Sl.enc (V.int .u8))) a0] = some [V.bool r] := by
 intro q N hM a0 r h
 rcases q with _ | q
 ·cases h
 obtain ⟨M, rfl⟩ : ∃ M, N = M + 8 := ⟨N - 8, by omega⟩
 have zb1a := (zbxy q)
 generalize hR : some [V.bool r] = R
 rw [zhs, zbep, y5, zhq]
 rw [zly] at h
 replace h := zb1a M (by omega) (M + 7) (by omega) _ _ _ _ _ _ _ h R hR
 simp only [zbxw, simprocAttr, *]
def zbx0 := And.intro @kk <| And.intro @ke <| And.intro @kn <| And.intro @zboq <| @zbos
theorem zbx1 : ∀ (q N : Nat), 8 * q ≤ N → ∀ (a0 r : Int), zlz q a0 = some r → (orc T N).deep F.zlz [(V.int .u64) a0] = some [(V.int .i64) r] := by
 intro q N hM a0 r h
 rcases q with _ | q
 ·cases h
 obtain ⟨M, rfl⟩ : ∃ M, N = M + 8 := ⟨N - 8, by omega⟩
 generalize hR : some [(V.int .i64) r] = R
 rw [zhs, zbgy, y5, zhq]
 rw [zlz] at h
 cases h; subst hR; simp only [zbx0, simprocAttr, *]
def zbx2 := And.intro @kk <| And.intro @ke <| And.intro @kn <| And.intro @zbmk <| And.intro @zbmc <| And.intro @zbor <| @zbmm
theorem zbx3 : ∀ (q N : Nat), 8 * q ≤ N → ∀ (a0 : (Sl Int)), ∀ (r : Int × Int), zl0 q a0 = some r → (orc T N).deep F.zl0 [(Sl.enc (V.int .u8)) a0] = some [(V.int .i64) r.1, (V.int .i64) r.2] := by
 intro q N hM a0 r h
 rcases q with _ | q
 ·cases h
 obtain ⟨M, rfl⟩ : ∃ M, N = M + 8 := ⟨N - 8, by omega⟩
 generalize hR : some [(V.int .i64) r.1, (V.int .i64) r.2] = R
 rw [zhs, zbf8, y5, zhq]
 rw [zl0] at h
 replace h := ob h; obtain ⟨r1, h1, h⟩ := h
 replace h1 := zbw5 q (M + 7) (by omega) _ _ h1
 try simp only [kf, simprocAttr] at h1
 replace h := br h; rcases h with ⟨h2, h⟩ | ⟨h2, h⟩
 ·cases h; subst hR; simp only [zbx2, simprocAttr, *]
 ·replace h := ob h; obtain ⟨r2, h3, h⟩ := h
  replace h3 := zbx1 q (M + 7) (by omega) _ _ h3
  cases h; subst hR; simp only [zbx2, simprocAttr, *]
def zbx4 (q : Nat) : Prop := ∀ (M : Nat) (hM : 8 * q ≤ M) (j : Nat) (hj : q ≤ j) (v42 : Int) (h1_0z : Bool) (h1_0l : List Int) (h2_0 : Bool) (h3_0 : Int) (h3_2 : Bool) (h3_3 : Int) (r : zjh × Int) (_ : zl2 q v42 h1_0z h1_0l h2_0 h3_0 h3_2 h3_3 = some r) (R : Option (List V)) (_ : some [zjh.enc r.1, (V.int .i64) r.2] = R) (fr : Fr) (H : Hp) (_ : canon 0 [2, 4, 5, 6, 10, 42, 43] fr H = ([(2, (.ptr 0 0)), (4, (.fn F.znn [(.ptr 1 0), (.ptr 2 0)])), (5, (.fn F.zno [(.ptr 2 0)])), (6, (.fn F.znp [(.ptr 1 0)])), (10, (.ptr 3 0)), (42, (.int .i64 v42)), (43, (.int .i64 0))], [(.box [(.int .i64 0), (.sl true []), (.bool false), (.int .i64 0)]), (.box [(.sl h1_0z (List.map (V.int .u8) h1_0l))]), (.box [(.bool h2_0)]), (.box [(.int .i64 h3_0), (.sl true []), (.bool h3_2), (.int .i64 h3_3)])])), fin zv5 (unw T (orc T (M + 7)) (M + 7) 0 [.blk 0, .code zvw] (iter 0 [2, 4, 5, 6, 10, 42, 43] (exec T (orc T (M + 7)) (M + 7) 0 zvm) j fr H)) = R
def zbx5 (q : Nat) : Prop := ∀ (M : Nat) (hM : 8 * q ≤ M) (j : Nat) (hj : q ≤ j) (v42 v43 : Int) (h1_0z : Bool) (h1_0l : List Int) (h2_0 : Bool) (h3_0 : Int) (h3_2 : Bool) (h3_3 : Int) (h4l : List Int) (r : zjh × Int) (_ : zl1 q v42 v43 h1_0z h1_0l h2_0 h3_0 h3_2 h3_3 h4l = some r) (R : Option (List V)) (_ : some [zjh.enc r.1, (V.int .i64) r.2] = R) (fr : Fr) (H : Hp) (_ : canon 0 [2, 4, 5, 6, 10, 42, 43] fr H = ([(2, (.ptr 0 0)), (4, (.fn F.znn [(.ptr 1 0), (.ptr 2 0)])), (5, (.fn F.zno [(.ptr 2 0)])), (6, (.fn F.znp [(.ptr 1 0)])), (10, (.ptr 3 0)), (42, (.int .i64 v42)), (43, (.int .i64 v43))], [(.box [(.int .i64 0), (.sl true []), (.bool false), (.int .i64 0)]), (.box [(.sl h1_0z (List.map (V.int .u8) h1_0l))]), (.box [(.bool h2_0)]), (.box [(.int .i64 h3_0), (.vw 4 0 0 h4l.length 1), (.bool h3_2), (.int .i64 h3_3)]), (.row 0 false 1 (List.map (V.int .i64) h4l) true)])), fin zv5 (unw T (orc T (M + 7)) (M + 7) 0 [.blk 0, .code zvw] (iter 0 [2, 4, 5, 6, 10, 42, 43] (exec T (orc T (M + 7)) (M + 7) 0 zvm) j fr H)) = R
def zbx6 := And.intro @kk <| And.intro @ke <| And.intro @kn <| And.intro @zbjw <| And.intro @zbmh <| And.intro @zboh <| And.intro @zbok <| And.intro @zbon <| And.intro @zbjl <| And.intro @zbj3 <| And.intro @zbml <| And.intro @zbmi <| And.intro @zbmj <| And.intro @zboi <| And.intro @zboj <| And.intro @zbol <| And.intro @zbom <| And.intro @zboo <| And.intro @zbop <| @zbjy
theorem zbx7 (q : Nat) (zb1b : zbx5 q) : zbx4 (q + 1) := by
 intro M hM j hj v42 h1_0z h1_0l h2_0 h3_0 h3_2 h3_3 r h R hR fr H hc
 obtain ⟨j, rfl⟩ : ∃ i, j = i + 1 := ⟨j - 1, by omega⟩
 rw [zhj, hc]; clear hc
 rw [zl2] at h
 replace h := br h; rcases h with ⟨h1, h⟩ | ⟨h1, h⟩
 ·replace h := ob h; obtain ⟨r5, h2, h⟩ := h
  replace h2 := zbx3 q (M + 6) (by omega) _ _ h2
  try simp only [kf, simprocAttr] at h2
  replace h := bb h; rcases h with ⟨h3', h3, h⟩ | ⟨h3', h3, h⟩
  ·replace h := bn h; obtain ⟨h4, h⟩ := h
   replace h := bn h; obtain ⟨h5, h⟩ := h
   replace h := zb1b M (by omega) j (by omega) _ _ _ _ _ _ _ _ _ _ h R hR
   simp only [zbx6, simprocAttr, *]
  ·replace h := bn h; obtain ⟨h6, h⟩ := h
   replace h := bn h; obtain ⟨h7, h⟩ := h
   replace h := zb1b M (by omega) j (by omega) _ _ _ _ _ _ _ _ _ _ h R hR
   simp only [zbx6, simprocAttr, *]
 ·replace h := bb h; rcases h with ⟨h8', h8, h⟩ | ⟨h8', h8, h⟩
  ·replace h := br h; rcases h with ⟨h9, h⟩ | ⟨h9, h⟩
   ·cases h; subst hR; simp only [zbx6, simprocAttr, *]
   ·replace h := ob h; obtain ⟨r6, h10, h⟩ := h
    replace h10 := zbsk q (M + 7) (by omega) _ _ h10
    try simp only [kf, simprocAttr] at h10
    replace h := bb h; rcases h with ⟨h11', h11, h⟩ | ⟨h11', h11, h⟩
    ·cases h; subst hR; simp only [zbx6, simprocAttr, *]
    ·cases h; subst hR; simp only [zbx6, simprocAttr, *]
  ·cases h; subst hR; simp only [zbx6, simprocAttr, *]
theorem zbx8 (q : Nat) (zb1b : zbx5 q) : zbx5 (q + 1) := by
 intro M hM j hj v42 v43 h1_0z h1_0l h2_0 h3_0 h3_2 h3_3 h4l r h R hR fr H hc
 obtain ⟨j, rfl⟩ : ∃ i, j = i + 1 := ⟨j - 1, by omega⟩
 rw [zhj, hc]; clear hc
 rw [zl1] at h
 replace h := br h; rcases h with ⟨h1, h⟩ | ⟨h1, h⟩
 ·replace h := ob h; obtain ⟨r7, h2, h⟩ := h
  replace h2 := zbx3 q (M + 6) (by omega) _ _ h2
  try simp only [kf, simprocAttr] at h2
  replace h := bb h; rcases h with ⟨h3', h3, h⟩ | ⟨h3', h3, h⟩
  ·replace h := bn h; obtain ⟨h4, h⟩ := h
   replace h := bn h; obtain ⟨h5, h⟩ := h
   replace h := bn h; obtain ⟨h6, h⟩ := h
   replace h := zb1b M (by omega) j (by omega) _ _ _ _ _ _ _ _ _ _ h R hR
   simp only [zbx6, simprocAttr, *]
  ·replace h := bn h; obtain ⟨h7, h⟩ := h
   replace h := bn h; obtain ⟨h8, h⟩ := h
   replace h := bn h; obtain ⟨h9, h⟩ := h
   replace h := zb1b M (by omega) j (by omega) _ _ _ _ _ _ _ _ _ _ h R hR
   simp only [zbx6, simprocAttr, *]
 ·replace h := bb h; rcases h with ⟨h10', h10, h⟩ | ⟨h10', h10, h⟩
  ·replace h := br h; rcases h with ⟨h11, h⟩ | ⟨h11, h⟩
   ·cases h; subst hR; simp only [zbx6, simprocAttr, *]
   ·replace h := ob h; obtain ⟨r8, h12, h⟩ := h
    replace h12 := zbsk q (M + 7) (by omega) _ _ h12
    try simp only [kf, simprocAttr] at h12
    replace h := bb h; rcases h with ⟨h13', h13, h⟩ | ⟨h13', h13, h⟩
    ·cases h; subst hR; simp only [zbx6, simprocAttr, *]
    ·cases h; subst hR; simp only [zbx6, simprocAttr, *]
  ·cases h; subst hR; simp only [zbx6, simprocAttr, *]
theorem zbx9 : ∀ q, zbx4 q ∧ zbx5 q
 | 0 => by refine ⟨?_, ?_⟩ <;> (intro M hM j hj; intros; rename_i h _ _ _ _ _; cases h)
 | q + 1 => by have ⟨i0, i1⟩ := zbx9 q; exact ⟨zbx7 q i1, zbx8 q i1⟩
theorem zbya : ∀ (q N : Nat), 8 * q ≤ N → ∀ (a0 : (Sl Int)), ∀ (r : zjh × Int), zl3 q a0 = some r → (orc T N).deep F.zl3 [(Sl.enc (V.int .u8)) a0] = some [zjh.enc r.1, (V.int .i64) r.2] := by
 intro q N hM a0 r h
 rcases q with _ | q
 ·cases h
 obtain ⟨M, rfl⟩ : ∃ M, N = M + 8 := ⟨N - 8, by omega⟩
 have ih_codec_DecodeState_l0 := (zbx9 q).1
 generalize hR : some [zjh.enc r.1, (V.int .i64) r.2] = R
 rw [zhs, zbfc, y5, zhq]
 rw [zl3] at h
 replace h := ob h; obtain ⟨r1, h1, h⟩ := h
 replace h1 := zbw7 q (M + 6) (by omega) _ _ h1
 try simp only [kf, simprocAttr] at h1
 replace h := bn h; obtain ⟨h2, h⟩ := h
 replace h := bn h; obtain ⟨h3, h⟩ := h
 replace h := ob h; obtain ⟨r2, h4, h⟩ := h
 replace h4 := zbw7 q (M + 6) (by omega) _ _ h4
 try simp only [kf, simprocAttr] at h4
 replace h := br h; rcases h with ⟨h5, h⟩ | ⟨h5, h⟩
 ·replace h := bn h; obtain ⟨h6, h⟩ := h
  replace h := bn h; obtain ⟨h7, h⟩ := h
  replace h := ob h; obtain ⟨r3, h8, h⟩ := h
  replace h8 := zbw7 q (M + 6) (by omega) _ _ h8
  try simp only [kf, simprocAttr] at h8
  replace h := br h; rcases h with ⟨h9, h⟩ | ⟨h9, h⟩
  ·replace h := bn h; obtain ⟨h10, h⟩ := h
   replace h := bn h; obtain ⟨h11, h⟩ := h
   replace h := br h; rcases h with ⟨h12, h⟩ | ⟨h12, h⟩
   ·replace h := br h; rcases h with ⟨h13, h⟩ | ⟨h13, h⟩
    ·cases h; subst hR; simp only [zbx6, simprocAttr, *]
    ·replace h := br h; rcases h with ⟨h14, h⟩ | ⟨h14, h⟩
     ·cases h; subst hR; simp only [zbx6, simprocAttr, *]
     ·replace h := ih_codec_DecodeState_l0 M (by omega) (M + 7) (by omega) _ _ _ _ _ _ _ _ h R hR
      simp only [zbx6, simprocAttr, *]
   ·cases h; subst hR; simp only [zbx6, simprocAttr, *]
  ·replace h := bn h; obtain ⟨h15, h⟩ := h
   replace h := bn h; obtain ⟨h16, h⟩ := h
   cases h; subst hR; simp only [zbx6, simprocAttr, *]
 ·replace h := bn h; obtain ⟨h17, h⟩ := h
  replace h := bn h; obtain ⟨h18, h⟩ := h
  replace h := ob h; obtain ⟨r4, h19, h⟩ := h
  replace h19 := zbw7 q (M + 6) (by omega) _ _ h19
  try simp only [kf, simprocAttr] at h19
  replace h := bn h; obtain ⟨h20, h⟩ := h
  replace h := bn h; obtain ⟨h21, h⟩ := h
  cases h; subst hR; simp only [zbx6, simprocAttr, *]
def zbyb := And.intro @kk <| And.intro @ke <| And.intro @kn <| And.intro @zbjz <| And.intro @zbjl <| And.intro @zbml <| @zbj1
theorem zbyc : ∀ (q N : Nat), 8 * q ≤ N → ∀ (a0 : (Sl Int)), ∀ (r : zji × Int), zl4 q a0 = some r → (orc T N).deep F.zl4 [(Sl.enc (V.int .u8)) a0] = some [zji.enc r.1, (V.int .i64) r.2] := by
 intro q N hM a0 r h
 rcases q with _ | q
 ·cases h
 obtain ⟨M, rfl⟩ : ∃ M, N = M + 8 := ⟨N - 8, by omega⟩
 generalize hR : some [zji.enc r.1, (V.int .i64) r.2] = R
 rw [zhs, zbfd, y5, zhq]
 rw [zl4] at h
 replace h := ob h; obtain ⟨r1, h1, h⟩ := h
 replace h1 := zbw7 q (M + 7) (by omega) _ _ h1
 try simp only [kf, simprocAttr] at h1
 replace h := bn h; obtain ⟨h2, h⟩ := h
 replace h := bn h; obtain ⟨h3, h⟩ := h
 replace h := ob h; obtain ⟨r2, h4, h⟩ := h
 replace h4 := zbw7 q (M + 7) (by omega) _ _ h4
 try simp only [kf, simprocAttr] at h4
 replace h := bn h; obtain ⟨h5, h⟩ := h
 replace h := bn h; obtain ⟨h6, h⟩ := h
 replace h := ob h; obtain ⟨r3, h7, h⟩ := h
 replace h7 := zbx3 q (M + 7) (by omega) _ _ h7
 try simp only [kf, simprocAttr] at h7
 replace h := br h; rcases h with ⟨h8, h⟩ | ⟨h8, h⟩
 ·cases h; subst hR; simp only [zbyb, simprocAttr, *]
 ·replace h := br h; rcases h with ⟨h9, h⟩ | ⟨h9, h⟩
  ·cases h; subst hR; simp only [zbyb, simprocAttr, *]
  ·replace h := br h; rcases h with ⟨h10, h⟩ | ⟨h10, h⟩
   ·cases h; subst hR; simp only [zbyb, simprocAttr, *]
   ·cases h; subst hR; simp only [zbyb, simprocAttr, *]
def zbyd (q : Nat) : Prop := ∀ (M : Nat) (hM : 8 * q ≤ M) (j : Nat) (hj : q ≤ j) (v0z : Bool) (v0l : List Int) (v3 v62 h1_0 : Int) (h1_1z : Bool) (h1_1l : List Int) (h1_2 : Bool) (h1_3 : Int) (r : zjj × Int) (_ : zl6 q v0z v0l v3 v62 h1_0 h1_1z h1_1l h1_2 h1_3 = some r) (R : Option (List V)) (_ : some [zjj.enc r.1, (V.int .i64) r.2] = R) (fr : Fr) (H : Hp) (_ : canon 0 [0, 2, 3, 6, 62, 63] fr H = ([(0, (.sl v0z (List.map (V.int .u8) v0l))), (2, (.ptr 0 0)), (3, (.int .i64 v3)), (6, (.ptr 1 0)), (62, (.int .i64 v62)), (63, (.int .i64 0))], [(.box [(.int .i64 0), (.int .i64 0), (.sl true []), (.bool false), (.int .i64 0), (.sl true [])]), (.box [(.int .i64 h1_0), (.sl h1_1z (List.map (V.int .i64) h1_1l)), (.bool h1_2), (.int .i64 h1_3)])])), fin zq7 (unw T (orc T (M + 7)) (M + 7) 0 [.blk 0, .code zqw] (iter 0 [0, 2, 3, 6, 62, 63] (exec T (orc T (M + 7)) (M + 7) 0 zqn) j fr H)) = R
def zbye (q : Nat) : Prop := ∀ (M : Nat) (hM : 8 * q ≤ M) (j : Nat) (hj : q ≤ j) (v0z : Bool) (v0l : List Int) (v3 v62 v63 h1_0 : Int) (h1_1z : Bool) (h1_1l : List Int) (h1_2 : Bool) (h1_3 : Int) (h2l : List zji) (r : zjj × Int) (_ : zl5 q v0z v0l v3 v62 v63 h1_0 h1_1z h1_1l h1_2 h1_3 h2l = some r) (R : Option (List V)) (_ : some [zjj.enc r.1, (V.int .i64) r.2] = R) (fr : Fr) (H : Hp) (_ : canon 0 [0, 2, 3, 6, 62, 63] fr H = ([(0, (.sl v0z (List.map (V.int .u8) v0l))), (2, (.ptr 0 0)), (3, (.int .i64 v3)), (6, (.ptr 1 0)), (62, (.int .i64 v62)), (63, (.int .i64 v63))], [(.box [(.int .i64 0), (.int .i64 0), (.sl true []), (.bool false), (.int .i64 0), (.vw 2 0 0 h2l.length 1)]), (.box [(.int .i64 h1_0), (.sl h1_1z (List.map (V.int .i64) h1_1l)), (.bool h1_2), (.int .i64 h1_3)]), (.row 0 false 3 (List.map zji.enc h2l) true)])), fin zq7 (unw T (orc T (M + 7)) (M + 7) 0 [.blk 0, .code zqw] (iter 0 [0, 2, 3, 6, 62, 63] (exec T (orc T (M + 7)) (M + 7) 0 zqn) j fr H)) = R
def zbyf := And.intro @kk <| And.intro @ke <| And.intro @kn <| And.intro @zbh5 <| And.intro @zbjl <| And.intro @zbjx <| And.intro @zbj0 <| @zbh7
theorem zbyg (q : Nat) (zb1c : zbye q) : zbyd (q + 1) := by
 intro M hM j hj v0z v0l v3 v62 h1_0 h1_1z h1_1l h1_2 h1_3 r h R hR fr H hc
 obtain ⟨j, rfl⟩ : ∃ i, j = i + 1 := ⟨j - 1, by omega⟩
 rw [zhj, hc]; clear hc
 rw [zl6] at h
 replace h := br h; rcases h with ⟨h1, h⟩ | ⟨h1, h⟩
 ·replace h := ob h; obtain ⟨r4, h2, h⟩ := h
  replace h2 := zbyc q (M + 7) (by omega) _ _ h2
  try simp only [kf, simprocAttr] at h2
  replace h := br h; rcases h with ⟨h3, h⟩ | ⟨h3, h⟩
  ·cases h; subst hR; simp only [zbyf, simprocAttr, *]
  ·replace h := bn h; obtain ⟨h4, h⟩ := h
   replace h := bn h; obtain ⟨h5, h⟩ := h
   replace h := zb1c M (by omega) j (by omega) _ _ _ _ _ _ _ _ _ _ _ _ h R hR
   simp only [zbyf, simprocAttr, *]
 ·replace h := br h; rcases h with ⟨h6, h⟩ | ⟨h6, h⟩
  ·cases h; subst hR; simp only [zbyf, simprocAttr, *]
  ·cases h; subst hR; simp only [zbyf, simprocAttr, *]
theorem zbyh (q : Nat) (zb1c : zbye q) : zbye (q + 1) := by
 intro M hM j hj v0z v0l v3 v62 v63 h1_0 h1_1z h1_1l h1_2 h1_3 h2l r h R hR fr H hc
 obtain ⟨j, rfl⟩ : ∃ i, j = i + 1 := ⟨j - 1, by omega⟩
 rw [zhj, hc]; clear hc
 rw [zl5] at h
 replace h := br h; rcases h with ⟨h1, h⟩ | ⟨h1, h⟩
 ·replace h := ob h; obtain ⟨r5, h2, h⟩ := h
  replace h2 := zbyc q (M + 7) (by omega) _ _ h2
  try simp only [kf, simprocAttr] at h2
  replace h := br h; rcases h with ⟨h3, h⟩ | ⟨h3, h⟩
  ·cases h; subst hR; simp only [zbyf, simprocAttr, *]
  ·replace h := bn h; obtain ⟨h4, h⟩ := h
   replace h := bn h; obtain ⟨h5, h⟩ := h
   replace h := bn h; obtain ⟨h6, h⟩ := h
   replace h := zb1c M (by omega) j (by omega) _ _ _ _ _ _ _ _ _ _ _ _ h R hR
   simp only [zbyf, simprocAttr, *]
 ·replace h := br h; rcases h with ⟨h7, h⟩ | ⟨h7, h⟩
  ·cases h; subst hR; simp only [zbyf, simprocAttr, *]
  ·cases h; subst hR; simp only [zbyf, simprocAttr, *]
theorem zbyi : ∀ q, zbyd q ∧ zbye q
 | 0 => by refine ⟨?_, ?_⟩ <;> (intro M hM j hj; intros; rename_i h _ _ _ _ _; cases h)
 | q + 1 => by have ⟨i0, i1⟩ := zbyi q; exact ⟨zbyg q i1, zbyh q i1⟩
theorem zbyj : ∀ (q N : Nat), 8 * q ≤ N → ∀ (a0 : (Sl Int)), ∀ (r : zjj × Int), zl7 q a0 = some r → (orc T N).deep F.zl7 [(Sl.enc (V.int .u8)) a0] = some [zjj.enc r.1, (V.int .i64) r.2] := by
 intro q N hM a0 r h
 rcases q with _ | q
 ·cases h
 obtain ⟨M, rfl⟩ : ∃ M, N = M + 8 := ⟨N - 8, by omega⟩
 have ih_snapshot_read_l0 := (zbyi q).1
 generalize hR : some [zjj.enc r.1, (V.int .i64) r.2] = R
 rw [zhs, zber, y5, zhq]
 rw [zl7] at h
 replace h := ob h; obtain ⟨r1, h1, h⟩ := h
 replace h1 := zbw7 q (M + 7) (by omega) _ _ h1
 try simp only [kf, simprocAttr] at h1
 replace h := br h; rcases h with ⟨h2, h⟩ | ⟨h2, h⟩
 ·cases h; subst hR; simp only [zbyf, simprocAttr, *]
 ·replace h := br h; rcases h with ⟨h3, h⟩ | ⟨h3, h⟩
  ·cases h; subst hR; simp only [zbyf, simprocAttr, *]
  ·replace h := bn h; obtain ⟨h4, h⟩ := h
   replace h := bn h; obtain ⟨h5, h⟩ := h
   replace h := bn h; obtain ⟨h6, h⟩ := h
   replace h := ob h; obtain ⟨r2, h7, h⟩ := h
   replace h7 := zbya q (M + 7) (by omega) _ _ h7
   try simp only [kf, simprocAttr] at h7
   replace h := br h; rcases h with ⟨h8, h⟩ | ⟨h8, h⟩
   ·cases h; subst hR; simp only [zbyf, simprocAttr, *]
   ·replace h := bn h; obtain ⟨h9, h⟩ := h
    replace h := bn h; obtain ⟨h10, h⟩ := h
    replace h := ob h; obtain ⟨r3, h11, h⟩ := h
    replace h11 := zbw7 q (M + 7) (by omega) _ _ h11
    try simp only [kf, simprocAttr] at h11
    replace h := br h; rcases h with ⟨h12, h⟩ | ⟨h12, h⟩
    ·cases h; subst hR; simp only [zbyf, simprocAttr, *]
    ·replace h := br h; rcases h with ⟨h13, h⟩ | ⟨h13, h⟩
     ·cases h; subst hR; simp only [zbyf, simprocAttr, *]
     ·replace h := bn h; obtain ⟨h14, h⟩ := h
      replace h := bn h; obtain ⟨h15, h⟩ := h
      replace h := ih_snapshot_read_l0 M (by omega) (M + 7) (by omega) _ _ _ _ _ _ _ _ _ _ h R hR
      simp only [zbyf, simprocAttr, *]
def zbyk := And.intro @kk <| And.intro @ke <| And.intro @kn <| And.intro @zbhb <| And.intro @zbhr <| And.intro @zbhu <| And.intro @zbhx <| And.intro @zbh0 <| And.intro @zbh3 <| And.intro @zbh6 <| And.intro @zbh9 <| @zbhd
theorem zbyl : ∀ (q N : Nat), 8 * q ≤ N → ∀ (a0 : (Sl Int)), ∀ (r : zjj × Int), zl8 q a0 = some r → (orc T N).deep F.zl8 [(Sl.enc (V.int .u8)) a0] = some [zjj.enc r.1, (V.int .i64) r.2] := by
 intro q N hM a0 r h
 rcases q with _ | q
 ·cases h
 obtain ⟨M, rfl⟩ : ∃ M, N = M + 8 := ⟨N - 8, by omega⟩
 generalize hR : some [zjj.enc r.1, (V.int .i64) r.2] = R
 rw [zhs, zbeh, y5, zhq]
 rw [zl8] at h
 replace h := ob h; obtain ⟨r1, h1, h⟩ := h
 replace h1 := zbxn q (M + 7) (by omega) _ _ h1
 try simp only [kf, simprocAttr] at h1
 replace h := br h; rcases h with ⟨h2, h⟩ | ⟨h2, h⟩
 ·replace h := br h; rcases h with ⟨h3, h⟩ | ⟨h3, h⟩
  ·cases h; subst hR; simp only [zbyk, simprocAttr, *]
  ·replace h := bn h; obtain ⟨h4, h⟩ := h
   replace h := ob h; obtain ⟨e2, h5, h⟩ := h
   replace h := ob h; obtain ⟨r3, h6, h⟩ := h
   replace h6 := zbxu q (M + 7) (by omega) _ _ h6
   try simp only [kf, simprocAttr] at h6
   replace h := br h; rcases h with ⟨h7, h⟩ | ⟨h7, h⟩
   ·replace h := bn h; obtain ⟨h8, h⟩ := h
    replace h := ob h; obtain ⟨r4, h9, h⟩ := h
    replace h9 := zbvt q (M + 7) (by omega) _ _ h9
    try simp only [kf, simprocAttr] at h9
    replace h := br h; rcases h with ⟨h10, h⟩ | ⟨h10, h⟩
    ·replace h := ob h; obtain ⟨r5, h11, h⟩ := h
     replace h11 := zbxz q (M + 7) (by omega) _ _ h11
     try simp only [kf, simprocAttr] at h11
     replace h := bb h; rcases h with ⟨h12', h12, h⟩ | ⟨h12', h12, h⟩
     ·replace h := ob h; obtain ⟨r6, h13, h⟩ := h
      replace h13 := zbu9 q (M + 7) (by omega) _ _ h13
      try simp only [kf, simprocAttr] at h13
      replace h := br h; rcases h with ⟨h14, h⟩ | ⟨h14, h⟩
      ·replace h := ob h; obtain ⟨r7, h15, h⟩ := h
       replace h15 := zbyj q (M + 7) (by omega) _ _ h15
       try simp only [kf, simprocAttr] at h15
       replace h := br h; rcases h with ⟨h16, h⟩ | ⟨h16, h⟩
       ·replace h := ob h; obtain ⟨r8, h17, h⟩ := h
        replace h17 := zbt8 q (M + 7) (by omega) _ _ h17
        try simp only [kf, simprocAttr] at h17
        replace h := bb h; rcases h with ⟨h18', h18, h⟩ | ⟨h18', h18, h⟩
        ·cases h; subst hR; simp only [zbyk, simprocAttr, *]
        ·cases h; subst hR; simp only [zbyk, simprocAttr, *]
       ·cases h; subst hR; simp only [zbyk, simprocAttr, *]
      ·cases h; subst hR; simp only [zbyk, simprocAttr, *]
     ·cases h; subst hR; simp only [zbyk, simprocAttr, *]
    ·cases h; subst hR; simp only [zbyk, simprocAttr, *]
   ·cases h; subst hR; simp only [zbyk, simprocAttr, *]
 ·cases h; subst hR; simp only [zbyk, simprocAttr, *]
def zbym (q : Nat) : Prop := ∀ (M : Nat) (hM : 8 * q ≤ M) (j : Nat) (hj : q ≤ j) (v0z : Bool) (v0l : List Int) (v3 : Int) (r : Bool) (_ : zl9 q v0z v0l v3 = some r) (R : Option (List V)) (_ : some [V.bool r] = R) (fr : Fr) (H : Hp) (_ : canon 0 [0, 3] fr H = ([(0, (.sl v0z (List.map (V.int .u8) v0l))), (3, (.int .i64 v3))], [])), fin zbdc (unw T (orc T (M + 7)) (M + 7) 0 [.blk 0, .code zbc9] (iter 0 [0, 3] (exec T (orc T (M + 7)) (M + 7) 0 zbc6) j fr H)) = R
def zbyn := And.intro @kk <| And.intro @ke <| And.intro @kn <| And.intro @zbow <| @zboy
theorem zbyo (q : Nat) (zb1d : zbym q) : zbym (q + 1) := by
 intro M hM j hj v0z v0l v3 r h R hR fr H hc
 obtain ⟨j, rfl⟩ : ∃ i, j = i + 1 := ⟨j - 1, by omega⟩
 rw [zhj, hc]; clear hc
 rw [zl9] at h
 replace h := br h; rcases h with ⟨h1, h⟩ | ⟨h1, h⟩
 ·replace h := bn h; obtain ⟨h2, h⟩ := h
  replace h := ob h; obtain ⟨e1, h3, h⟩ := h
  replace h := br h; rcases h with ⟨h4, h⟩ | ⟨h4, h⟩
  ·cases h; subst hR; simp only [zbyn, simprocAttr, *]
  ·replace h := zb1d M (by omega) j (by omega) _ _ _ _ h R hR
   simp only [zbyn, simprocAttr, *]
 ·cases h; subst hR; simp only [zbyn, simprocAttr, *]
theorem zbyp : ∀ q, zbym q
 | 0 => by intro M hM j hj; intros; rename_i h _ _ _ _ _; cases h
 | q + 1 => by have i0 := zbyp q; exact zbyo q i0
theorem zbyq : ∀ (q N : Nat), 8 * q ≤ N → ∀ (a0 : (Sl Int)), ∀ (r : Bool), zma q a0 = some r → (orc T N).deep F.zma [(Sl.enc (V.int .u8)) a0] = some [V.bool r] := by
 intro q N hM a0 r h
 rcases q with _ | q
 ·cases h
 obtain ⟨M, rfl⟩ : ∃ M, N = M + 8 := ⟨N - 8, by omega⟩
 have zb1d := (zbyp q)
 generalize hR : some [V.bool r] = R
 rw [zhs, zbg0, y5, zhq]
 rw [zma] at h
 replace h := zb1d M (by omega) (M + 7) (by omega) _ _ _ _ h R hR
 simp only [zbyn, simprocAttr, *]
def zbyr (q : Nat) : Prop := ∀ (M : Nat) (hM : 8 * q ≤ M) (j : Nat) (hj : q ≤ j) (v0z : Bool) (v0l : List Int) (v4 v5 v6 : Int) (r : Int × Int) (_ : zmb q v0z v0l v4 v5 v6 = some r) (R : Option (List V)) (_ : some [(V.int .u64) r.1, (V.int .i64) r.2] = R) (fr : Fr) (H : Hp) (_ : canon 0 [0, 4, 5, 6] fr H = ([(0, (.sl v0z (List.map (V.int .u8) v0l))), (4, (.int .u64 v4)), (5, (.int .u64 v5)), (6, (.int .i64 v6))], [])), fin z93 (unw T (orc T (M + 7)) (M + 7) 0 [.blk 0, .code z9y] (iter 0 [0, 4, 5, 6] (exec T (orc T (M + 7)) (M + 7) 0 z9v) j fr H)) = R
def zbys := And.intro @kk <| And.intro @ke <| And.intro @kn <| And.intro @zbm5 <| @zbm7
theorem zbyt (q : Nat) (zb1e : zbyr q) : zbyr (q + 1) := by
 intro M hM j hj v0z v0l v4 v5 v6 r h R hR fr H hc
 obtain ⟨j, rfl⟩ : ∃ i, j = i + 1 := ⟨j - 1, by omega⟩
 rw [zhj, hc]; clear hc
 rw [zmb] at h
 replace h := br h; rcases h with ⟨h1, h⟩ | ⟨h1, h⟩
 ·replace h := br h; rcases h with ⟨h2, h⟩ | ⟨h2, h⟩
  ·replace h := bn h; obtain ⟨h3, h⟩ := h
   replace h := ob h; obtain ⟨e1, h4, h⟩ := h
   replace h := br h; rcases h with ⟨h5, h⟩ | ⟨h5, h⟩
   ·replace h := br h; rcases h with ⟨h6, h⟩ | ⟨h6, h⟩
    ·cases h; subst hR; simp only [zbys, simprocAttr, *]
    ·replace h := br h; rcases h with ⟨h7, h⟩ | ⟨h7, h⟩
     ·replace h := br h; rcases h with ⟨h8, h⟩ | ⟨h8, h⟩
      ·replace h := br h; rcases h with ⟨h9, h⟩ | ⟨h9, h⟩
       ·cases h; subst hR; simp only [zbys, simprocAttr, *]
       ·cases h; subst hR; simp only [zbys, simprocAttr, *]
      ·cases h; subst hR; simp only [zbys, simprocAttr, *]
     ·replace h := zb1e M (by omega) j (by omega) _ _ _ _ _ _ h R hR
      simp only [zbys, simprocAttr, *]
   ·replace h := br h; rcases h with ⟨h10, h⟩ | ⟨h10, h⟩
    ·replace h := br h; rcases h with ⟨h11, h⟩ | ⟨h11, h⟩
     ·replace h := br h; rcases h with ⟨h12, h⟩ | ⟨h12, h⟩
      ·cases h; subst hR; simp only [zbys, simprocAttr, *]
      ·cases h; subst hR; simp only [zbys, simprocAttr, *]
     ·cases h; subst hR; simp only [zbys, simprocAttr, *]
    ·replace h := zb1e M (by omega) j (by omega) _ _ _ _ _ _ h R hR
     simp only [zbys, simprocAttr, *]
  ·cases h; subst hR; simp only [zbys, simprocAttr, *]
 ·cases h; subst hR; simp only [zbys, simprocAttr, *]
theorem zbyu : ∀ q, zbyr q
 | 0 => by intro M hM j hj; intros; rename_i h _ _ _ _ _; cases h
 | q + 1 => by have i0 := zbyu q; exact zbyt q i0
theorem zbyv : ∀ (q N : Nat), 8 * q ≤ N → ∀ (a0 : (Sl Int)), ∀ (r : Int × Int), zmc q a0 = some r → (orc T N).deep F.zmc [(Sl.enc (V.int .u8)) a0] = some [(V.int .u64) r.1, (V.int .i64) r.2] := by
 intro q N hM a0 r h
 rcases q with _ | q
 ·cases h
 obtain ⟨M, rfl⟩ : ∃ M, N = M + 8 := ⟨N - 8, by omega⟩
 have zb1e := (zbyu q)
 generalize hR : some [(V.int .u64) r.1, (V.int .i64) r.2] = R
 rw [zhs, zbgf, y5, zhq]
 rw [zmc] at h
 replace h := zb1e M (by omega) (M + 7) (by omega) _ _ _ _ _ _ h R hR
 simp only [zbys, simprocAttr, *]
def zbyw := And.intro @kk <| And.intro @ke <| And.intro @kn <| And.intro @zbkb <| And.intro @zbm6 <| @zbkd
theorem zbyx : ∀ (q N : Nat), 8 * q ≤ N → ∀ (a0 : (Sl Int)), ∀ (r : Int × Int), zmd q a0 = some r → (orc T N).deep F.zmd [(Sl.enc (V.int .u8)) a0] = some [(V.int .i64) r.1, (V.int .i64) r.2] := by
 intro q N hM a0 r h
 rcases q with _ | q
 ·cases h
 obtain ⟨M, rfl⟩ : ∃ M, N = M + 8 := ⟨N - 8, by omega⟩
 generalize hR : some [(V.int .i64) r.1, (V.int .i64) r.2] = R
 rw [zhs, zbfh, y5, zhq]
 rw [zmd] at h
 replace h := ob h; obtain ⟨r1, h1, h⟩ := h
 replace h1 := zbyv q (M + 7) (by omega) _ _ h1
 try simp only [kf, simprocAttr] at h1
 replace h := br h; rcases h with ⟨h2, h⟩ | ⟨h2, h⟩
 ·cases h; subst hR; simp only [zbyw, simprocAttr, *]
 ·replace h := br h; rcases h with ⟨h3, h⟩ | ⟨h3, h⟩
  ·cases h; subst hR; simp only [zbyw, simprocAttr, *]
  ·cases h; subst hR; simp only [zbyw, simprocAttr, *]
def zbyy (q : Nat) : Prop := ∀ (M : Nat) (hM : 8 * q ≤ M) (j : Nat) (hj : q ≤ j) (v3 v4 r : Int) (_ : zme q v3 v4 = some r) (R : Option (List V)) (_ : some [(V.int .u32) r] = R) (fr : Fr) (H : Hp) (_ : canon 0 [3, 4] fr H = ([(3, (.int .u32 v3)), (4, (.int .i64 v4))], [])), fin zbah (unw T (orc T (M + 7)) (M + 7) 0 [.blk 0, .code zbad] (iter 0 [3, 4] (exec T (orc T (M + 7)) (M + 7) 0 zbaa) j fr H)) = R
def zbyz := And.intro @kk <| And.intro @ke <| And.intro @kn <| And.intro @zbm8 <| @zbna
theorem zby0 (q : Nat) (zb1f : zbyy q) : zbyy (q + 1) := by
 intro M hM j hj v3 v4 r h R hR fr H hc
 obtain ⟨j, rfl⟩ : ∃ i, j = i + 1 := ⟨j - 1, by omega⟩
 rw [zhj, hc]; clear hc
 rw [zme] at h
 replace h := br h; rcases h with ⟨h1, h⟩ | ⟨h1, h⟩
 ·replace h := br h; rcases h with ⟨h2, h⟩ | ⟨h2, h⟩
  ·replace h := zb1f M (by omega) j (by omega) _ _ _ h R hR
   simp only [zbyz, simprocAttr, *]
  ·replace h := zb1f M (by omega) j (by omega) _ _ _ h R hR
   simp only [zbyz, simprocAttr, *]
 ·cases h; subst hR; simp only [zbyz, simprocAttr, *]
theorem zby1 : ∀ q, zbyy q
 | 0 => by intro M hM j hj; intros; rename_i h _ _ _ _ _; cases h
 | q + 1 => by have i0 := zby1 q; exact zby0 q i0
theorem zby2 : ∀ (q N : Nat), 8 * q ≤ N → ∀ (a0 r : Int), zmf q a0 = some r → (orc T N).deep F.zmf [(V.int .u8) a0] = some [(V.int .u32) r] := by
 intro q N hM a0 r h
 rcases q with _ | q
 ·cases h
 obtain ⟨M, rfl⟩ : ∃ M, N = M + 8 := ⟨N - 8, by omega⟩
 have zb1f := (zby1 q)
 generalize hR : some [(V.int .u32) r] = R
 rw [zhs, zbgg, y5, zhq]
 rw [zmf] at h
 replace h := zb1f M (by omega) (M + 7) (by omega) _ _ _ h R hR
 simp only [zbyz, simprocAttr, *]
def zby3 (q : Nat) : Prop := ∀ (M : Nat) (hM : 8 * q ≤ M) (j : Nat) (hj : q ≤ j) (v1z : Bool) (v1l : List Int) (v5 v6 r : Int) (_ : zmg q v1z v1l v5 v6 = some r) (R : Option (List V)) (_ : some [(V.int .u32) r] = R) (fr : Fr) (H : Hp) (_ : canon 0 [1, 5, 6] fr H = ([(1, (.sl v1z (List.map (V.int .u8) v1l))), (5, (.int .u32 v5)), (6, (.int .i64 v6))], [])), fin zya (unw T (orc T (M + 7)) (M + 7) 0 [.blk 0, .code zx6] (iter 0 [1, 5, 6] (exec T (orc T (M + 7)) (M + 7) 0 zx3) j fr H)) = R
def zby4 := And.intro @kk <| And.intro @ke <| And.intro @kn <| And.intro @zbkh <| And.intro @zbm9 <| @zbkj
theorem zby5 (q : Nat) (zb1g : zby3 q) : zby3 (q + 1) := by
 intro M hM j hj v1z v1l v5 v6 r h R hR fr H hc
 obtain ⟨j, rfl⟩ : ∃ i, j = i + 1 := ⟨j - 1, by omega⟩
 rw [zhj, hc]; clear hc
 rw [zmg] at h
 replace h := br h; rcases h with ⟨h1, h⟩ | ⟨h1, h⟩
 ·replace h := bn h; obtain ⟨h2, h⟩ := h
  replace h := ob h; obtain ⟨e1, h3, h⟩ := h
  replace h := ob h; obtain ⟨r2, h4, h⟩ := h
  replace h4 := zby2 q (M + 7) (by omega) _ _ h4
  replace h := zb1g M (by omega) j (by omega) _ _ _ _ _ h R hR
  simp only [zby4, simprocAttr, *]
 ·cases h; subst hR; simp only [zby4, simprocAttr, *]
theorem zby6 : ∀ q, zby3 q
 | 0 => by intro M hM j hj; intros; rename_i h _ _ _ _ _; cases h
 | q + 1 => by have i0 := zby6 q; exact zby5 q i0
theorem zby7 : ∀ (q N : Nat), 8 * q ≤ N → ∀ (a0 : Int) (a1 : (Sl Int)), ∀ (r : Int), zmh q a0 a1 = some r → (orc T N).deep F.zmh [(V.int .u32) a0, (Sl.enc (V.int .u8)) a1] = some [(V.int .u32) r] := by
 intro q N hM a0 a1 r h
 rcases q with _ | q
 ·cases h
 obtain ⟨M, rfl⟩ : ∃ M, N = M + 8 := ⟨N - 8, by omega⟩
 have zb1g := (zby6 q)
 generalize hR : some [(V.int .u32) r] = R
 rw [zhs, zbfj, y5, zhq]
 rw [zmh] at h
 replace h := zb1g M (by omega) (M + 7) (by omega) _ _ _ _ _ h R hR
 simp only [zby4, simprocAttr, *]
def zby8 := And.intro @kk <| And.intro @ke <| And.intro @kn <| And.intro @zbik <| And.intro @zbki <| @zbim
theorem zby9 : ∀ (q N : Nat), 8 * q ≤ N → ∀ (a0 : (Sl Int)), ∀ (r : Int), zmi q a0 = some r → (orc T N).deep F.zmi [(Sl.enc (V.int .u8)) a0] = some [(V.int .u32) r] := by
 intro q N hM a0 r h
 rcases q with _ | q
 ·cases h
 obtain ⟨M, rfl⟩ : ∃ M, N = M + 8 := ⟨N - 8, by omega⟩
 generalize hR : some [(V.int .u32) r] = R
 rw [zhs, zbew, y5, zhq]
 rw [zmi] at h
 replace h := ob h; obtain ⟨r1, h1, h⟩ := h
 replace h1 := zby7 q (M + 7) (by omega) _ _ _ h1
 try simp only [kf, simprocAttr] at h1
 cases h; subst hR; simp only [zby8, simprocAttr, *]
def zbza (q : Nat) : Prop := ∀ (M : Nat) (hM : 8 * q ≤ M) (j : Nat) (hj : q ≤ j) (v0z : Bool) (v0l : List Int) (v3 v4 r : Int) (_ : zmj q v0z v0l v3 v4 = some r) (R : Option (List V)) (_ : some [(V.int .u64) r] = R) (fr : Fr) (H : Hp) (_ : canon 0 [0, 3, 4] fr H = ([(0, (.sl v0z (List.map (V.int .u8) v0l))), (3, (.int .u64 v3)), (4, (.int .i64 v4))], [])), fin zx2 (unw T (orc T (M + 7)) (M + 7) 0 [.blk 0, .code zxy] (iter 0 [0, 3, 4] (exec T (orc T (M + 7)) (M + 7) 0 zxv) j fr H)) = R
def zbzb := And.intro @kk <| And.intro @ke <| And.intro @kn <| And.intro @zbke <| @zbkg
theorem zbzc (q : Nat) (zb1h : zbza q) : zbza (q + 1) := by
 intro M hM j hj v0z v0l v3 v4 r h R hR fr H hc
 obtain ⟨j, rfl⟩ : ∃ i, j = i + 1 := ⟨j - 1, by omega⟩
 rw [zhj, hc]; clear hc
 rw [zmj] at h
 replace h := br h; rcases h with ⟨h1, h⟩ | ⟨h1, h⟩
 ·replace h := br h; rcases h with ⟨h2, h⟩ | ⟨h2, h⟩
  ·replace h := ob h; obtain ⟨e1, h3, h⟩ := h
   replace h := zb1h M (by omega) j (by omega) _ _ _ _ _ h R hR
   simp only [zbzb, simprocAttr, *]
  ·replace h := zb1h M (by omega) j (by omega) _ _ _ _ _ h R hR
   simp only [zbzb, simprocAttr, *]
 ·cases h; subst hR; simp only [zbzb, simprocAttr, *]
theorem zbzd : ∀ q, zbza q
 | 0 => by intro M hM j hj; intros; rename_i h _ _ _ _ _; cases h
 | q + 1 => by have i0 := zbzd q; exact zbzc q i0
theorem zbze : ∀ (q N : Nat), 8 * q ≤ N → ∀ (a0 : (Sl Int)), ∀ (r : Int), zmk q a0 = some r → (orc T N).deep F.zmk [(Sl.enc (V.int .u8)) a0] = some [(V.int .u64) r] := by
 intro q N hM a0 r h
 rcases q with _ | q
 ·cases h
 obtain ⟨M, rfl⟩ : ∃ M, N = M + 8 := ⟨N - 8, by omega⟩
 have zb1h := (zbzd q)
 generalize hR : some [(V.int .u64) r] = R
 rw [zhs, zbfi, y5, zhq]
 rw [zmk] at h
 replace h := zb1h M (by omega) (M + 7) (by omega) _ _ _ _ _ h R hR
 simp only [zbzb, simprocAttr, *]
def zbzf := And.intro @kk <| And.intro @ke <| And.intro @kn <| And.intro @zbm2 <| And.intro @zbil <| And.intro @zbkc <| And.intro @zbkf <| And.intro @zbox <| @zbm4
theorem zbzg : ∀ (q N : Nat), 8 * q ≤ N → ∀ (a0 : (Sl Int)), ∀ (r : (Ow Int) × Int × Int), zml q a0 = some r → (orc T N).deep F.zml [(Sl.enc (V.int .u8)) a0] = some [(Ow.enc 1 (V.int .u8)) r.1, (V.int .i64) r.2.1, (V.int .i64) r.2.2] := by
 intro q N hM a0 r h
 rcases q with _ | q
 ·cases h
 obtain ⟨M, rfl⟩ : ∃ M, N = M + 8 := ⟨N - 8, by omega⟩
 generalize hR : some [(Ow.enc 1 (V.int .u8)) r.1, (V.int .i64) r.2.1, (V.int .i64) r.2.2] = R
 rw [zhs, zbge, y5, zhq]
 rw [zml] at h
 replace h := ob h; obtain ⟨r1, h1, h⟩ := h
 replace h1 := zbyq q (M + 7) (by omega) _ _ h1
 try simp only [kf, simprocAttr] at h1
 replace h := bb h; rcases h with ⟨h2', h2, h⟩ | ⟨h2', h2, h⟩
 ·cases h; subst hR; simp only [zbzf, simprocAttr, *]
 ·replace h := ob h; obtain ⟨r2, h3, h⟩ := h
  replace h3 := zbyx q (M + 7) (by omega) _ _ h3
  try simp only [kf, simprocAttr] at h3
  replace h := br h; rcases h with ⟨h4, h⟩ | ⟨h4, h⟩
  ·cases h; subst hR; simp only [zbzf, simprocAttr, *]
  ·replace h := br h; rcases h with ⟨h5, h⟩ | ⟨h5, h⟩
   ·cases h; subst hR; simp only [zbzf, simprocAttr, *]
   ·replace h := br h; rcases h with ⟨h6, h⟩ | ⟨h6, h⟩
    ·cases h; subst hR; simp only [zbzf, simprocAttr, *]
    ·replace h := bn h; obtain ⟨h7, h⟩ := h
     replace h := bn h; obtain ⟨h8, h⟩ := h
     replace h := bn h; obtain ⟨h9, h⟩ := h
     replace h := bn h; obtain ⟨h10, h⟩ := h
     replace h := ob h; obtain ⟨r3, h11, h⟩ := h
     replace h11 := zby9 q (M + 7) (by omega) _ _ h11
     try simp only [kf, simprocAttr] at h11
     replace h := bn h; obtain ⟨h12, h⟩ := h
     replace h := bn h; obtain ⟨h13, h⟩ := h
     replace h := ob h; obtain ⟨r4, h14, h⟩ := h
     replace h14 := zbze q (M + 7) (by omega) _ _ h14
     try simp only [kf, simprocAttr] at h14
     replace h := br h; rcases h with ⟨h15, h⟩ | ⟨h15, h⟩
     ·replace h := bn h; obtain ⟨h16, h⟩ := h
      cases h; subst hR; simp only [zbzf, simprocAttr, *]
     ·cases h; subst hR; simp only [zbzf, simprocAttr, *]
def zbzh (q : Nat) : Prop := ∀ (M : Nat) (hM : 8 * q ≤ M) (j : Nat) (hj : q ≤ j) (v0z : Bool) (v0l : List Int) (v6 : Int) (h0z : Bool) (h0l : List (Sl Int)) (r : (Ow (Sl Int)) × Int × Int) (_ : zmm q v0z v0l v6 h0z h0l = some r) (R : Option (List V)) (_ : some [(Ow.enc 1 (Sl.enc (V.int .u8))) r.1, (V.int .i64) r.2.1, (V.int .i64) r.2.2] = R) (fr : Fr) (H : Hp) (_ : canon 0 [0, 5, 6] fr H = ([(0, (.sl v0z (List.map (V.int .u8) v0l))), (5, (.vw 0 0 0 h0l.length 1)), (6, (.int .i64 v6))], [(.row 0 h0z 1 (List.map (Sl.enc (V.int .u8)) h0l) true)])), fin zxq (unw T (orc T (M + 7)) (M + 7) 0 [.blk 0, .code zxl] (iter 0 [0, 5, 6] (exec T (orc T (M + 7)) (M + 7) 0 zxj) j fr H)) = R
def zbzi := And.intro @kk <| And.intro @ke <| And.intro @kn <| And.intro @zbj8 <| And.intro @zbm3 <| @zbka
theorem zbzj (q : Nat) (zb1i : zbzh q) : zbzh (q + 1) := by
 intro M hM j hj v0z v0l v6 h0z h0l r h R hR fr H hc
 obtain ⟨j, rfl⟩ : ∃ i, j = i + 1 := ⟨j - 1, by omega⟩
 rw [zhj, hc]; clear hc
 rw [zmm] at h
 replace h := br h; rcases h with ⟨h1, h⟩ | ⟨h1, h⟩
 ·replace h := bn h; obtain ⟨h2, h⟩ := h
  replace h := bn h; obtain ⟨h3, h⟩ := h
  replace h := ob h; obtain ⟨r1, h4, h⟩ := h
  replace h4 := zbzg q (M + 7) (by omega) _ _ h4
  try simp only [kf, simprocAttr] at h4
  replace h := br h; rcases h with ⟨h5, h⟩ | ⟨h5, h⟩
  ·replace h := bn h; obtain ⟨h6, h⟩ := h
   replace h := zb1i M (by omega) j (by omega) _ _ _ _ _ _ h R hR
   simp only [zbzi, simprocAttr, *]
  ·cases h; subst hR; simp only [zbzi, simprocAttr, *]
 ·cases h; subst hR; simp only [zbzi, simprocAttr, *]
theorem zbzk : ∀ q, zbzh q
 | 0 => by intro M hM j hj; intros; rename_i h _ _ _ _ _; cases h
 | q + 1 => by have i0 := zbzk q; exact zbzj q i0
theorem zbzl : ∀ (q N : Nat), 8 * q ≤ N → ∀ (a0 : (Sl Int)), ∀ (r : (Ow (Sl Int)) × Int × Int), zmn q a0 = some r → (orc T N).deep F.zmn [(Sl.enc (V.int .u8)) a0] = some [(Ow.enc 1 (Sl.enc (V.int .u8))) r.1, (V.int .i64) r.2.1, (V.int .i64) r.2.2] := by
 intro q N hM a0 r h
 rcases q with _ | q
 ·cases h
 obtain ⟨M, rfl⟩ : ∃ M, N = M + 8 := ⟨N - 8, by omega⟩
 have zb1i := (zbzk q)
 generalize hR : some [(Ow.enc 1 (Sl.enc (V.int .u8))) r.1, (V.int .i64) r.2.1, (V.int .i64) r.2.2] = R
 rw [zhs, zbfg, y5, zhq]
 rw [zmn] at h
 replace h := zb1i M (by omega) (M + 7) (by omega) _ _ _ _ _ _ h R hR
 simp only [zbzi, simprocAttr, *]
def zbzm := And.intro @kk <| And.intro @ke <| And.intro @kn <| And.intro @zbib <| And.intro @zbj9 <| @zbid
theorem zbzn : ∀ (q N : Nat), 8 * q ≤ N → ∀ (a0 : (Sl Int)), ∀ (r : (Ow (Sl Int)) × Int), zmo q a0 = some r → (orc T N).deep F.zmo [(Sl.enc (V.int .u8)) a0] = some [(Ow.enc 1 (Sl.enc (V.int .u8))) r.1, (V.int .i64) r.2] := by
 intro q N hM a0 r h
 rcases q with _ | q
 ·cases h
 obtain ⟨M, rfl⟩ : ∃ M, N = M + 8 := ⟨N - 8, by omega⟩
 generalize hR : some [(Ow.enc 1 (Sl.enc (V.int .u8))) r.1, (V.int .i64) r.2] = R
 rw [zhs, zbet, y5, zhq]
 rw [zmo] at h
 replace h := ob h; obtain ⟨r1, h1, h⟩ := h
 replace h1 := zbzl q (M + 7) (by omega) _ _ h1
 try simp only [kf, simprocAttr] at h1
 replace h := br h; rcases h with ⟨h2, h⟩ | ⟨h2, h⟩
 ·cases h; subst hR; simp only [zbzm, simprocAttr, *]
 ·cases h; subst hR; simp only [zbzm, simprocAttr, *]
def zbzo := And.intro @kk <| And.intro @ke <| And.intro @kn <| And.intro @zbie <| And.intro @zbkc <| And.intro @zbkf <| @zbig
theorem zbzp : ∀ (q N : Nat), 8 * q ≤ N → ∀ (a0 : (Sl Int)), ∀ (r : Int × Int × Int × Int), zmp q a0 = some r → (orc T N).deep F.zmp [(Sl.enc (V.int .u8)) a0] = some [(V.int .i64) r.1, (V.int .i64) r.2.1, (V.int .u64) r.2.2.1, (V.int .i64) r.2.2.2] := by
 intro q N hM a0 r h
 rcases q with _ | q
 ·cases h
 obtain ⟨M, rfl⟩ : ∃ M, N = M + 8 := ⟨N - 8, by omega⟩
 generalize hR : some [(V.int .i64) r.1, (V.int .i64) r.2.1, (V.int .u64) r.2.2.1, (V.int .i64) r.2.2.2] = R
 rw [zhs, zbeu, y5, zhq]
 rw [zmp] at h
 replace h := br h; rcases h with ⟨h1, h⟩ | ⟨h1, h⟩
 ·cases h; subst hR; simp only [zbzo, simprocAttr, *]
 ·replace h := ob h; obtain ⟨e1, h2, h⟩ := h
  replace h := br h; rcases h with ⟨h3, h⟩ | ⟨h3, h⟩
  ·replace h := bn h; obtain ⟨h4, h⟩ := h
   replace h := ob h; obtain ⟨r2, h5, h⟩ := h
   replace h5 := zbyx q (M + 7) (by omega) _ _ h5
   try simp only [kf, simprocAttr] at h5
   replace h := bn h; obtain ⟨h6, h⟩ := h
   replace h := bn h; obtain ⟨h7, h⟩ := h
   replace h := ob h; obtain ⟨r3, h8, h⟩ := h
   replace h8 := zbyx q (M + 7) (by omega) _ _ h8
   try simp only [kf, simprocAttr] at h8
   replace h := bn h; obtain ⟨h9, h⟩ := h
   replace h := bn h; obtain ⟨h10, h⟩ := h
   replace h := ob h; obtain ⟨r4, h11, h⟩ := h
   replace h11 := zbyx q (M + 7) (by omega) _ _ h11
   try simp only [kf, simprocAttr] at h11
   replace h := br h; rcases h with ⟨h12, h⟩ | ⟨h12, h⟩
   ·cases h; subst hR; simp only [zbzo, simprocAttr, *]
   ·replace h := br h; rcases h with ⟨h13, h⟩ | ⟨h13, h⟩
    ·cases h; subst hR; simp only [zbzo, simprocAttr, *]
    ·replace h := br h; rcases h with ⟨h14, h⟩ | ⟨h14, h⟩
     ·cases h; subst hR; simp only [zbzo, simprocAttr, *]
     ·replace h := br h; rcases h with ⟨h15, h⟩ | ⟨h15, h⟩
      ·replace h := bn h; obtain ⟨h16, h⟩ := h
       replace h := bn h; obtain ⟨h17, h⟩ := h
       replace h := br h; rcases h with ⟨h18, h⟩ | ⟨h18, h⟩
       ·replace h := ob h; obtain ⟨r5, h19, h⟩ := h
        replace h19 := zbze q (M + 7) (by omega) _ _ h19
        try simp only [kf, simprocAttr] at h19
        cases h; subst hR; simp only [zbzo, simprocAttr, *]
       ·cases h; subst hR; simp only [zbzo, simprocAttr, *]
      ·cases h; subst hR; simp only [zbzo, simprocAttr, *]
  ·cases h; subst hR; simp only [zbzo, simprocAttr, *]
def zbzq (q : Nat) : Prop := ∀ (M : Nat) (hM : 8 * q ≤ M) (j : Nat) (hj : q ≤ j) (v0z : Bool) (v0l : List (Sl Int)) (v3 : Int) (r : Bool) (_ : zmq q v0z v0l v3 = some r) (R : Option (List V)) (_ : some [V.bool r] = R) (fr : Fr) (H : Hp) (_ : canon 0 [0, 3] fr H = ([(0, (.sl v0z (List.map (Sl.enc (V.int .u8)) v0l))), (3, (.int .i64 v3))], [])), fin zr5 (unw T (orc T (M + 7)) (M + 7) 0 [.blk 0, .code zr2] (iter 0 [0, 3] (exec T (orc T (M + 7)) (M + 7) 0 zrz) j fr H)) = R
def zbzr := And.intro @kk <| And.intro @ke <| And.intro @kn <| And.intro @zbih <| @zbij
theorem zbzs (q : Nat) (zb1j : zbzq q) : zbzq (q + 1) := by
 intro M hM j hj v0z v0l v3 r h R hR fr H hc
 obtain ⟨j, rfl⟩ : ∃ i, j = i + 1 := ⟨j - 1, by omega⟩
 rw [zhj, hc]; clear hc
 rw [zmq] at h
 replace h := br h; rcases h with ⟨h1, h⟩ | ⟨h1, h⟩
 ·replace h := bn h; obtain ⟨h2, h⟩ := h
  replace h := ob h; obtain ⟨e1, h3, h⟩ := h
  replace h := br h; rcases h with ⟨h4, h⟩ | ⟨h4, h⟩
  ·cases h; subst hR; simp only [zbzr, simprocAttr, *]
  ·replace h := br h; rcases h with ⟨h5, h⟩ | ⟨h5, h⟩
   ·cases h; subst hR; simp only [zbzr, simprocAttr, *]
   ·replace h := br h; rcases h with ⟨h6, h⟩ | ⟨h6, h⟩
    ·replace h := br h; rcases h with ⟨h7, h⟩ | ⟨h7, h⟩
     ·cases h; subst hR; simp only [zbzr, simprocAttr, *]
     ·replace h := zb1j M (by omega) j (by omega) _ _ _ _ h R hR
      simp only [zbzr, simprocAttr, *]
    ·replace h := zb1j M (by omega) j (by omega) _ _ _ _ h R hR
     simp only [zbzr, simprocAttr, *]
 ·cases h; subst hR; simp only [zbzr, simprocAttr, *]
theorem zbzt : ∀ q, zbzq q
 | 0 => by intro M hM j hj; intros; rename_i h _ _ _ _ _; cases h
 | q + 1 => by have i0 := zbzt q; exact zbzs q i0
theorem zbzu : ∀ (q N : Nat), 8 * q ≤ N → ∀ (a0 : (Sl (Sl Int))), ∀ (r : Bool), zmr q a0 = some r → (orc T N).deep F.zmr [(Sl.enc (Sl.enc (V.int .u8))) a0] = some [V.bool r] := by
 intro q N hM a0 r h
 rcases q with _ | q
 ·cases h
 obtain ⟨M, rfl⟩ : ∃ M, N = M + 8 := ⟨N - 8, by omega⟩
 have zb1j := (zbzt q)
 generalize hR : some [V.bool r] = R
 rw [zhs, zbev, y5, zhq]
 rw [zmr] at h
 replace h := zb1j M (by omega) (M + 7) (by omega) _ _ _ _ h R hR
 simp only [zbzr, simprocAttr, *]
def zbzv := And.intro @kk <| And.intro @ke <| And.intro @kn <| And.intro @zboz <| @zbo1
theorem zbzw : ∀ (q N : Nat), 8 * q ≤ N → ∀ (a0 r : Int), zms q a0 = some r → (orc T N).deep F.zms [(V.int .u64) a0] = some [(V.int .i64) r] := by
 intro q N hM a0 r h
 rcases q with _ | q
 ·cases h
 obtain ⟨M, rfl⟩ : ∃ M, N = M + 8 := ⟨N - 8, by omega⟩
 generalize hR : some [(V.int .i64) r] = R
 rw [zhs, zbg1, y5, zhq]
 rw [zms] at h
 replace h := br h; rcases h with ⟨h1, h⟩ | ⟨h1, h⟩
 ·cases h; subst hR; simp only [zbzv, simprocAttr, *]
 ·cases h; subst hR; simp only [zbzv, simprocAttr, *]
def zbzx := And.intro @kk <| And.intro @ke <| And.intro @kn <| And.intro @zbnb <| And.intro @zbm6 <| And.intro @zbo0 <| @zbnd
theorem zbzy : ∀ (q N : Nat), 8 * q ≤ N → ∀ (a0 : (Sl Int)), ∀ (r : Int × Int), zmt q a0 = some r → (orc T N).deep F.zmt [(Sl.enc (V.int .u8)) a0] = some [(V.int .i64) r.1, (V.int .i64) r.2] := by
 intro q N hM a0 r h
 rcases q with _ | q
 ·cases h
 obtain ⟨M, rfl⟩ : ∃ M, N = M + 8 := ⟨N - 8, by omega⟩
 generalize hR : some [(V.int .i64) r.1, (V.int .i64) r.2] = R
 rw [zhs, zbgh, y5, zhq]
 rw [zmt] at h
 replace h := ob h; obtain ⟨r1, h1, h⟩ := h
 replace h1 := zbyv q (M + 7) (by omega) _ _ h1
 try simp only [kf, simprocAttr] at h1
 replace h := br h; rcases h with ⟨h2, h⟩ | ⟨h2, h⟩
 ·cases h; subst hR; simp only [zbzx, simprocAttr, *]
 ·replace h := ob h; obtain ⟨r2, h3, h⟩ := h
  replace h3 := zbzw q (M + 7) (by omega) _ _ h3
  cases h; subst hR; simp only [zbzx, simprocAttr, *]
def zbzz (q : Nat) : Prop := ∀ (M : Nat) (hM : 8 * q ≤ M) (j : Nat) (hj : q ≤ j) (v0z : Bool) (v0l : List Int) (v1 v5 : Int) (r : Bool) (_ : zmu q v0z v0l v1 v5 = some r) (R : Option (List V)) (_ : some [V.bool r] = R) (fr : Fr) (H : Hp) (_ : canon 0 [0, 1, 5] fr H = ([(0, (.sl v0z (List.map (V.int .i64) v0l))), (1, (.int .i64 v1)), (5, (.int .i64 v5))], [])), fin zbav (unw T (orc T (M + 7)) (M + 7) 0 [.blk 0, .code zbar] (iter 0 [0, 1, 5] (exec T (orc T (M + 7)) (M + 7) 0 zbao) j fr H)) = R
def zbz0 := And.intro @kk <| And.intro @ke <| And.intro @kn <| And.intro @zbne <| @zbng
theorem zbz1 (q : Nat) (zb1k : zbzz q) : zbzz (q + 1) := by
 intro M hM j hj v0z v0l v1 v5 r h R hR fr H hc
 obtain ⟨j, rfl⟩ : ∃ i, j = i + 1 := ⟨j - 1, by omega⟩
 rw [zhj, hc]; clear hc
 rw [zmu] at h
 replace h := br h; rcases h with ⟨h1, h⟩ | ⟨h1, h⟩
 ·replace h := bn h; obtain ⟨h2, h⟩ := h
  replace h := ob h; obtain ⟨e1, h3, h⟩ := h
  replace h := br h; rcases h with ⟨h4, h⟩ | ⟨h4, h⟩
  ·cases h; subst hR; simp only [zbz0, simprocAttr, *]
  ·replace h := br h; rcases h with ⟨h5, h⟩ | ⟨h5, h⟩
   ·cases h; subst hR; simp only [zbz0, simprocAttr, *]
   ·replace h := br h; rcases h with ⟨h6, h⟩ | ⟨h6, h⟩
    ·replace h := bn h; obtain ⟨h7, h⟩ := h
     replace h := ob h; obtain ⟨e2, h8, h⟩ := h
     replace h := br h; rcases h with ⟨h9, h⟩ | ⟨h9, h⟩
     ·cases h; subst hR; simp only [zbz0, simprocAttr, *]
     ·replace h := bn h; obtain ⟨h10, h⟩ := h
      replace h := ob h; obtain ⟨e3, h11, h⟩ := h
      replace h := br h; rcases h with ⟨h12, h⟩ | ⟨h12, h⟩
      ·cases h; subst hR; simp only [zbz0, simprocAttr, *]
      ·replace h := br h; rcases h with ⟨h13, h⟩ | ⟨h13, h⟩
       ·cases h; subst hR; simp only [zbz0, simprocAttr, *]
       ·replace h := zb1k M (by omega) j (by omega) _ _ _ _ _ h R hR
        simp only [zbz0, simprocAttr, *]
    ·replace h := bn h; obtain ⟨h14, h⟩ := h
     replace h := ob h; obtain ⟨e4, h15, h⟩ := h
     replace h := br h; rcases h with ⟨h16, h⟩ | ⟨h16, h⟩
     ·cases h; subst hR; simp only [zbz0, simprocAttr, *]
     ·replace h := br h; rcases h with ⟨h17, h⟩ | ⟨h17, h⟩
      ·cases h; subst hR; simp only [zbz0, simprocAttr, *]
      ·replace h := zb1k M (by omega) j (by omega) _ _ _ _ _ h R hR
       simp only [zbz0, simprocAttr, *]
 ·cases h; subst hR; simp only [zbz0, simprocAttr, *]
theorem zbz2 : ∀ q, zbzz q
 | 0 => by intro M hM j hj; intros; rename_i h _ _ _ _ _; cases h
 | q + 1 => by have i0 := zbz2 q; exact zbz1 q i0
theorem zbz3 : ∀ (q N : Nat), 8 * q ≤ N → ∀ (a0 : (Sl Int)) (a1 : Int), ∀ (r : Bool), zmv q a0 a1 = some r → (orc T N).deep F.zmv [(Sl.enc (V.int .i64)) a0, (V.int .i64) a1] = some [V.bool r] := by
 intro q N hM a0 a1 r h
 rcases q with _ | q
 ·cases h
 obtain ⟨M, rfl⟩ : ∃ M, N = M + 8 := ⟨N - 8, by omega⟩
 have zb1k := (zbz2 q)
 generalize hR : some [V.bool r] = R
 rw [zhs, zbgi, y5, zhq]
 rw [zmv] at h
 replace h := br h; rcases h with ⟨h1, h⟩ | ⟨h1, h⟩
 ·replace h := br h; rcases h with ⟨h2, h⟩ | ⟨h2, h⟩
  ·cases h; subst hR; simp only [zbz0, simprocAttr, *]
  ·replace h := zb1k M (by omega) (M + 7) (by omega) _ _ _ _ _ h R hR
   simp only [zbz0, simprocAttr, *]
 ·cases h; subst hR; simp only [zbz0, simprocAttr, *]
def zbz4 := And.intro @kk <| And.intro @ke <| And.intro @kn <| And.intro @zbnh <| @zbnj
theorem zbz5 : ∀ (q N : Nat), 8 * q ≤ N → ∀ (a0 r : Int), zmw q a0 = some r → (orc T N).deep F.zmw [(V.int .i64) a0] = some [(V.int .i64) r] := by
 intro q N hM a0 r h
 rcases q with _ | q
 ·cases h
 obtain ⟨M, rfl⟩ : ∃ M, N = M + 8 := ⟨N - 8, by omega⟩
 generalize hR : some [(V.int .i64) r] = R
 rw [zhs, zbgj, y5, zhq]
 rw [zmw] at h
 replace h := br h; rcases h with ⟨h1, h⟩ | ⟨h1, h⟩
 ·cases h; subst hR; simp only [zbz4, simprocAttr, *]
 ·replace h := br h; rcases h with ⟨h2, h⟩ | ⟨h2, h⟩
  ·cases h; subst hR; simp only [zbz4, simprocAttr, *]
  ·cases h; subst hR; simp only [zbz4, simprocAttr, *]
def zbz6 (q : Nat) : Prop := ∀ (M : Nat) (hM : 8 * q ≤ M) (j : Nat) (hj : q ≤ j) (v3 h0_0 : Int) (h0_1z : Bool) (h0_1l : List Int) (h0_2 : Bool) (h0_3 : Int) (r : Bool) (_ : zmx q v3 h0_0 h0_1z h0_1l h0_2 h0_3 = some r) (R : Option (List V)) (_ : some [V.bool r] = R) (fr : Fr) (H : Hp) (_ : canon 0 [1, 3] fr H = ([(1, (.ptr 0 0)), (3, (.int .i64 v3))], [(.box [(.int .i64 h0_0), (.sl h0_1z (List.map (V.int .i64) h0_1l)), (.bool h0_2), (.int .i64 h0_3)])])), fin z0u (unw T (orc T (M + 7)) (M + 7) 0 [.blk 0, .code z0n] (iter 0 [1, 3] (exec T (orc T (M + 7)) (M + 7) 0 z0k) j fr H)) = R
def zbz7 := And.intro @kk <| And.intro @ke <| And.intro @kn <| And.intro @zbkq <| And.intro @zbnf <| And.intro @zbni <| @zbks
theorem zbz8 (q : Nat) (zb1l : zbz6 q) : zbz6 (q + 1) := by
 intro M hM j hj v3 h0_0 h0_1z h0_1l h0_2 h0_3 r h R hR fr H hc
 obtain ⟨j, rfl⟩ : ∃ i, j = i + 1 := ⟨j - 1, by omega⟩
 rw [zhj, hc]; clear hc
 rw [zmx] at h
 replace h := br h; rcases h with ⟨h1, h⟩ | ⟨h1, h⟩
 ·replace h := bn h; obtain ⟨h2, h⟩ := h
  replace h := ob h; obtain ⟨e5, h3, h⟩ := h
  replace h := ob h; obtain ⟨r6, h4, h⟩ := h
  replace h4 := zbz5 q (M + 7) (by omega) _ _ h4
  replace h := br h; rcases h with ⟨h5, h⟩ | ⟨h5, h⟩
  ·replace h := zb1l M (by omega) j (by omega) _ _ _ _ _ _ _ h R hR
   simp only [zbz7, simprocAttr, *]
  ·cases h; subst hR; simp only [zbz7, simprocAttr, *]
 ·cases h; subst hR; simp only [zbz7, simprocAttr, *]
theorem zbz9 : ∀ q, zbz6 q
 | 0 => by intro M hM j hj; intros; rename_i h _ _ _ _ _; cases h
 | q + 1 => by have i0 := zbz9 q; exact zbz8 q i0
theorem zb0a : ∀ (q N : Nat), 8 * q ≤ N → ∀ (a0 : zjh), ∀ (r : Bool), zmy q a0 = some r → (orc T N).deep F.zmy [zjh.enc a0] = some [V.bool r] := by
 intro q N hM a0 r h
 rcases q with _ | q
 ·cases h
 obtain ⟨M, rfl⟩ : ∃ M, N = M + 8 := ⟨N - 8, by omega⟩
 have zb1l := (zbz9 q)
 generalize hR : some [V.bool r] = R
 rw [zhs, zbfm, y5, zhq]
 rw [zmy] at h
 replace h := br h; rcases h with ⟨h1, h⟩ | ⟨h1, h⟩
 ·cases h; subst hR; simp only [zbz7, simprocAttr, *]
 ·replace h := br h; rcases h with ⟨h2, h⟩ | ⟨h2, h⟩
  ·cases h; subst hR; simp only [zbz7, simprocAttr, *]
  ·replace h := bb h; rcases h with ⟨h3', h3, h⟩ | ⟨h3', h3, h⟩
   ·replace h := br h; rcases h with ⟨h4, h⟩ | ⟨h4, h⟩
    ·cases h; subst hR; simp only [zbz7, simprocAttr, *]
    ·replace h := br h; rcases h with ⟨h5, h⟩ | ⟨h5, h⟩
     ·cases h; subst hR; simp only [zbz7, simprocAttr, *]
     ·replace h := br h; rcases h with ⟨h6, h⟩ | ⟨h6, h⟩
      ·replace h := ob h; obtain ⟨r1, h7, h⟩ := h
       replace h7 := zbz3 q (M + 7) (by omega) _ _ _ h7
       try simp only [kf, simprocAttr] at h7
       cases h; subst hR; simp only [zbz7, simprocAttr, *]
      ·replace h := br h; rcases h with ⟨h8, h⟩ | ⟨h8, h⟩
       ·replace h := ob h; obtain ⟨r2, h9, h⟩ := h
        replace h9 := zbz3 q (M + 7) (by omega) _ _ _ h9
        try simp only [kf, simprocAttr] at h9
        cases h; subst hR; simp only [zbz7, simprocAttr, *]
       ·replace h := br h; rcases h with ⟨h10, h⟩ | ⟨h10, h⟩
        ·cases h; subst hR; simp only [zbz7, simprocAttr, *]
        ·replace h := br h; rcases h with ⟨h11, h⟩ | ⟨h11, h⟩
         ·replace h := zb1l M (by omega) (M + 7) (by omega) _ _ _ _ _ _ _ h R hR
          simp only [zbz7, simprocAttr, *]
         ·replace h := br h; rcases h with ⟨h12, h⟩ | ⟨h12, h⟩
          ·cases h; subst hR; simp only [zbz7, simprocAttr, *]
          ·replace h := zb1l M (by omega) (M + 7) (by omega) _ _ _ _ _ _ _ h R hR
           simp only [zbz7, simprocAttr, *]
   ·replace h := br h; rcases h with ⟨h13, h⟩ | ⟨h13, h⟩
    ·replace h := br h; rcases h with ⟨h14, h⟩ | ⟨h14, h⟩
     ·cases h; subst hR; simp only [zbz7, simprocAttr, *]
     ·replace h := br h; rcases h with ⟨h15, h⟩ | ⟨h15, h⟩
      ·cases h; subst hR; simp only [zbz7, simprocAttr, *]
      ·replace h := br h; rcases h with ⟨h16, h⟩ | ⟨h16, h⟩
       ·replace h := ob h; obtain ⟨r3, h17, h⟩ := h
        replace h17 := zbz3 q (M + 7) (by omega) _ _ _ h17
        try simp only [kf, simprocAttr] at h17
        cases h; subst hR; simp only [zbz7, simprocAttr, *]
       ·replace h := br h; rcases h with ⟨h18, h⟩ | ⟨h18, h⟩
        ·replace h := ob h; obtain ⟨r4, h19, h⟩ := h
         replace h19 := zbz3 q (M + 7) (by omega) _ _ _ h19
         try simp only [kf, simprocAttr] at h19
         cases h; subst hR; simp only [zbz7, simprocAttr, *]
        ·replace h := br h; rcases h with ⟨h20, h⟩ | ⟨h20, h⟩
         ·cases h; subst hR; simp only [zbz7, simprocAttr, *]
         ·replace h := br h; rcases h with ⟨h21, h⟩ | ⟨h21, h⟩
          ·replace h := zb1l M (by omega) (M + 7) (by omega) _ _ _ _ _ _ _ h R hR
           simp only [zbz7, simprocAttr, *]
          ·replace h := br h; rcases h with ⟨h22, h⟩ | ⟨h22, h⟩
           ·cases h; subst hR; simp only [zbz7, simprocAttr, *]
           ·replace h := zb1l M (by omega) (M + 7) (by omega) _ _ _ _ _ _ _ h R hR
            simp only [zbz7, simprocAttr, *]
    ·cases h; subst hR; simp only [zbz7, simprocAttr, *]
def zb0b (q : Nat) : Prop := ∀ (M : Nat) (hM : 8 * q ≤ M) (j : Nat) (hj : q ≤ j) (v0z : Bool) (v0l : List Int) (v8 v11 h1_0 : Int) (h1_2 : Bool) (h1_3 : Int) (r : zjh × Int) (_ : zm0 q v0z v0l v8 v11 h1_0 h1_2 h1_3 = some r) (R : Option (List V)) (_ : some [zjh.enc r.1, (V.int .i64) r.2] = R) (fr : Fr) (H : Hp) (_ : canon 0 [0, 2, 8, 10, 11, 12] fr H = ([(0, (.sl v0z (List.map (V.int .u8) v0l))), (2, (.ptr 0 0)), (8, (.int .i64 v8)), (10, (.ptr 1 0)), (11, (.int .i64 v11)), (12, (.int .i64 0))], [(.box [(.int .i64 0), (.sl true []), (.bool false), (.int .i64 0)]), (.box [(.int .i64 h1_0), (.sl true []), (.bool h1_2), (.int .i64 h1_3)])])), fin zzg (unw T (orc T (M + 7)) (M + 7) 0 [.blk 0, .code zy6] (iter 0 [0, 2, 8, 10, 11, 12] (exec T (orc T (M + 7)) (M + 7) 0 zyt) j fr H)) = R
def zb0c (q : Nat) : Prop := ∀ (M : Nat) (hM : 8 * q ≤ M) (j : Nat) (hj : q ≤ j) (v0z : Bool) (v0l : List Int) (v8 v11 v12 h1_0 : Int) (h1_2 : Bool) (h1_3 : Int) (h2l : List Int) (r : zjh × Int) (_ : zmz q v0z v0l v8 v11 v12 h1_0 h1_2 h1_3 h2l = some r) (R : Option (List V)) (_ : some [zjh.enc r.1, (V.int .i64) r.2] = R) (fr : Fr) (H : Hp) (_ : canon 0 [0, 2, 8, 10, 11, 12] fr H = ([(0, (.sl v0z (List.map (V.int .u8) v0l))), (2, (.ptr 0 0)), (8, (.int .i64 v8)), (10, (.ptr 1 0)), (11, (.int .i64 v11)), (12, (.int .i64 v12))], [(.box [(.int .i64 0), (.sl true []), (.bool false), (.int .i64 0)]), (.box [(.int .i64 h1_0), (.vw 2 0 0 h2l.length 1), (.bool h1_2), (.int .i64 h1_3)]), (.row 0 false 1 (List.map (V.int .i64) h2l) true)])), fin zzg (unw T (orc T (M + 7)) (M + 7) 0 [.blk 0, .code zy6] (iter 0 [0, 2, 8, 10, 11, 12] (exec T (orc T (M + 7)) (M + 7) 0 zyt) j fr H)) = R
def zb0d := And.intro @kk <| And.intro @ke <| And.intro @kn <| And.intro @zbkk <| And.intro @zbkc <| And.intro @zbkr <| And.intro @zbnc <| @zbkm
theorem zb0e (q : Nat) (zb1m : zb0c q) : zb0b (q + 1) := by
 intro M hM j hj v0z v0l v8 v11 h1_0 h1_2 h1_3 r h R hR fr H hc
 obtain ⟨j, rfl⟩ : ∃ i, j = i + 1 := ⟨j - 1, by omega⟩
 rw [zhj, hc]; clear hc
 rw [zm0] at h
 replace h := br h; rcases h with ⟨h1, h⟩ | ⟨h1, h⟩
 ·replace h := bn h; obtain ⟨h2, h⟩ := h
  replace h := bn h; obtain ⟨h3, h⟩ := h
  replace h := ob h; obtain ⟨r4, h4, h⟩ := h
  replace h4 := zbzy q (M + 7) (by omega) _ _ h4
  try simp only [kf, simprocAttr] at h4
  replace h := br h; rcases h with ⟨h5, h⟩ | ⟨h5, h⟩
  ·cases h; subst hR; simp only [zb0d, simprocAttr, *]
  ·replace h := zb1m M (by omega) j (by omega) _ _ _ _ _ _ _ _ _ _ h R hR
   simp only [zb0d, simprocAttr, *]
 ·replace h := br h; rcases h with ⟨h6, h⟩ | ⟨h6, h⟩
  ·replace h := ob h; obtain ⟨r5, h7, h⟩ := h
   replace h7 := zb0a q (M + 7) (by omega) _ _ h7
   try simp only [kf, simprocAttr] at h7
   replace h := bb h; rcases h with ⟨h8', h8, h⟩ | ⟨h8', h8, h⟩
   ·cases h; subst hR; simp only [zb0d, simprocAttr, *]
   ·cases h; subst hR; simp only [zb0d, simprocAttr, *]
  ·cases h; subst hR; simp only [zb0d, simprocAttr, *]
theorem zb0f (q : Nat) (zb1m : zb0c q) : zb0c (q + 1) := by
 intro M hM j hj v0z v0l v8 v11 v12 h1_0 h1_2 h1_3 h2l r h R hR fr H hc
 obtain ⟨j, rfl⟩ : ∃ i, j = i + 1 := ⟨j - 1, by omega⟩
 rw [zhj, hc]; clear hc
 rw [zmz] at h
 replace h := br h; rcases h with ⟨h1, h⟩ | ⟨h1, h⟩
 ·replace h := bn h; obtain ⟨h2, h⟩ := h
  replace h := bn h; obtain ⟨h3, h⟩ := h
  replace h := ob h; obtain ⟨r6, h4, h⟩ := h
  replace h4 := zbzy q (M + 7) (by omega) _ _ h4
  try simp only [kf, simprocAttr] at h4
  replace h := br h; rcases h with ⟨h5, h⟩ | ⟨h5, h⟩
  ·cases h; subst hR; simp only [zb0d, simprocAttr, *]
  ·replace h := bn h; obtain ⟨h6, h⟩ := h
   replace h := zb1m M (by omega) j (by omega) _ _ _ _ _ _ _ _ _ _ h R hR
   simp only [zb0d, simprocAttr, *]
 ·replace h := br h; rcases h with ⟨h7, h⟩ | ⟨h7, h⟩
  ·replace h := ob h; obtain ⟨r7, h8, h⟩ := h
   replace h8 := zb0a q (M + 7) (by omega) _ _ h8
   try simp only [kf, simprocAttr] at h8
   replace h := bb h; rcases h with ⟨h9', h9, h⟩ | ⟨h9', h9, h⟩
   ·cases h; subst hR; simp only [zb0d, simprocAttr, *]
   ·cases h; subst hR; simp only [zb0d, simprocAttr, *]
  ·cases h; subst hR; simp only [zb0d, simprocAttr, *]
theorem zb0g : ∀ q, zb0b q ∧ zb0c q
 | 0 => by refine ⟨?_, ?_⟩ <;> (intro M hM j hj; intros; rename_i h _ _ _ _ _; cases h)
 | q + 1 => by have ⟨i0, i1⟩ := zb0g q; exact ⟨zb0e q i1, zb0f q i1⟩
theorem zb0h : ∀ (q N : Nat), 8 * q ≤ N → ∀ (a0 : (Sl Int)), ∀ (r : zjh × Int), zm1 q a0 = some r → (orc T N).deep F.zm1 [(Sl.enc (V.int .u8)) a0] = some [zjh.enc r.1, (V.int .i64) r.2] := by
 intro q N hM a0 r h
 rcases q with _ | q
 ·cases h
 obtain ⟨M, rfl⟩ : ∃ M, N = M + 8 := ⟨N - 8, by omega⟩
 have ih_ferrymanref05_DecodeState_l0 := (zb0g q).1
 generalize hR : some [zjh.enc r.1, (V.int .i64) r.2] = R
 rw [zhs, zbfk, y5, zhq]
 rw [zm1] at h
 replace h := ob h; obtain ⟨r1, h1, h⟩ := h
 replace h1 := zbyx q (M + 7) (by omega) _ _ h1
 try simp only [kf, simprocAttr] at h1
 replace h := bn h; obtain ⟨h2, h⟩ := h
 replace h := bn h; obtain ⟨h3, h⟩ := h
 replace h := ob h; obtain ⟨r2, h4, h⟩ := h
 replace h4 := zbyx q (M + 7) (by omega) _ _ h4
 try simp only [kf, simprocAttr] at h4
 replace h := bn h; obtain ⟨h5, h⟩ := h
 replace h := bn h; obtain ⟨h6, h⟩ := h
 replace h := ob h; obtain ⟨r3, h7, h⟩ := h
 replace h7 := zbyx q (M + 7) (by omega) _ _ h7
 try simp only [kf, simprocAttr] at h7
 replace h := br h; rcases h with ⟨h8, h⟩ | ⟨h8, h⟩
 ·cases h; subst hR; simp only [zb0d, simprocAttr, *]
 ·replace h := br h; rcases h with ⟨h9, h⟩ | ⟨h9, h⟩
  ·cases h; subst hR; simp only [zb0d, simprocAttr, *]
  ·replace h := br h; rcases h with ⟨h10, h⟩ | ⟨h10, h⟩
   ·cases h; subst hR; simp only [zb0d, simprocAttr, *]
   ·replace h := br h; rcases h with ⟨h11, h⟩ | ⟨h11, h⟩
    ·cases h; subst hR; simp only [zb0d, simprocAttr, *]
    ·replace h := br h; rcases h with ⟨h12, h⟩ | ⟨h12, h⟩
     ·cases h; subst hR; simp only [zb0d, simprocAttr, *]
     ·replace h := br h; rcases h with ⟨h13, h⟩ | ⟨h13, h⟩
      ·replace h := ih_ferrymanref05_DecodeState_l0 M (by omega) (M + 7) (by omega) _ _ _ _ _ _ _ _ h R hR
       simp only [zb0d, simprocAttr, *]
      ·replace h := ih_ferrymanref05_DecodeState_l0 M (by omega) (M + 7) (by omega) _ _ _ _ _ _ _ _ h R hR
       simp only [zb0d, simprocAttr, *]
def zb0i (q : Nat) : Prop := ∀ (M : Nat) (hM : 8 * q ≤ M) (j : Nat) (hj : q ≤ j) (v0z : Bool) (v0l : List Int) (v4 v5 v7 : Int) (h0z : Bool) (h0l : List zji) (r : (Ow zji) × Bool) (_ : zm2 q v0z v0l v4 v5 v7 h0z h0l = some r) (R : Option (List V)) (_ : some [(Ow.enc 3 zji.enc) r.1, V.bool r.2] = R) (fr : Fr) (H : Hp) (_ : canon 0 [0, 4, 5, 6, 7] fr H = ([(0, (.sl v0z (List.map (V.int .u8) v0l))), (4, (.int .i64 v4)), (5, (.int .i64 v5)), (6, (.vw 0 0 0 h0l.length 1)), (7, (.int .i64 v7))], [(.row 0 h0z 3 (List.map zji.enc h0l) true)])), fin zz6 (unw T (orc T (M + 7)) (M + 7) 0 [.blk 0, .code zz0] (iter 0 [0, 4, 5, 6, 7] (exec T (orc T (M + 7)) (M + 7) 0 zzx) j fr H)) = R
def zb0j := And.intro @kk <| And.intro @ke <| And.intro @kn <| And.intro @zbkn <| And.intro @zbkc <| And.intro @zbnc <| @zbkp
theorem zb0k (q : Nat) (zb1n : zb0i q) : zb0i (q + 1) := by
 intro M hM j hj v0z v0l v4 v5 v7 h0z h0l r h R hR fr H hc
 obtain ⟨j, rfl⟩ : ∃ i, j = i + 1 := ⟨j - 1, by omega⟩
 rw [zhj, hc]; clear hc
 rw [zm2] at h
 replace h := br h; rcases h with ⟨h1, h⟩ | ⟨h1, h⟩
 ·replace h := bn h; obtain ⟨h2, h⟩ := h
  replace h := bn h; obtain ⟨h3, h⟩ := h
  replace h := ob h; obtain ⟨r2, h4, h⟩ := h
  replace h4 := zbyx q (M + 7) (by omega) _ _ h4
  try simp only [kf, simprocAttr] at h4
  replace h := bn h; obtain ⟨h5, h⟩ := h
  replace h := bn h; obtain ⟨h6, h⟩ := h
  replace h := ob h; obtain ⟨r3, h7, h⟩ := h
  replace h7 := zbyx q (M + 7) (by omega) _ _ h7
  try simp only [kf, simprocAttr] at h7
  replace h := bn h; obtain ⟨h8, h⟩ := h
  replace h := bn h; obtain ⟨h9, h⟩ := h
  replace h := ob h; obtain ⟨r4, h10, h⟩ := h
  replace h10 := zbzy q (M + 7) (by omega) _ _ h10
  try simp only [kf, simprocAttr] at h10
  replace h := br h; rcases h with ⟨h11, h⟩ | ⟨h11, h⟩
  ·cases h; subst hR; simp only [zb0j, simprocAttr, *]
  ·replace h := br h; rcases h with ⟨h12, h⟩ | ⟨h12, h⟩
   ·cases h; subst hR; simp only [zb0j, simprocAttr, *]
   ·replace h := br h; rcases h with ⟨h13, h⟩ | ⟨h13, h⟩
    ·cases h; subst hR; simp only [zb0j, simprocAttr, *]
    ·replace h := bn h; obtain ⟨h14, h⟩ := h
     replace h := zb1n M (by omega) j (by omega) _ _ _ _ _ _ _ _ h R hR
     simp only [zb0j, simprocAttr, *]
 ·cases h; subst hR; simp only [zb0j, simprocAttr, *]
theorem zb0l : ∀ q, zb0i q
 | 0 => by intro M hM j hj; intros; rename_i h _ _ _ _ _; cases h
 | q + 1 => by have i0 := zb0l q; exact zb0k q i0
theorem zb0m : ∀ (q N : Nat), 8 * q ≤ N → ∀ (a0 : (Sl Int)), ∀ (r : (Ow zji) × Bool), zm3 q a0 = some r → (orc T N).deep F.zm3 [(Sl.enc (V.int .u8)) a0] = some [(Ow.enc 3 zji.enc) r.1, V.bool r.2] := by
 intro q N hM a0 r h
 rcases q with _ | q
 ·cases h
 obtain ⟨M, rfl⟩ : ∃ M, N = M + 8 := ⟨N - 8, by omega⟩
 have zb1n := (zb0l q)
 generalize hR : some [(Ow.enc 3 zji.enc) r.1, V.bool r.2] = R
 rw [zhs, zbfl, y5, zhq]
 rw [zm3] at h
 replace h := ob h; obtain ⟨r1, h1, h⟩ := h
 replace h1 := zbyx q (M + 7) (by omega) _ _ h1
 try simp only [kf, simprocAttr] at h1
 replace h := br h; rcases h with ⟨h2, h⟩ | ⟨h2, h⟩
 ·cases h; subst hR; simp only [zb0j, simprocAttr, *]
 ·replace h := br h; rcases h with ⟨h3, h⟩ | ⟨h3, h⟩
  ·cases h; subst hR; simp only [zb0j, simprocAttr, *]
  ·replace h := zb1n M (by omega) (M + 7) (by omega) _ _ _ _ _ _ _ _ h R hR
   simp only [zb0j, simprocAttr, *]
def zb0n := And.intro @kk <| And.intro @ke <| And.intro @kn <| And.intro @zbin <| And.intro @zbkc <| And.intro @zbkl <| And.intro @zbko <| @zbip
theorem zb0o : ∀ (q N : Nat), 8 * q ≤ N → ∀ (a0 : (Sl Int)), ∀ (r : zjj × Int), zm4 q a0 = some r → (orc T N).deep F.zm4 [(Sl.enc (V.int .u8)) a0] = some [zjj.enc r.1, (V.int .i64) r.2] := by
 intro q N hM a0 r h
 rcases q with _ | q
 ·cases h
 obtain ⟨M, rfl⟩ : ∃ M, N = M + 8 := ⟨N - 8, by omega⟩
 generalize hR : some [zjj.enc r.1, (V.int .i64) r.2] = R
 rw [zhs, zbex, y5, zhq]
 rw [zm4] at h
 replace h := ob h; obtain ⟨r1, h1, h⟩ := h
 replace h1 := zbyx q (M + 7) (by omega) _ _ h1
 try simp only [kf, simprocAttr] at h1
 replace h := br h; rcases h with ⟨h2, h⟩ | ⟨h2, h⟩
 ·cases h; subst hR; simp only [zb0n, simprocAttr, *]
 ·replace h := br h; rcases h with ⟨h3, h⟩ | ⟨h3, h⟩
  ·cases h; subst hR; simp only [zb0n, simprocAttr, *]
  ·replace h := bn h; obtain ⟨h4, h⟩ := h
   replace h := bn h; obtain ⟨h5, h⟩ := h
   replace h := bn h; obtain ⟨h6, h⟩ := h
   replace h := ob h; obtain ⟨r2, h7, h⟩ := h
   replace h7 := zb0h q (M + 7) (by omega) _ _ h7
   try simp only [kf, simprocAttr] at h7
   replace h := bn h; obtain ⟨h8, h⟩ := h
   replace h := bn h; obtain ⟨h9, h⟩ := h
   replace h := ob h; obtain ⟨r3, h10, h⟩ := h
   replace h10 := zb0m q (M + 7) (by omega) _ _ h10
   try simp only [kf, simprocAttr] at h10
   replace h := br h; rcases h with ⟨h11, h⟩ | ⟨h11, h⟩
   ·cases h; subst hR; simp only [zb0n, simprocAttr, *]
   ·replace h := bb h; rcases h with ⟨h12', h12, h⟩ | ⟨h12', h12, h⟩
    ·cases h; subst hR; simp only [zb0n, simprocAttr, *]
    ·cases h; subst hR; simp only [zb0n, simprocAttr, *]
def zb0p (q : Nat) : Prop := ∀ (M : Nat) (hM : 8 * q ≤ M) (j : Nat) (hj : q ≤ j) (v0z : Bool) (v0l : List zji) (v3 : Int) (r : Bool) (_ : zm5 q v0z v0l v3 = some r) (R : Option (List V)) (_ : some [V.bool r] = R) (fr : Fr) (H : Hp) (_ : canon 0 [0, 3] fr H = ([(0, (.sl v0z (List.map zji.enc v0l))), (3, (.int .i64 v3))], [])), fin z04 (unw T (orc T (M + 7)) (M + 7) 0 [.blk 0, .code z01] (iter 0 [0, 3] (exec T (orc T (M + 7)) (M + 7) 0 z0y) j fr H)) = R
def zb0q := And.intro @kk <| And.intro @ke <| And.intro @kn <| And.intro @zbkt <| @zbkv
theorem zb0r (q : Nat) (zb1o : zb0p q) : zb0p (q + 1) := by
 intro M hM j hj v0z v0l v3 r h R hR fr H hc
 obtain ⟨j, rfl⟩ : ∃ i, j = i + 1 := ⟨j - 1, by omega⟩
 rw [zhj, hc]; clear hc
 rw [zm5] at h
 replace h := br h; rcases h with ⟨h1, h⟩ | ⟨h1, h⟩
 ·replace h := bn h; obtain ⟨h2, h⟩ := h
  replace h := ob h; obtain ⟨e1, h3, h⟩ := h
  replace h := br h; rcases h with ⟨h4, h⟩ | ⟨h4, h⟩
  ·cases h; subst hR; simp only [zb0q, simprocAttr, *]
  ·replace h := br h; rcases h with ⟨h5, h⟩ | ⟨h5, h⟩
   ·cases h; subst hR; simp only [zb0q, simprocAttr, *]
   ·replace h := br h; rcases h with ⟨h6, h⟩ | ⟨h6, h⟩
    ·cases h; subst hR; simp only [zb0q, simprocAttr, *]
    ·replace h := br h; rcases h with ⟨h7, h⟩ | ⟨h7, h⟩
     ·cases h; subst hR; simp only [zb0q, simprocAttr, *]
     ·replace h := br h; rcases h with ⟨h8, h⟩ | ⟨h8, h⟩
      ·cases h; subst hR; simp only [zb0q, simprocAttr, *]
      ·replace h := br h; rcases h with ⟨h9, h⟩ | ⟨h9, h⟩
       ·cases h; subst hR; simp only [zb0q, simprocAttr, *]
       ·replace h := br h; rcases h with ⟨h10, h⟩ | ⟨h10, h⟩
        ·replace h := bn h; obtain ⟨h11, h⟩ := h
         replace h := ob h; obtain ⟨e2, h12, h⟩ := h
         replace h := br h; rcases h with ⟨h13, h⟩ | ⟨h13, h⟩
         ·cases h; subst hR; simp only [zb0q, simprocAttr, *]
         ·replace h := zb1o M (by omega) j (by omega) _ _ _ _ h R hR
          simp only [zb0q, simprocAttr, *]
        ·replace h := zb1o M (by omega) j (by omega) _ _ _ _ h R hR
         simp only [zb0q, simprocAttr, *]
 ·cases h; subst hR; simp only [zb0q, simprocAttr, *]
theorem zb0s : ∀ q, zb0p q
 | 0 => by intro M hM j hj; intros; rename_i h _ _ _ _ _; cases h
 | q + 1 => by have i0 := zb0s q; exact zb0r q i0
theorem zb0t : ∀ (q N : Nat), 8 * q ≤ N → ∀ (a0 : (Sl zji)), ∀ (r : Bool), zm6 q a0 = some r → (orc T N).deep F.zm6 [(Sl.enc zji.enc) a0] = some [V.bool r] := by
 intro q N hM a0 r h
 rcases q with _ | q
 ·cases h
 obtain ⟨M, rfl⟩ : ∃ M, N = M + 8 := ⟨N - 8, by omega⟩
 have zb1o := (zb0s q)
 generalize hR : some [V.bool r] = R
 rw [zhs, zbfn, y5, zhq]
 rw [zm6] at h
 replace h := zb1o M (by omega) (M + 7) (by omega) _ _ _ _ h R hR
 simp only [zb0q, simprocAttr, *]
def zb0u := And.intro @kk <| And.intro @ke <| And.intro @kn <| And.intro @zbiq <| And.intro @zbkr <| And.intro @zbku <| @zbis
theorem zb0v : ∀ (q N : Nat), 8 * q ≤ N → ∀ (a0 : zjj), ∀ (r : Bool), zm7 q a0 = some r → (orc T N).deep F.zm7 [zjj.enc a0] = some [V.bool r] := by
 intro q N hM a0 r h
 rcases q with _ | q
 ·cases h
 obtain ⟨M, rfl⟩ : ∃ M, N = M + 8 := ⟨N - 8, by omega⟩
 generalize hR : some [V.bool r] = R
 rw [zhs, zbey, y5, zhq]
 rw [zm7] at h
 replace h := ob h; obtain ⟨r1, h1, h⟩ := h
 replace h1 := zb0a q (M + 7) (by omega) _ _ h1
 try simp only [kf, simprocAttr] at h1
 replace h := ob h; obtain ⟨r2, h2, h⟩ := h
 replace h2 := zb0t q (M + 7) (by omega) _ _ h2
 try simp only [kf, simprocAttr] at h2
 replace h := bb h; rcases h with ⟨h3', h3, h⟩ | ⟨h3', h3, h⟩
 ·replace h := bb h; rcases h with ⟨h4', h4, h⟩ | ⟨h4', h4, h⟩
  ·replace h := br h; rcases h with ⟨h5, h⟩ | ⟨h5, h⟩
   ·cases h; subst hR; simp only [zb0u, simprocAttr, *]
   ·cases h; subst hR; simp only [zb0u, simprocAttr, *]
  ·cases h; subst hR; simp only [zb0u, simprocAttr, *]
 ·cases h; subst hR; simp only [zb0u, simprocAttr, *]
def zb0w (q : Nat) : Prop := ∀ (M : Nat) (hM : 8 * q ≤ M) (j : Nat) (hj : q ≤ j) (v7 v8 v9 v12 : Int) (h2z : Bool) (h2l : List (Sl Int)) (h2x h3z : Bool) (h3l : List Int) (r : zjj × Int) (_ : zm8 q v7 v8 v9 v12 h2z h2l h2x h3z h3l = some r) (R : Option (List V)) (_ : some [zjj.enc r.1, (V.int .i64) r.2] = R) (fr : Fr) (H : Hp) (_ : canon 0 [2, 4, 5, 7, 8, 9, 11, 12] fr H = ([(2, (.ptr 0 0)), (4, (.ptr 1 0)), (5, (.vw 2 0 0 h2l.length 1)), (7, (.int .i64 v7)), (8, (.int .i64 v8)), (9, (.int .u64 v9)), (11, (.vw 3 0 0 h3l.length 1)), (12, (.int .i64 v12))], [(.box [(.int .i64 0), (.int .i64 0), (.sl true []), (.bool false), (.int .i64 0), (.sl true [])]), (.box [(.int .i64 0), (.int .i64 0), (.sl true []), (.bool false), (.int .i64 0), (.sl true [])]), (.row 0 h2z 1 (List.map (Sl.enc (V.int .u8)) h2l) h2x), (.row 0 h3z 1 (List.map (V.int .u8) h3l) true)])), fin zn0 (unw T (orc T (M + 7)) (M + 7) 0 [.blk 0, .code c_6_53] (iter 0 [2, 4, 5, 7, 8, 9, 11, 12] (exec T (orc T (M + 7)) (M + 7) 0 c_6_22) j fr H)) = R
def zb0x := And.intro @kk <| And.intro @ke <| And.intro @kn <| And.intro @zbhe <| And.intro @zbic <| And.intro @zbif <| And.intro @zbii <| And.intro @zbil <| And.intro @zbio <| And.intro @zbir <| @zbhg
theorem zb0y (q : Nat) (zb1p : zb0w q) : zb0w (q + 1) := by
 intro M hM j hj v7 v8 v9 v12 h2z h2l h2x h3z h3l r h R hR fr H hc
 obtain ⟨j, rfl⟩ : ∃ i, j = i + 1 := ⟨j - 1, by omega⟩
 rw [zhj, hc]; clear hc
 rw [zm8] at h
 replace h := br h; rcases h with ⟨h1, h⟩ | ⟨h1, h⟩
 ·replace h := bn h; obtain ⟨h2, h⟩ := h
  replace h := bn h; obtain ⟨h3, h⟩ := h
  replace h := ob h; obtain ⟨e4, h4, h⟩ := h
  replace h := bn h; obtain ⟨h5, h⟩ := h
  replace h := zb1p M (by omega) j (by omega) _ _ _ _ _ _ _ _ _ _ h R hR
  simp only [zb0x, simprocAttr, *]
 ·replace h := br h; rcases h with ⟨h6, h⟩ | ⟨h6, h⟩
  ·replace h := bn h; obtain ⟨h7, h⟩ := h
   replace h := ob h; obtain ⟨r5, h8, h⟩ := h
   replace h8 := zbzu q (M + 7) (by omega) _ _ h8
   try simp only [kf, simprocAttr] at h8
   replace h := bb h; rcases h with ⟨h9', h9, h⟩ | ⟨h9', h9, h⟩
   ·replace h := ob h; obtain ⟨r6, h10, h⟩ := h
    replace h10 := zby9 q (M + 7) (by omega) _ _ h10
    try simp only [kf, simprocAttr] at h10
    replace h := br h; rcases h with ⟨h11, h⟩ | ⟨h11, h⟩
    ·replace h := ob h; obtain ⟨r7, h12, h⟩ := h
     replace h12 := zb0o q (M + 7) (by omega) _ _ h12
     try simp only [kf, simprocAttr] at h12
     replace h := br h; rcases h with ⟨h13, h⟩ | ⟨h13, h⟩
     ·replace h := ob h; obtain ⟨r8, h14, h⟩ := h
      replace h14 := zb0v q (M + 7) (by omega) _ _ h14
      try simp only [kf, simprocAttr] at h14
      replace h := bb h; rcases h with ⟨h15', h15, h⟩ | ⟨h15', h15, h⟩
      ·cases h; subst hR; simp only [zb0x, simprocAttr, *]
      ·cases h; subst hR; simp only [zb0x, simprocAttr, *]
     ·cases h; subst hR; simp only [zb0x, simprocAttr, *]
    ·cases h; subst hR; simp only [zb0x, simprocAttr, *]
   ·cases h; subst hR; simp only [zb0x, simprocAttr, *]
  ·cases h; subst hR; simp only [zb0x, simprocAttr, *]
theorem zb0z : ∀ q, zb0w q
 | 0 => by intro M hM j hj; intros; rename_i h _ _ _ _ _; cases h
 | q + 1 => by have i0 := zb0z q; exact zb0y q i0
theorem zb00 : ∀ (q N : Nat), 8 * q ≤ N → ∀ (a0 : (Sl Int)), ∀ (r : zjj × Int), zm9 q a0 = some r → (orc T N).deep F.zm9 [(Sl.enc (V.int .u8)) a0] = some [zjj.enc r.1, (V.int .i64) r.2] := by
 intro q N hM a0 r h
 rcases q with _ | q
 ·cases h
 obtain ⟨M, rfl⟩ : ∃ M, N = M + 8 := ⟨N - 8, by omega⟩
 have zb1p := (zb0z q)
 generalize hR : some [zjj.enc r.1, (V.int .i64) r.2] = R
 rw [zhs, zbei, y5, zhq]
 rw [zm9] at h
 replace h := ob h; obtain ⟨r1, h1, h⟩ := h
 replace h1 := zbzn q (M + 7) (by omega) _ _ h1
 try simp only [kf, simprocAttr] at h1
 replace h := br h; rcases h with ⟨h2, h⟩ | ⟨h2, h⟩
 ·replace h := br h; rcases h with ⟨h3, h⟩ | ⟨h3, h⟩
  ·cases h; subst hR; simp only [zb0x, simprocAttr, *]
  ·replace h := bn h; obtain ⟨h4, h⟩ := h
   replace h := ob h; obtain ⟨e2, h5, h⟩ := h
   replace h := ob h; obtain ⟨r3, h6, h⟩ := h
   replace h6 := zbzp q (M + 7) (by omega) _ _ h6
   try simp only [kf, simprocAttr] at h6
   replace h := br h; rcases h with ⟨h7, h⟩ | ⟨h7, h⟩
   ·replace h := zb1p M (by omega) (M + 7) (by omega) _ _ _ _ _ _ _ _ _ _ h R hR
    simp only [zb0x, simprocAttr, *]
   ·cases h; subst hR; simp only [zb0x, simprocAttr, *]
 ·cases h; subst hR; simp only [zb0x, simprocAttr, *]
def zb01 (q : Nat) : Prop := ∀ (M : Nat) (hM : 8 * q ≤ M) (j : Nat) (hj : q ≤ j) (v5 h0_0 : Int) (h0_1z : Bool) (h0_1l : List Int) (h0_2 : Bool) (h0_3 h1_0 : Int) (h1_1z : Bool) (h1_1l : List Int) (h1_2 : Bool) (h1_3 : Int) (r : Bool) (_ : zna q v5 h0_0 h0_1z h0_1l h0_2 h0_3 h1_0 h1_1z h1_1l h1_2 h1_3 = some r) (R : Option (List V)) (_ : some [V.bool r] = R) (fr : Fr) (H : Hp) (_ : canon 0 [2, 3, 5] fr H = ([(2, (.ptr 0 0)), (3, (.ptr 1 0)), (5, (.int .i64 v5))], [(.box [(.int .i64 h0_0), (.sl h0_1z (List.map (V.int .i64) h0_1l)), (.bool h0_2), (.int .i64 h0_3)]), (.box [(.int .i64 h1_0), (.sl h1_1z (List.map (V.int .i64) h1_1l)), (.bool h1_2), (.int .i64 h1_3)])])), fin zsv (unw T (orc T (M + 7)) (M + 7) 0 [.blk 0, .code zsr] (iter 0 [2, 3, 5] (exec T (orc T (M + 7)) (M + 7) 0 zso) j fr H)) = R
def zb02 := And.intro @kk <| And.intro @ke <| And.intro @kn <| And.intro @zbit <| @zbiv
theorem zb03 (q : Nat) (zb1q : zb01 q) : zb01 (q + 1) := by
 intro M hM j hj v5 h0_0 h0_1z h0_1l h0_2 h0_3 h1_0 h1_1z h1_1l h1_2 h1_3 r h R hR fr H hc
 obtain ⟨j, rfl⟩ : ∃ i, j = i + 1 := ⟨j - 1, by omega⟩
 rw [zhj, hc]; clear hc
 rw [zna] at h
 replace h := br h; rcases h with ⟨h1, h⟩ | ⟨h1, h⟩
 ·replace h := bn h; obtain ⟨h2, h⟩ := h
  replace h := ob h; obtain ⟨e1, h3, h⟩ := h
  replace h := ob h; obtain ⟨e2, h4, h⟩ := h
  replace h := br h; rcases h with ⟨h5, h⟩ | ⟨h5, h⟩
  ·replace h := zb1q M (by omega) j (by omega) _ _ _ _ _ _ _ _ _ _ _ _ h R hR
   simp only [zb02, simprocAttr, *]
  ·cases h; subst hR; simp only [zb02, simprocAttr, *]
 ·cases h; subst hR; simp only [zb02, simprocAttr, *]
theorem zb04 : ∀ q, zb01 q
 | 0 => by intro M hM j hj; intros; rename_i h _ _ _ _ _; cases h
 | q + 1 => by have i0 := zb04 q; exact zb03 q i0
theorem zb05 : ∀ (q N : Nat), 8 * q ≤ N → ∀ (a0 a1 : zjh), ∀ (r : Bool), znb q a0 a1 = some r → (orc T N).deep F.znb [zjh.enc a0, zjh.enc a1] = some [V.bool r] := by
 intro q N hM a0 a1 r h
 rcases q with _ | q
 ·cases h
 obtain ⟨M, rfl⟩ : ∃ M, N = M + 8 := ⟨N - 8, by omega⟩
 have zb1q := (zb04 q)
 generalize hR : some [V.bool r] = R
 rw [zhs, zbez, y5, zhq]
 rw [znb] at h
 replace h := br h; rcases h with ⟨h1, h⟩ | ⟨h1, h⟩
 ·replace h := bb h; rcases h with ⟨h2', h2, h⟩ | ⟨h2', h2, h⟩
  ·replace h := br h; rcases h with ⟨h3, h⟩ | ⟨h3, h⟩
   ·replace h := br h; rcases h with ⟨h4, h⟩ | ⟨h4, h⟩
    ·replace h := zb1q M (by omega) (M + 7) (by omega) _ _ _ _ _ _ _ _ _ _ _ _ h R hR
     simp only [zb02, simprocAttr, *]
    ·cases h; subst hR; simp only [zb02, simprocAttr, *]
   ·cases h; subst hR; simp only [zb02, simprocAttr, *]
  ·cases h; subst hR; simp only [zb02, simprocAttr, *]
 ·cases h; subst hR; simp only [zb02, simprocAttr, *]
end Go.Dvm.C
