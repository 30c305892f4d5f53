/- The machine comes to these answers: part 3. -/
import Derived.Test.YtngajodhbioheaaQl0
import Derived.Test.YtngajodhbioheaaQr0
import Derived.Test.YtngajodhbioheaaQr1
set_option linter.all false
set_option maxRecDepth 100000
set_option maxHeartbeats 4000000
namespace Go.Dvm.C
open Go Go.Dvm Go.Dvm.I
def zb8f (q : Nat) : Prop := ∀ (M : Nat) (hM : 8 * q ≤ M) (j : Nat) (hj : q ≤ j) (w0 : Nat) (v1 : Int) (h0z : Bool) (h0l : List Int) (h0x : Bool) (r : (Ow Int)) (_ : znd q v1 h0z h0l h0x = some r) (R : Option (List V)) (_ : some [(Ow.enc 1 (V.int .u8)) r] = R) (fr : Fr) (H : Hp) (_ : canon 1 [0, 1] fr H = ([(0, (.vw 0 w0 0 h0l.length 1)), (1, (.int .u64 v1))], [(.row w0 h0z 1 (List.map (V.int .u8) h0l) h0x)])), fin z95 (unw T (orc T (M + 7)) (M + 7) 1 [.blk 0, .code z92] (iter 1 [0, 1] (exec T (orc T (M + 7)) (M + 7) 1 z90) j fr H)) = R
def zb8g := And.intro @kk <| And.intro @ke <| And.intro @kn <| And.intro @zbto <| @zbtq
theorem zb8h (q : Nat) (zcbz : zb8f q) : zb8f (q + 1) := by
 intro M hM j hj w0 v1 h0z h0l h0x r h R hR fr H hc
 obtain ⟨j, rfl⟩ : ∃ i, j = i + 1 := ⟨j - 1, by omega⟩
 rw [zhn, hc]; clear hc
 rw [znd] at h
 replace h := br h; rcases h with ⟨h1, h⟩ | ⟨h1, h⟩
 ·replace h := bn h; obtain ⟨h2, h⟩ := h
  replace h := zcbz M (by omega) j (by omega) (w0 + 1) _ _ _ _ _ h R hR
  simp only [zb8g, simprocAttr, *]
 ·replace h := bn h; obtain ⟨h3, h⟩ := h
  cases h; subst hR; simp only [zb8g, simprocAttr, *]
theorem zb8i : ∀ q, zb8f q
 | 0 => by intro M hM j hj; intros; rename_i h _ _ _ _ _; cases h
 | q + 1 => by have i0 := zb8i q; exact zb8h q i0
theorem zb8j : ∀ (q N : Nat), 8 * q ≤ N → ∀ (a0 : (Ow Int)) (a1 : Int), ∀ (r : (Ow Int)), zne q a0 a1 = some r → (orc T N).deep F.zne [(Ow.enc 1 (V.int .u8)) a0, (V.int .u64) a1] = some [(Ow.enc 1 (V.int .u8)) r] := by
 intro q N hM a0 a1 r h
 rcases q with _ | q
 ·cases h
 obtain ⟨M, rfl⟩ : ∃ M, N = M + 8 := ⟨N - 8, by omega⟩
 have zcbz := (zb8i q)
 generalize hR : some [(Ow.enc 1 (V.int .u8)) r] = R
 rw [zhx, zbm8, y8, zhv z95 rfl]
 rw [zne] at h
 replace h := zcbz M (by omega) (M + 7) (by omega) 0 _ _ _ _ _ h R hR
 simp only [zb8g, simprocAttr, *]
def zb8k := And.intro @kk <| And.intro @ke <| And.intro @kn <| And.intro @zbrr <| And.intro @zbtp <| @zbrt
theorem zb8l : ∀ (q N : Nat), 8 * q ≤ N → ∀ (a0 : (Ow Int)) (a1 : Int), ∀ (r : (Ow Int)), znf q a0 a1 = some r → (orc T N).deep F.znf [(Ow.enc 1 (V.int .u8)) a0, (V.int .i64) a1] = some [(Ow.enc 1 (V.int .u8)) r] := by
 intro q N hM a0 a1 r h
 rcases q with _ | q
 ·cases h
 obtain ⟨M, rfl⟩ : ∃ M, N = M + 8 := ⟨N - 8, by omega⟩
 generalize hR : some [(Ow.enc 1 (V.int .u8)) r] = R
 rw [zhx, zbml, y8, zhv z4t rfl]
 rw [znf] at h
 replace h := br h; rcases h with ⟨h1, h⟩ | ⟨h1, h⟩
 ·cases h; subst hR; simp only [zb8k, simprocAttr, *]
 ·replace h := br h; rcases h with ⟨h2, h⟩ | ⟨h2, h⟩
  ·cases h; subst hR; simp only [zb8k, simprocAttr, *]
  ·replace h := ob h; obtain ⟨r1, h3, h⟩ := h
   replace h3 := zb8j q (M + 7) (by omega) _ _ _ h3
   try simp only [kf, simprocAttr] at h3
   cases h; subst hR; simp only [zb8k, simprocAttr, *]
def zb8m (q : Nat) : Prop := ∀ (M : Nat) (hM : 8 * q ≤ M) (j : Nat) (hj : q ≤ j) (w0 : Nat) (v7z : Bool) (v7l : List Int) (v8 : Int) (h0z : Bool) (h0l : List Int) (h0x : Bool) (r : (Ow Int)) (_ : znh q v7z v7l v8 h0z h0l h0x = some r) (R : Option (List V)) (_ : some [(Ow.enc 1 (V.int .u8)) r] = R) (fr : Fr) (H : Hp) (_ : canon 1 [0, 7, 8, 9] fr H = ([(0, (.vw 0 w0 0 h0l.length 1)), (7, (.sl v7z (List.map (V.int .i64) v7l))), (8, (.int .i64 v8)), (9, (.int .i64 0))], [(.row w0 h0z 1 (List.map (V.int .u8) h0l) h0x)])), fin zz2 (unw T (orc T (M + 7)) (M + 7) 1 [.blk 0, .code zzz] (iter 1 [0, 7, 8, 9] (exec T (orc T (M + 7)) (M + 7) 1 zzw) j fr H)) = R
def zb8n (q : Nat) : Prop := ∀ (M : Nat) (hM : 8 * q ≤ M) (j : Nat) (hj : q ≤ j) (v7z : Bool) (v7l : List Int) (v8 v9 : Int) (h1z : Bool) (h1l : List Int) (h1x : Bool) (r : (Ow Int)) (_ : zng q v7z v7l v8 v9 h1z h1l h1x = some r) (R : Option (List V)) (_ : some [(Ow.enc 1 (V.int .u8)) r] = R) (fr : Fr) (H : Hp) (_ : canon 1 [0, 7, 8, 9] fr H = ([(0, (.vw 1 0 0 h1l.length 1)), (7, (.sl v7z (List.map (V.int .i64) v7l))), (8, (.int .i64 v8)), (9, (.int .i64 v9))], [.dead, (.row 0 h1z 1 (List.map (V.int .u8) h1l) h1x)])), fin zz2 (unw T (orc T (M + 7)) (M + 7) 1 [.blk 0, .code zzz] (iter 1 [0, 7, 8, 9] (exec T (orc T (M + 7)) (M + 7) 1 zzw) j fr H)) = R
def zb8o := And.intro @kk <| And.intro @ke <| And.intro @kn <| And.intro @zbqg <| And.intro @zbrs <| @zbqi
theorem zb8p (q : Nat) (zcb0 : zb8n q) : zb8m (q + 1) := by
 intro M hM j hj w0 v7z v7l v8 h0z h0l h0x r h R hR fr H hc
 obtain ⟨j, rfl⟩ : ∃ i, j = i + 1 := ⟨j - 1, by omega⟩
 rw [zhn, hc]; clear hc
 rw [znh] at h
 replace h := br h; rcases h with ⟨h1, h⟩ | ⟨h1, h⟩
 ·replace h := ob h; obtain ⟨e1, h2, h⟩ := h
  replace h := ob h; obtain ⟨r2, h3, h⟩ := h
  replace h3 := zb8l q (M + 7) (by omega) _ _ _ h3
  try simp only [kf, simprocAttr] at h3
  replace h := zcb0 M (by omega) j (by omega) _ _ _ _ _ _ _ _ h R hR
  simp only [zb8o, simprocAttr, *]
 ·cases h; subst hR; simp only [zb8o, simprocAttr, *]
theorem zb8q (q : Nat) (zcb0 : zb8n q) : zb8n (q + 1) := by
 intro M hM j hj v7z v7l v8 v9 h1z h1l h1x r h R hR fr H hc
 obtain ⟨j, rfl⟩ : ∃ i, j = i + 1 := ⟨j - 1, by omega⟩
 rw [zhn, hc]; clear hc
 rw [zng] at h
 replace h := br h; rcases h with ⟨h1, h⟩ | ⟨h1, h⟩
 ·replace h := bn h; obtain ⟨h2, h⟩ := h
  replace h := ob h; obtain ⟨e3, h3, h⟩ := h
  replace h := ob h; obtain ⟨r4, h4, h⟩ := h
  replace h4 := zb8l q (M + 7) (by omega) _ _ _ h4
  try simp only [kf, simprocAttr] at h4
  replace h := zcb0 M (by omega) j (by omega) _ _ _ _ _ _ _ _ h R hR
  simp only [zb8o, simprocAttr, *]
 ·cases h; subst hR; simp only [zb8o, simprocAttr, *]
theorem zb8r : ∀ q, zb8m q ∧ zb8n q
 | 0 => by refine ⟨?_, ?_⟩ <;> (intro M hM j hj; intros; rename_i h _ _ _ _ _; cases h)
 | q + 1 => by have ⟨i0, i1⟩ := zb8r q; exact ⟨zb8p q i1, zb8q q i1⟩
theorem zb8s : ∀ (q N : Nat), 8 * q ≤ N → ∀ (a0 : (Ow Int)) (a1 : (Sl Int)), ∀ (r : (Ow Int)), zni q a0 a1 = some r → (orc T N).deep F.zni [(Ow.enc 1 (V.int .u8)) a0, (Sl.enc (V.int .i64)) a1] = some [(Ow.enc 1 (V.int .u8)) r] := by
 intro q N hM a0 a1 r h
 rcases q with _ | q
 ·cases h
 obtain ⟨M, rfl⟩ : ∃ M, N = M + 8 := ⟨N - 8, by omega⟩
 have ih_delta_puts_l0 := (zb8r q).1
 generalize hR : some [(Ow.enc 1 (V.int .u8)) r] = R
 rw [zhx, zbl5, y8, zhv zz2 rfl]
 rw [zni] at h
 replace h := ih_delta_puts_l0 M (by omega) (M + 7) (by omega) 0 _ _ _ _ _ _ _ h R hR
 simp only [zb8o, simprocAttr, *]
def zb8t := And.intro @kk <| And.intro @ke <| And.intro @kn <| And.intro @zbtr <| @zbtt
theorem zb8u : ∀ (q N : Nat), 8 * q ≤ N → ∀ (a0 r : Int), znj q a0 = some r → (orc T N).deep F.znj [(V.int .i64) a0] = some [(V.int .u64) r] := by
 intro q N hM a0 r h
 rcases q with _ | q
 ·cases h
 obtain ⟨M, rfl⟩ : ∃ M, N = M + 8 := ⟨N - 8, by omega⟩
 generalize hR : some [(V.int .u64) r] = R
 rw [zhx, zbm9, y8, zhv zbaa rfl]
 rw [znj] at h
 cases h; subst hR; simp only [zb8t, simprocAttr, *]
def zb8v := And.intro @kk <| And.intro @ke <| And.intro @kn <| And.intro @zbqj <| And.intro @zbtp <| And.intro @zbts <| @zbql
theorem zb8w : ∀ (q N : Nat), 8 * q ≤ N → ∀ (a0 : (Ow Int)) (a1 : Int), ∀ (r : (Ow Int)), znk q a0 a1 = some r → (orc T N).deep F.znk [(Ow.enc 1 (V.int .u8)) a0, (V.int .i64) a1] = some [(Ow.enc 1 (V.int .u8)) r] := by
 intro q N hM a0 a1 r h
 rcases q with _ | q
 ·cases h
 obtain ⟨M, rfl⟩ : ∃ M, N = M + 8 := ⟨N - 8, by omega⟩
 generalize hR : some [(Ow.enc 1 (V.int .u8)) r] = R
 rw [zhx, zbl6, y8, zhv zz4 rfl]
 rw [znk] at h
 replace h := ob h; obtain ⟨r1, h1, h⟩ := h
 replace h1 := zb8u q (M + 7) (by omega) _ _ h1
 replace h := ob h; obtain ⟨r2, h2, h⟩ := h
 replace h2 := zb8j q (M + 7) (by omega) _ _ _ h2
 try simp only [kf, simprocAttr] at h2
 cases h; subst hR; simp only [zb8v, simprocAttr, *]
def zb8x (q : Nat) : Prop := ∀ (M : Nat) (hM : 8 * q ≤ M) (j : Nat) (hj : q ≤ j) (v0z : Bool) (v0l : List (Sl Int)) (v3 : Int) (v9z : Bool) (v9l : List (Sl Int)) (v10 v11 : Int) (r : (Ow Int)) (_ : zno q v0z v0l v3 v9z v9l v10 v11 = some r) (R : Option (List V)) (_ : some [(Ow.enc 1 (V.int .u8)) r] = R) (fr : Fr) (H : Hp) (_ : canon 0 [0, 3, 9, 10, 11] fr H = ([(0, (.sl v0z (List.map (Sl.enc (V.int .u8)) v0l))), (3, (.int .i64 v3)), (9, (.sl v9z (List.map (Sl.enc (V.int .u8)) v9l))), (10, (.int .i64 v10)), (11, (.int .i64 v11))], [])), fin z50 (unw T (orc T (M + 7)) (M + 7) 0 [.blk 0, .code z5w] (iter 0 [0, 3, 9, 10, 11] (exec T (orc T (M + 7)) (M + 7) 0 z5f) j fr H)) = R
def zb8y (q : Nat) : Prop := ∀ (M : Nat) (hM : 8 * q ≤ M) (j : Nat) (hj : q ≤ j) (v6len : Nat) (v25z : Bool) (v25l : List (Sl Int)) (v26 v27 : Int) (h0z : Bool) (h0l : List Int) (r : (Ow Int)) (_ : znl q v6len v25z v25l v26 v27 h0z h0l = some r) (R : Option (List V)) (_ : some [(Ow.enc 1 (V.int .u8)) r] = R) (fr : Fr) (H : Hp) (_ : canon 0 [6, 25, 26, 27] fr H = ([(6, (.vw 0 0 0 v6len 0)), (25, (.sl v25z (List.map (Sl.enc (V.int .u8)) v25l))), (26, (.int .i64 v26)), (27, (.int .i64 v27))], [(.row 0 h0z 1 (List.map (V.int .u8) h0l) true)])), fin z50 (unw T (orc T (M + 7)) (M + 7) 0 [.blk 2, .code z5u] (iter 0 [6, 25, 26, 27] (exec T (orc T (M + 7)) (M + 7) 0 z5r) j fr H)) = R
def zb8z (q : Nat) : Prop := ∀ (M : Nat) (hM : 8 * q ≤ M) (j : Nat) (hj : q ≤ j) (v25z : Bool) (v25l : List (Sl Int)) (v26 : Int) (r : (Ow Int)) (_ : znn q v25z v25l v26 = some r) (R : Option (List V)) (_ : some [(Ow.enc 1 (V.int .u8)) r] = R) (fr : Fr) (H : Hp) (_ : canon 0 [6, 25, 26, 27] fr H = ([(6, (.sl true [])), (25, (.sl v25z (List.map (Sl.enc (V.int .u8)) v25l))), (26, (.int .i64 v26)), (27, (.int .i64 0))], [])), fin z50 (unw T (orc T (M + 7)) (M + 7) 0 [.blk 2, .code z5u] (iter 0 [6, 25, 26, 27] (exec T (orc T (M + 7)) (M + 7) 0 z5r) j fr H)) = R
def zb80 (q : Nat) : Prop := ∀ (M : Nat) (hM : 8 * q ≤ M) (j : Nat) (hj : q ≤ j) (v25z : Bool) (v25l : List (Sl Int)) (v26 v27 : Int) (h0z : Bool) (h0l : List Int) (r : (Ow Int)) (_ : znm q v25z v25l v26 v27 h0z h0l = some r) (R : Option (List V)) (_ : some [(Ow.enc 1 (V.int .u8)) r] = R) (fr : Fr) (H : Hp) (_ : canon 0 [6, 25, 26, 27] fr H = ([(6, (.vw 0 0 0 h0l.length 1)), (25, (.sl v25z (List.map (Sl.enc (V.int .u8)) v25l))), (26, (.int .i64 v26)), (27, (.int .i64 v27))], [(.row 0 h0z 1 (List.map (V.int .u8) h0l) true)])), fin z50 (unw T (orc T (M + 7)) (M + 7) 0 [.blk 2, .code z5u] (iter 0 [6, 25, 26, 27] (exec T (orc T (M + 7)) (M + 7) 0 z5r) j fr H)) = R
def zb81 := And.intro @kk <| And.intro @ke <| And.intro @kn <| And.intro @zbr6 <| And.intro @zbur <| And.intro @zbus <| And.intro @zbut <| @zbr8
theorem zb82 (q : Nat) (zcb1 : zb8x q) (zcb2 : zb8y q) (zcb3 : zb8z q) : zb8x (q + 1) := by
 intro M hM j hj v0z v0l v3 v9z v9l v10 v11 r h R hR fr H hc
 obtain ⟨j, rfl⟩ : ∃ i, j = i + 1 := ⟨j - 1, by omega⟩
 rw [zhn, hc]; clear hc
 rw [zno] at h
 replace h := br h; rcases h with ⟨h1, h⟩ | ⟨h1, h⟩
 ·replace h := bn h; obtain ⟨h2, h⟩ := h
  replace h := ob h; obtain ⟨e1, h3, h⟩ := h
  replace h := bm h; obtain ⟨h4, h⟩ := h
  replace h := zcb1 M (by omega) j (by omega) _ _ _ _ _ _ _ _ h R hR
  simp only [zb81, simprocAttr, *]
 ·replace h := bm h; obtain ⟨h5, h⟩ := h
  replace h := br h; rcases h with ⟨h6, h⟩ | ⟨h6, h⟩
  ·replace h := bn h; obtain ⟨h7, h⟩ := h
   replace h := bn h; obtain ⟨h8, h⟩ := h
   replace h := bm h; obtain ⟨h9, h⟩ := h
   replace h := zcb2 M (by omega) (M + 7) (by omega) _ _ _ _ _ _ _ _ h R hR
   simp only [zb81, simprocAttr, *]
  ·replace h := zcb3 M (by omega) (M + 7) (by omega) _ _ _ _ h R hR
   simp only [zb81, simprocAttr, *]
theorem zb83 (q : Nat) (zcb2 : zb8y q) : zb8y (q + 1) := by
 intro M hM j hj v6len v25z v25l v26 v27 h0z h0l r h R hR fr H hc
 obtain ⟨j, rfl⟩ : ∃ i, j = i + 1 := ⟨j - 1, by omega⟩
 rw [zhn, hc]; clear hc
 rw [znl] at h
 replace h := br h; rcases h with ⟨h1, h⟩ | ⟨h1, h⟩
 ·replace h := bn h; obtain ⟨h2, h⟩ := h
  replace h := ob h; obtain ⟨e2, h3, h⟩ := h
  replace h := bn h; obtain ⟨h4, h⟩ := h
  replace h := zcb2 M (by omega) j (by omega) _ _ _ _ _ _ _ _ h R hR
  simp only [zb81, simprocAttr, *]
 ·cases h; subst hR; simp only [zb81, simprocAttr, *]
theorem zb84 (q : Nat) (zcb4 : zb80 q) : zb8z (q + 1) := by
 intro M hM j hj v25z v25l v26 r h R hR fr H hc
 obtain ⟨j, rfl⟩ : ∃ i, j = i + 1 := ⟨j - 1, by omega⟩
 rw [zhn, hc]; clear hc
 rw [znn] at h
 replace h := br h; rcases h with ⟨h1, h⟩ | ⟨h1, h⟩
 ·replace h := ob h; obtain ⟨e3, h2, h⟩ := h
  replace h := bn h; obtain ⟨h3, h⟩ := h
  replace h := zcb4 M (by omega) j (by omega) _ _ _ _ _ _ _ h R hR
  simp only [zb81, simprocAttr, *]
 ·cases h; subst hR; simp only [zb81, simprocAttr, *]
theorem zb85 (q : Nat) (zcb4 : zb80 q) : zb80 (q + 1) := by
 intro M hM j hj v25z v25l v26 v27 h0z h0l r h R hR fr H hc
 obtain ⟨j, rfl⟩ : ∃ i, j = i + 1 := ⟨j - 1, by omega⟩
 rw [zhn, hc]; clear hc
 rw [znm] at h
 replace h := br h; rcases h with ⟨h1, h⟩ | ⟨h1, h⟩
 ·replace h := bn h; obtain ⟨h2, h⟩ := h
  replace h := ob h; obtain ⟨e4, h3, h⟩ := h
  replace h := bn h; obtain ⟨h4, h⟩ := h
  replace h := zcb4 M (by omega) j (by omega) _ _ _ _ _ _ _ h R hR
  simp only [zb81, simprocAttr, *]
 ·cases h; subst hR; simp only [zb81, simprocAttr, *]
theorem zb86 : ∀ q, zb8x q ∧ zb8y q ∧ zb8z q ∧ zb80 q
 | 0 => by refine ⟨?_, ?_, ?_, ?_⟩ <;> (intro M hM j hj; intros; rename_i h _ _ _ _ _; cases h)
 | q + 1 => by have ⟨i0, i1, i2, i3⟩ := zb86 q; exact ⟨zb82 q i0 i1 i2, zb83 q i1, zb84 q i3, zb85 q i3⟩
theorem zb87 : ∀ (q N : Nat), 8 * q ≤ N → ∀ (a0 : (Sl (Sl Int))), ∀ (r : (Ow Int)), znp q a0 = some r → (orc T N).deep F.znp [(Sl.enc (Sl.enc (V.int .u8))) a0] = some [(Ow.enc 1 (V.int .u8)) r] := by
 intro q N hM a0 r h
 rcases q with _ | q
 ·cases h
 obtain ⟨M, rfl⟩ : ∃ M, N = M + 8 := ⟨N - 8, by omega⟩
 have zcb1 := (zb86 q).1
 generalize hR : some [(Ow.enc 1 (V.int .u8)) r] = R
 rw [zhx, zbmq, y8, zhv z50 rfl]
 rw [znp] at h
 replace h := zcb1 M (by omega) (M + 7) (by omega) _ _ _ _ _ _ _ _ h R hR
 simp only [zb81, simprocAttr, *]
def zb88 := And.intro @kk <| And.intro @ke <| And.intro @kn <| And.intro @zbqm <| And.intro @zbrs <| And.intro @zbr7 <| And.intro @zbs4 <| @zbqo
theorem zb89 : ∀ (q N : Nat), 8 * q ≤ N → ∀ (a0 : (Sl Int)), ∀ (r : (Ow Int) × Int), znq q a0 = some r → (orc T N).deep F.znq [(Sl.enc (V.int .u8)) a0] = some [(Ow.enc 1 (V.int .u8)) r.1, (V.int .i64) r.2] := by
 intro q N hM a0 r h
 rcases q with _ | q
 ·cases h
 obtain ⟨M, rfl⟩ : ∃ M, N = M + 8 := ⟨N - 8, by omega⟩
 generalize hR : some [(Ow.enc 1 (V.int .u8)) r.1, (V.int .i64) r.2] = R
 rw [zhx, zbl7, y8, zhv zz6 rfl]
 rw [znq] at h
 replace h := br h; rcases h with ⟨h1, h⟩ | ⟨h1, h⟩
 ·cases h; subst hR; simp only [zb88, simprocAttr, *]
 ·replace h := ob h; obtain ⟨r1, h2, h⟩ := h
  replace h2 := zb8l q (M + 7) (by omega) _ _ _ h2
  try simp only [kf, simprocAttr] at h2
  replace h := ob h; obtain ⟨r2, h3, h⟩ := h
  replace h3 := zb4a q (M + 7) (by omega) _ _ _ h3
  try simp only [kf, simprocAttr] at h3
  replace h := ob h; obtain ⟨r3, h4, h⟩ := h
  replace h4 := zb87 q (M + 7) (by omega) _ _ h4
  try simp only [kf, simprocAttr] at h4
  cases h; subst hR; simp only [zb88, simprocAttr, *]
def zb9a (q : Nat) : Prop := ∀ (M : Nat) (hM : 8 * q ≤ M) (j : Nat) (hj : q ≤ j) (v27z : Bool) (v27l : List Int) (v28 v29 h0_0 h0_1 h0_2 h0_3 : Int) (h0_4z : Bool) (h0_4l : List Int) (h0_5 : Bool) (h0_6 : Int) (h0_7z : Bool) (h0_7l : List zjq) (h1z : Bool) (h1l : List Int) (h1x : Bool) (r : (Ow Int) × Int) (_ : zns q v27z v27l v28 v29 h0_0 h0_1 h0_2 h0_3 h0_4z h0_4l h0_5 h0_6 h0_7z h0_7l h1z h1l h1x = some r) (R : Option (List V)) (_ : some [(Ow.enc 1 (V.int .u8)) r.1, (V.int .i64) r.2] = R) (fr : Fr) (H : Hp) (_ : canon 0 [1, 4, 27, 28, 29] fr H = ([(1, (.ptr 0 0)), (4, (.vw 1 0 0 h1l.length 1)), (27, (.sl v27z (List.map (V.int .i64) v27l))), (28, (.int .i64 v28)), (29, (.int .i64 v29))], [(.box [(.int .i64 h0_0), (.int .i64 h0_1), (.int .i64 h0_2), (.int .i64 h0_3), (.sl h0_4z (List.map (V.int .i64) h0_4l)), (.bool h0_5), (.int .i64 h0_6), (.sl h0_7z (List.map zjq.enc h0_7l))]), (.row 0 h1z 1 (List.map (V.int .u8) h1l) h1x)])), fin ztc (unw T (orc T (M + 7)) (M + 7) 0 [.blk 0, .code zs7] (iter 0 [1, 4, 27, 28, 29] (exec T (orc T (M + 7)) (M + 7) 0 zsk) j fr H)) = R
def zb9b (q : Nat) : Prop := ∀ (M : Nat) (hM : 8 * q ≤ M) (j : Nat) (hj : q ≤ j) (v50z : Bool) (v50l : List zjq) (v51 v52 : Int) (h0z : Bool) (h0l : List Int) (h0x : Bool) (r : (Ow Int) × Int) (_ : znr q v50z v50l v51 v52 h0z h0l h0x = some r) (R : Option (List V)) (_ : some [(Ow.enc 1 (V.int .u8)) r.1, (V.int .i64) r.2] = R) (fr : Fr) (H : Hp) (_ : canon 0 [4, 50, 51, 52] fr H = ([(4, (.vw 0 0 0 h0l.length 1)), (50, (.sl v50z (List.map zjq.enc v50l))), (51, (.int .i64 v51)), (52, (.int .i64 v52))], [(.row 0 h0z 1 (List.map (V.int .u8) h0l) h0x)])), fin ztc (unw T (orc T (M + 7)) (M + 7) 0 [.blk 2, .code zs3] (iter 0 [4, 50, 51, 52] (exec T (orc T (M + 7)) (M + 7) 0 zs0) j fr H)) = R
def zb9c := And.intro @kk <| And.intro @ke <| And.intro @kn <| And.intro @zbop <| And.intro @zbqe <| And.intro @zbqh <| And.intro @zbqk <| And.intro @zbqn <| @zbor
theorem zb9d (q : Nat) (zcb5 : zb9a q) (zcb6 : zb9b q) : zb9a (q + 1) := by
 intro M hM j hj v27z v27l v28 v29 h0_0 h0_1 h0_2 h0_3 h0_4z h0_4l h0_5 h0_6 h0_7z h0_7l h1z h1l h1x r h R hR fr H hc
 obtain ⟨j, rfl⟩ : ∃ i, j = i + 1 := ⟨j - 1, by omega⟩
 rw [zhn, hc]; clear hc
 rw [zns] at h
 replace h := br h; rcases h with ⟨h1, h⟩ | ⟨h1, h⟩
 ·replace h := bn h; obtain ⟨h2, h⟩ := h
  replace h := ob h; obtain ⟨e3, h3, h⟩ := h
  replace h := ob h; obtain ⟨r4, h4, h⟩ := h
  replace h4 := zb8w q (M + 7) (by omega) _ _ _ h4
  try simp only [kf, simprocAttr] at h4
  replace h := zcb5 M (by omega) j (by omega) _ _ _ _ _ _ _ _ _ _ _ _ _ _ _ _ _ _ h R hR
  simp only [zb9c, simprocAttr, *]
 ·replace h := bb h; rcases h with ⟨h5', h5, h⟩ | ⟨h5', h5, h⟩
  ·replace h := ob h; obtain ⟨r5, h6, h⟩ := h
   replace h6 := zb8s q (M + 7) (by omega) _ _ _ h6
   try simp only [kf, simprocAttr] at h6
   replace h := zcb6 M (by omega) (M + 7) (by omega) _ _ _ _ _ _ _ _ h R hR
   simp only [zb9c, simprocAttr, *]
  ·replace h := ob h; obtain ⟨r6, h7, h⟩ := h
   replace h7 := zb8s q (M + 7) (by omega) _ _ _ h7
   try simp only [kf, simprocAttr] at h7
   replace h := zcb6 M (by omega) (M + 7) (by omega) _ _ _ _ _ _ _ _ h R hR
   simp only [zb9c, simprocAttr, *]
theorem zb9e (q : Nat) (zcb6 : zb9b q) : zb9b (q + 1) := by
 intro M hM j hj v50z v50l v51 v52 h0z h0l h0x r h R hR fr H hc
 obtain ⟨j, rfl⟩ : ∃ i, j = i + 1 := ⟨j - 1, by omega⟩
 rw [zhn, hc]; clear hc
 rw [znr] at h
 replace h := br h; rcases h with ⟨h1, h⟩ | ⟨h1, h⟩
 ·replace h := bn h; obtain ⟨h2, h⟩ := h
  replace h := ob h; obtain ⟨e7, h3, h⟩ := h
  replace h := ob h; obtain ⟨r8, h4, h⟩ := h
  replace h4 := zb8s q (M + 7) (by omega) _ _ _ h4
  try simp only [kf, simprocAttr] at h4
  replace h := ob h; obtain ⟨r9, h5, h⟩ := h
  replace h5 := zb8w q (M + 7) (by omega) _ _ _ h5
  try simp only [kf, simprocAttr] at h5
  replace h := zcb6 M (by omega) j (by omega) _ _ _ _ _ _ _ _ h R hR
  simp only [zb9c, simprocAttr, *]
 ·replace h := ob h; obtain ⟨r10, h6, h⟩ := h
  replace h6 := zb89 q (M + 7) (by omega) _ _ h6
  try simp only [kf, simprocAttr] at h6
  cases h; subst hR; simp only [zb9c, simprocAttr, *]
theorem zb9f : ∀ q, zb9a q ∧ zb9b q
 | 0 => by refine ⟨?_, ?_⟩ <;> (intro M hM j hj; intros; rename_i h _ _ _ _ _; cases h)
 | q + 1 => by have ⟨i0, i1⟩ := zb9f q; exact ⟨zb9d q i0 i1, zb9e q i1⟩
theorem zb9g : ∀ (q N : Nat), 8 * q ≤ N → ∀ (a0 : zjs), ∀ (r : (Ow Int) × Int), znt q a0 = some r → (orc T N).deep F.znt [zjs.enc a0] = some [(Ow.enc 1 (V.int .u8)) r.1, (V.int .i64) r.2] := by
 intro q N hM a0 r h
 rcases q with _ | q
 ·cases h
 obtain ⟨M, rfl⟩ : ∃ M, N = M + 8 := ⟨N - 8, by omega⟩
 have zcb5 := (zb9f q).1
 generalize hR : some [(Ow.enc 1 (V.int .u8)) r.1, (V.int .i64) r.2] = R
 rw [zhx, zblk, y8, zhv ztc rfl]
 rw [znt] at h
 replace h := ob h; obtain ⟨r1, h1, h⟩ := h
 replace h1 := zb7m q (M + 7) (by omega) _ _ h1
 try simp only [kf, simprocAttr] at h1
 replace h := bb h; rcases h with ⟨h2', h2, h⟩ | ⟨h2', h2, h⟩
 ·replace h := ob h; obtain ⟨r2, h3, h⟩ := h
  replace h3 := zb8s q (M + 7) (by omega) _ _ _ h3
  try simp only [kf, simprocAttr] at h3
  replace h := zcb5 M (by omega) (M + 7) (by omega) _ _ _ _ _ _ _ _ _ _ _ _ _ _ _ _ _ _ h R hR
  simp only [zb9c, simprocAttr, *]
 ·cases h; subst hR; simp only [zb9c, simprocAttr, *]
def zb9h := And.intro @kk <| And.intro @ke <| And.intro @kn <| And.intro @zbov <| @zbox
theorem zb9i : ∀ (q N : Nat), 8 * q ≤ N → ∀ (a0 : zjs), ∀ (r : Bool), znu q a0 = some r → (orc T N).deep F.znu [zjs.enc a0] = some [V.bool r] := by
 intro q N hM a0 r h
 rcases q with _ | q
 ·cases h
 obtain ⟨M, rfl⟩ : ∃ M, N = M + 8 := ⟨N - 8, by omega⟩
 generalize hR : some [V.bool r] = R
 rw [zhx, zblm, y8, zhv zti rfl]
 rw [znu] at h
 replace h := br h; rcases h with ⟨h1, h⟩ | ⟨h1, h⟩
 ·cases h; subst hR; simp only [zb9h, simprocAttr, *]
 ·cases h; subst hR; simp only [zb9h, simprocAttr, *]
def zb9j := And.intro @kk <| And.intro @ke <| And.intro @kn <| And.intro @zbtu <| @zbtw
theorem zb9k : ∀ (q N : Nat), 8 * q ≤ N → ∀ (a0 : Int), ∀ (r : Bool), znv q a0 = some r → (orc T N).deep F.znv [(V.int .i64) a0] = some [V.bool r] := by
 intro q N hM a0 r h
 rcases q with _ | q
 ·cases h
 obtain ⟨M, rfl⟩ : ∃ M, N = M + 8 := ⟨N - 8, by omega⟩
 generalize hR : some [V.bool r] = R
 rw [zhx, zbna, y8, zhv zbaf rfl]
 rw [znv] at h
 replace h := br h; rcases h with ⟨h1, h⟩ | ⟨h1, h⟩
 ·cases h; subst hR; simp only [zb9j, simprocAttr, *]
 ·cases h; subst hR; simp only [zb9j, simprocAttr, *]
def zb9l (q : Nat) : Prop := ∀ (M : Nat) (hM : 8 * q ≤ M) (j : Nat) (hj : q ≤ j) (v8 h0_0 h0_1 h0_2 h0_3 : Int) (h0_4z : Bool) (h0_4l : List Int) (h0_5 : Bool) (h0_6 : Int) (h0_7z : Bool) (h0_7l : List zjq) (r : Bool) (_ : znw q v8 h0_0 h0_1 h0_2 h0_3 h0_4z h0_4l h0_5 h0_6 h0_7z h0_7l = some r) (R : Option (List V)) (_ : some [V.bool r] = R) (fr : Fr) (H : Hp) (_ : canon 0 [1, 8] fr H = ([(1, (.ptr 0 0)), (8, (.int .i64 v8))], [(.box [(.int .i64 h0_0), (.int .i64 h0_1), (.int .i64 h0_2), (.int .i64 h0_3), (.sl h0_4z (List.map (V.int .i64) h0_4l)), (.bool h0_5), (.int .i64 h0_6), (.sl h0_7z (List.map zjq.enc h0_7l))])])), fin z1t (unw T (orc T (M + 7)) (M + 7) 0 [.blk 0, .code z1k] (iter 0 [1, 8] (exec T (orc T (M + 7)) (M + 7) 0 z1h) j fr H)) = R
def zb9m := And.intro @kk <| And.intro @ke <| And.intro @kn <| And.intro @zbq6 <| And.intro @zbo8 <| And.intro @zbtv <| @zbq8
theorem zb9n (q : Nat) (zcb7 : zb9l q) : zb9l (q + 1) := by
 intro M hM j hj v8 h0_0 h0_1 h0_2 h0_3 h0_4z h0_4l h0_5 h0_6 h0_7z h0_7l r h R hR fr H hc
 obtain ⟨j, rfl⟩ : ∃ i, j = i + 1 := ⟨j - 1, by omega⟩
 rw [zhn, hc]; clear hc
 rw [znw] at h
 replace h := br h; rcases h with ⟨h1, h⟩ | ⟨h1, h⟩
 ·replace h := bn h; obtain ⟨h2, h⟩ := h
  replace h := ob h; obtain ⟨e6, h3, h⟩ := h
  replace h := br h; rcases h with ⟨h4, h⟩ | ⟨h4, h⟩
  ·cases h; subst hR; simp only [zb9m, simprocAttr, *]
  ·replace h := br h; rcases h with ⟨h5, h⟩ | ⟨h5, h⟩
   ·cases h; subst hR; simp only [zb9m, simprocAttr, *]
   ·replace h := zcb7 M (by omega) j (by omega) _ _ _ _ _ _ _ _ _ _ _ _ h R hR
    simp only [zb9m, simprocAttr, *]
 ·cases h; subst hR; simp only [zb9m, simprocAttr, *]
theorem zb9o : ∀ q, zb9l q
 | 0 => by intro M hM j hj; intros; rename_i h _ _ _ _ _; cases h
 | q + 1 => by have i0 := zb9o q; exact zb9n q i0
theorem zb9p : ∀ (q N : Nat), 8 * q ≤ N → ∀ (a0 : zjs), ∀ (r : Bool), znx q a0 = some r → (orc T N).deep F.znx [zjs.enc a0] = some [V.bool r] := by
 intro q N hM a0 r h
 rcases q with _ | q
 ·cases h
 obtain ⟨M, rfl⟩ : ∃ M, N = M + 8 := ⟨N - 8, by omega⟩
 have zcb7 := (zb9o q)
 generalize hR : some [V.bool r] = R
 rw [zhx, zbme, y8, zhv z1t rfl]
 rw [znx] at h
 replace h := ob h; obtain ⟨r1, h1, h⟩ := h
 replace h1 := zb9k q (M + 7) (by omega) _ _ h1
 replace h := ob h; obtain ⟨r2, h2, h⟩ := h
 replace h2 := zb9k q (M + 7) (by omega) _ _ h2
 replace h := ob h; obtain ⟨r3, h3, h⟩ := h
 replace h3 := zb9k q (M + 7) (by omega) _ _ h3
 replace h := ob h; obtain ⟨r4, h4, h⟩ := h
 replace h4 := zb9k q (M + 7) (by omega) _ _ h4
 replace h := ob h; obtain ⟨r5, h5, h⟩ := h
 replace h5 := zb18 q (M + 7) (by omega) _ _ h5
 try simp only [kf, simprocAttr] at h5
 replace h := bb h; rcases h with ⟨h6', h6, h⟩ | ⟨h6', h6, h⟩
 ·replace h := bb h; rcases h with ⟨h7', h7, h⟩ | ⟨h7', h7, h⟩
  ·replace h := bb h; rcases h with ⟨h8', h8, h⟩ | ⟨h8', h8, h⟩
   ·replace h := bb h; rcases h with ⟨h9', h9, h⟩ | ⟨h9', h9, h⟩
    ·replace h := bb h; rcases h with ⟨h10', h10, h⟩ | ⟨h10', h10, h⟩
     ·replace h := br h; rcases h with ⟨h11, h⟩ | ⟨h11, h⟩
      ·cases h; subst hR; simp only [zb9m, simprocAttr, *]
      ·replace h := br h; rcases h with ⟨h12, h⟩ | ⟨h12, h⟩
       ·cases h; subst hR; simp only [zb9m, simprocAttr, *]
       ·replace h := br h; rcases h with ⟨h13, h⟩ | ⟨h13, h⟩
        ·cases h; subst hR; simp only [zb9m, simprocAttr, *]
        ·replace h := bb h; rcases h with ⟨h14', h14, h⟩ | ⟨h14', h14, h⟩
         ·replace h := zcb7 M (by omega) (M + 7) (by omega) _ _ _ _ _ _ _ _ _ _ _ _ h R hR
          simp only [zb9m, simprocAttr, *]
         ·replace h := br h; rcases h with ⟨h15, h⟩ | ⟨h15, h⟩
          ·replace h := zcb7 M (by omega) (M + 7) (by omega) _ _ _ _ _ _ _ _ _ _ _ _ h R hR
           simp only [zb9m, simprocAttr, *]
          ·cases h; subst hR; simp only [zb9m, simprocAttr, *]
     ·cases h; subst hR; simp only [zb9m, simprocAttr, *]
    ·cases h; subst hR; simp only [zb9m, simprocAttr, *]
   ·cases h; subst hR; simp only [zb9m, simprocAttr, *]
  ·cases h; subst hR; simp only [zb9m, simprocAttr, *]
 ·cases h; subst hR; simp only [zb9m, simprocAttr, *]
def zb9q (q : Nat) : Prop := ∀ (M : Nat) (hM : 8 * q ≤ M) (j : Nat) (hj : q ≤ j) (v0 : Int) (h0z : Bool) (h0l : List Int) (r : (Ow Int)) (_ : zny q v0 h0z h0l = some r) (R : Option (List V)) (_ : some [(Ow.enc 1 (V.int .u8)) r] = R) (fr : Fr) (H : Hp) (_ : canon 0 [0, 3] fr H = ([(0, (.int .u64 v0)), (3, (.vw 0 0 0 h0l.length 1))], [(.row 0 h0z 1 (List.map (V.int .u8) h0l) true)])), fin zbau (unw T (orc T (M + 7)) (M + 7) 0 [.blk 0, .code zbaq] (iter 0 [0, 3] (exec T (orc T (M + 7)) (M + 7) 0 zbao) j fr H)) = R
def zb9r := And.intro @kk <| And.intro @ke <| And.intro @kn <| And.intro @zbtx <| @zbtz
theorem zb9s (q : Nat) (zcb8 : zb9q q) : zb9q (q + 1) := by
 intro M hM j hj v0 h0z h0l r h R hR fr H hc
 obtain ⟨j, rfl⟩ : ∃ i, j = i + 1 := ⟨j - 1, by omega⟩
 rw [zhn, hc]; clear hc
 rw [zny] at h
 replace h := br h; rcases h with ⟨h1, h⟩ | ⟨h1, h⟩
 ·replace h := bn h; obtain ⟨h2, h⟩ := h
  replace h := zcb8 M (by omega) j (by omega) _ _ _ _ h R hR
  simp only [zb9r, simprocAttr, *]
 ·replace h := bn h; obtain ⟨h3, h⟩ := h
  cases h; subst hR; simp only [zb9r, simprocAttr, *]
theorem zb9t : ∀ q, zb9q q
 | 0 => by intro M hM j hj; intros; rename_i h _ _ _ _ _; cases h
 | q + 1 => by have i0 := zb9t q; exact zb9s q i0
theorem zb9u : ∀ (q N : Nat), 8 * q ≤ N → ∀ (a0 : Int), ∀ (r : (Ow Int)), znz q a0 = some r → (orc T N).deep F.znz [(V.int .u64) a0] = some [(Ow.enc 1 (V.int .u8)) r] := by
 intro q N hM a0 r h
 rcases q with _ | q
 ·cases h
 obtain ⟨M, rfl⟩ : ∃ M, N = M + 8 := ⟨N - 8, by omega⟩
 have zcb8 := (zb9t q)
 generalize hR : some [(Ow.enc 1 (V.int .u8)) r] = R
 rw [zhx, zbnb, y8, zhv zbau rfl]
 rw [znz] at h
 replace h := zcb8 M (by omega) (M + 7) (by omega) _ _ _ _ h R hR
 simp only [zb9r, simprocAttr, *]
def zb9v := And.intro @kk <| And.intro @ke <| And.intro @kn <| And.intro @zbq9 <| And.intro @zbty <| @zbrb
theorem zb9w : ∀ (q N : Nat), 8 * q ≤ N → ∀ (a0 : (Sl Int)) (a1 : Int), ∀ (r : (Ow Int)), zn0 q a0 a1 = some r → (orc T N).deep F.zn0 [(Sl.enc (V.int .u8)) a0, (V.int .i64) a1] = some [(Ow.enc 1 (V.int .u8)) r] := by
 intro q N hM a0 a1 r h
 rcases q with _ | q
 ·cases h
 obtain ⟨M, rfl⟩ : ∃ M, N = M + 8 := ⟨N - 8, by omega⟩
 generalize hR : some [(Ow.enc 1 (V.int .u8)) r] = R
 rw [zhx, zbmf, y8, zhv z1v rfl]
 rw [zn0] at h
 replace h := bn h; obtain ⟨h1, h⟩ := h
 replace h := br h; rcases h with ⟨h2, h⟩ | ⟨h2, h⟩
 ·cases h; subst hR; simp only [zb9v, simprocAttr, *]
 ·replace h := br h; rcases h with ⟨h3, h⟩ | ⟨h3, h⟩
  ·cases h; subst hR; simp only [zb9v, simprocAttr, *]
  ·replace h := ob h; obtain ⟨r1, h4, h⟩ := h
   replace h4 := zb9u q (M + 7) (by omega) _ _ h4
   try simp only [kf, simprocAttr] at h4
   replace h := bn h; obtain ⟨h5, h⟩ := h
   cases h; subst hR; simp only [zb9v, simprocAttr, *]
def zb9x := And.intro @kk <| And.intro @ke <| And.intro @kn <| And.intro @zbt0 <| @zbt2
theorem zb9y : ∀ (q N : Nat), 8 * q ≤ N → ∀ (a0 r : Int), zn1 q a0 = some r → (orc T N).deep F.zn1 [(V.int .i64) a0] = some [(V.int .u64) r] := by
 intro q N hM a0 r h
 rcases q with _ | q
 ·cases h
 obtain ⟨M, rfl⟩ : ∃ M, N = M + 8 := ⟨N - 8, by omega⟩
 generalize hR : some [(V.int .u64) r] = R
 rw [zhx, zbnc, y8, zhv zba3 rfl]
 rw [zn1] at h
 replace h := br h; rcases h with ⟨h1, h⟩ | ⟨h1, h⟩
 ·cases h; subst hR; simp only [zb9x, simprocAttr, *]
 ·cases h; subst hR; simp only [zb9x, simprocAttr, *]
def zb9z := And.intro @kk <| And.intro @ke <| And.intro @kn <| And.intro @zbrc <| And.intro @zbty <| And.intro @zbt1 <| @zbre
theorem zb90 : ∀ (q N : Nat), 8 * q ≤ N → ∀ (a0 : (Sl Int)) (a1 : Int), ∀ (r : (Ow Int)), zn2 q a0 a1 = some r → (orc T N).deep F.zn2 [(Sl.enc (V.int .u8)) a0, (V.int .i64) a1] = some [(Ow.enc 1 (V.int .u8)) r] := by
 intro q N hM a0 a1 r h
 rcases q with _ | q
 ·cases h
 obtain ⟨M, rfl⟩ : ∃ M, N = M + 8 := ⟨N - 8, by omega⟩
 generalize hR : some [(Ow.enc 1 (V.int .u8)) r] = R
 rw [zhx, zbmg, y8, zhv z1x rfl]
 rw [zn2] at h
 replace h := bn h; obtain ⟨h1, h⟩ := h
 replace h := ob h; obtain ⟨r1, h2, h⟩ := h
 replace h2 := zb9y q (M + 7) (by omega) _ _ h2
 replace h := ob h; obtain ⟨r2, h3, h⟩ := h
 replace h3 := zb9u q (M + 7) (by omega) _ _ h3
 try simp only [kf, simprocAttr] at h3
 replace h := bn h; obtain ⟨h4, h⟩ := h
 cases h; subst hR; simp only [zb9z, simprocAttr, *]
def zb91 (q : Nat) : Prop := ∀ (M : Nat) (hM : 8 * q ≤ M) (j : Nat) (hj : q ≤ j) (v3 v4 r : Int) (_ : zn3 q v3 v4 = some r) (R : Option (List V)) (_ : some [(V.int .u32) r] = R) (fr : Fr) (H : Hp) (_ : canon 0 [3, 4] fr H = ([(3, (.int .u32 v3)), (4, (.int .i64 v4))], [])), fin zbh7 (unw T (orc T (M + 7)) (M + 7) 0 [.blk 0, .code zbh3] (iter 0 [3, 4] (exec T (orc T (M + 7)) (M + 7) 0 zbh0) j fr H)) = R
def zb92 := And.intro @kk <| And.intro @ke <| And.intro @kn <| And.intro @zbvi <| @zbvk
theorem zb93 (q : Nat) (zcb9 : zb91 q) : zb91 (q + 1) := by
 intro M hM j hj v3 v4 r h R hR fr H hc
 obtain ⟨j, rfl⟩ : ∃ i, j = i + 1 := ⟨j - 1, by omega⟩
 rw [zhn, hc]; clear hc
 rw [zn3] at h
 replace h := br h; rcases h with ⟨h1, h⟩ | ⟨h1, h⟩
 ·replace h := br h; rcases h with ⟨h2, h⟩ | ⟨h2, h⟩
  ·replace h := zcb9 M (by omega) j (by omega) _ _ _ h R hR
   simp only [zb92, simprocAttr, *]
  ·replace h := zcb9 M (by omega) j (by omega) _ _ _ h R hR
   simp only [zb92, simprocAttr, *]
 ·cases h; subst hR; simp only [zb92, simprocAttr, *]
theorem zb94 : ∀ q, zb91 q
 | 0 => by intro M hM j hj; intros; rename_i h _ _ _ _ _; cases h
 | q + 1 => by have i0 := zb94 q; exact zb93 q i0
theorem zb95 : ∀ (q N : Nat), 8 * q ≤ N → ∀ (a0 r : Int), zn4 q a0 = some r → (orc T N).deep F.zn4 [(V.int .u8) a0] = some [(V.int .u32) r] := by
 intro q N hM a0 r h
 rcases q with _ | q
 ·cases h
 obtain ⟨M, rfl⟩ : ∃ M, N = M + 8 := ⟨N - 8, by omega⟩
 have zcb9 := (zb94 q)
 generalize hR : some [(V.int .u32) r] = R
 rw [zhx, zbnu, y8, zhv zbh7 rfl]
 rw [zn4] at h
 replace h := zcb9 M (by omega) (M + 7) (by omega) _ _ _ h R hR
 simp only [zb92, simprocAttr, *]
def zb96 (q : Nat) : Prop := ∀ (M : Nat) (hM : 8 * q ≤ M) (j : Nat) (hj : q ≤ j) (v1z : Bool) (v1l : List Int) (v5 v6 r : Int) (_ : zn5 q v1z v1l v5 v6 = some r) (R : Option (List V)) (_ : some [(V.int .u32) r] = R) (fr : Fr) (H : Hp) (_ : canon 0 [1, 5, 6] fr H = ([(1, (.sl v1z (List.map (V.int .u8) v1l))), (5, (.int .u32 v5)), (6, (.int .i64 v6))], [])), fin zbbk (unw T (orc T (M + 7)) (M + 7) 0 [.blk 0, .code zbbg] (iter 0 [1, 5, 6] (exec T (orc T (M + 7)) (M + 7) 0 zbbd) j fr H)) = R
def zb97 := And.intro @kk <| And.intro @ke <| And.intro @kn <| And.intro @zbt3 <| And.intro @zbvj <| @zbt5
theorem zb98 (q : Nat) (zcca : zb96 q) : zb96 (q + 1) := by
 intro M hM j hj v1z v1l v5 v6 r h R hR fr H hc
 obtain ⟨j, rfl⟩ : ∃ i, j = i + 1 := ⟨j - 1, by omega⟩
 rw [zhn, hc]; clear hc
 rw [zn5] at h
 replace h := br h; rcases h with ⟨h1, h⟩ | ⟨h1, h⟩
 ·replace h := bn h; obtain ⟨h2, h⟩ := h
  replace h := ob h; obtain ⟨e1, h3, h⟩ := h
  replace h := ob h; obtain ⟨r2, h4, h⟩ := h
  replace h4 := zb95 q (M + 7) (by omega) _ _ h4
  replace h := zcca M (by omega) j (by omega) _ _ _ _ _ h R hR
  simp only [zb97, simprocAttr, *]
 ·cases h; subst hR; simp only [zb97, simprocAttr, *]
theorem zb99 : ∀ q, zb96 q
 | 0 => by intro M hM j hj; intros; rename_i h _ _ _ _ _; cases h
 | q + 1 => by have i0 := zb99 q; exact zb98 q i0
theorem zcaa : ∀ (q N : Nat), 8 * q ≤ N → ∀ (a0 : Int) (a1 : (Sl Int)), ∀ (r : Int), zn6 q a0 a1 = some r → (orc T N).deep F.zn6 [(V.int .u32) a0, (Sl.enc (V.int .u8)) a1] = some [(V.int .u32) r] := by
 intro q N hM a0 a1 r h
 rcases q with _ | q
 ·cases h
 obtain ⟨M, rfl⟩ : ∃ M, N = M + 8 := ⟨N - 8, by omega⟩
 have zcca := (zb99 q)
 generalize hR : some [(V.int .u32) r] = R
 rw [zhx, zbnd, y8, zhv zbbk rfl]
 rw [zn6] at h
 replace h := zcca M (by omega) (M + 7) (by omega) _ _ _ _ _ h R hR
 simp only [zb97, simprocAttr, *]
def zcab := And.intro @kk <| And.intro @ke <| And.intro @kn <| And.intro @zbr3 <| And.intro @zbt4 <| @zbr5
theorem zcac : ∀ (q N : Nat), 8 * q ≤ N → ∀ (a0 : (Sl Int)), ∀ (r : Int), zn7 q a0 = some r → (orc T N).deep F.zn7 [(Sl.enc (V.int .u8)) a0] = some [(V.int .u32) r] := by
 intro q N hM a0 r h
 rcases q with _ | q
 ·cases h
 obtain ⟨M, rfl⟩ : ∃ M, N = M + 8 := ⟨N - 8, by omega⟩
 generalize hR : some [(V.int .u32) r] = R
 rw [zhx, zbmp, y8, zhv z49 rfl]
 rw [zn7] at h
 replace h := ob h; obtain ⟨r1, h1, h⟩ := h
 replace h1 := zcaa q (M + 7) (by omega) _ _ _ h1
 try simp only [kf, simprocAttr] at h1
 cases h; subst hR; simp only [zcab, simprocAttr, *]
def zcad (q : Nat) : Prop := ∀ (M : Nat) (hM : 8 * q ≤ M) (j : Nat) (hj : q ≤ j) (v0 v1 v6 : Int) (h0z : Bool) (h0l : List Int) (r : (Ow Int)) (_ : zn8 q v0 v1 v6 h0z h0l = some r) (R : Option (List V)) (_ : some [(Ow.enc 1 (V.int .u8)) r] = R) (fr : Fr) (H : Hp) (_ : canon 0 [0, 1, 5, 6] fr H = ([(0, (.int .u64 v0)), (1, (.int .i64 v1)), (5, (.vw 0 0 0 h0l.length 1)), (6, (.int .i64 v6))], [(.row 0 h0z 1 (List.map (V.int .u8) h0l) true)])), fin z47 (unw T (orc T (M + 7)) (M + 7) 0 [.blk 0, .code z43] (iter 0 [0, 1, 5, 6] (exec T (orc T (M + 7)) (M + 7) 0 z40) j fr H)) = R
def zcae := And.intro @kk <| And.intro @ke <| And.intro @kn <| And.intro @zbr0 <| @zbr2
theorem zcaf (q : Nat) (zccb : zcad q) : zcad (q + 1) := by
 intro M hM j hj v0 v1 v6 h0z h0l r h R hR fr H hc
 obtain ⟨j, rfl⟩ : ∃ i, j = i + 1 := ⟨j - 1, by omega⟩
 rw [zhn, hc]; clear hc
 rw [zn8] at h
 replace h := br h; rcases h with ⟨h1, h⟩ | ⟨h1, h⟩
 ·replace h := bn h; obtain ⟨h2, h⟩ := h
  replace h := zccb M (by omega) j (by omega) _ _ _ _ _ _ h R hR
  simp only [zcae, simprocAttr, *]
 ·cases h; subst hR; simp only [zcae, simprocAttr, *]
theorem zcag : ∀ q, zcad q
 | 0 => by intro M hM j hj; intros; rename_i h _ _ _ _ _; cases h
 | q + 1 => by have i0 := zcag q; exact zcaf q i0
theorem zcah : ∀ (q N : Nat), 8 * q ≤ N → ∀ (a0 a1 : Int), ∀ (r : (Ow Int)), zn9 q a0 a1 = some r → (orc T N).deep F.zn9 [(V.int .u64) a0, (V.int .i64) a1] = some [(Ow.enc 1 (V.int .u8)) r] := by
 intro q N hM a0 a1 r h
 rcases q with _ | q
 ·cases h
 obtain ⟨M, rfl⟩ : ∃ M, N = M + 8 := ⟨N - 8, by omega⟩
 have zccb := (zcag q)
 generalize hR : some [(Ow.enc 1 (V.int .u8)) r] = R
 rw [zhx, zbmo, y8, zhv z47 rfl]
 rw [zn9] at h
 replace h := zccb M (by omega) (M + 7) (by omega) _ _ _ _ _ _ h R hR
 simp only [zcae, simprocAttr, *]
def zcai := And.intro @kk <| And.intro @ke <| And.intro @kn <| And.intro @zbrf <| And.intro @zbra <| And.intro @zbr1 <| And.intro @zbr4 <| And.intro @zbt4 <| @zbrh
theorem zcaj : ∀ (q N : Nat), 8 * q ≤ N → ∀ (a0 : (Sl Int)), ∀ (r : (Ow Int) × Int), zoa q a0 = some r → (orc T N).deep F.zoa [(Sl.enc (V.int .u8)) a0] = some [(Ow.enc 1 (V.int .u8)) r.1, (V.int .i64) r.2] := by
 intro q N hM a0 r h
 rcases q with _ | q
 ·cases h
 obtain ⟨M, rfl⟩ : ∃ M, N = M + 8 := ⟨N - 8, by omega⟩
 generalize hR : some [(Ow.enc 1 (V.int .u8)) r.1, (V.int .i64) r.2] = R
 rw [zhx, zbmh, y8, zhv z15 rfl]
 rw [zoa] at h
 replace h := br h; rcases h with ⟨h1, h⟩ | ⟨h1, h⟩
 ·cases h; subst hR; simp only [zcai, simprocAttr, *]
 ·replace h := ob h; obtain ⟨r1, h2, h⟩ := h
  replace h2 := zb9w q (M + 7) (by omega) _ _ _ h2
  try simp only [kf, simprocAttr] at h2
  replace h := ob h; obtain ⟨r2, h3, h⟩ := h
  replace h3 := zcac q (M + 7) (by omega) _ _ h3
  try simp only [kf, simprocAttr] at h3
  replace h := ob h; obtain ⟨r3, h4, h⟩ := h
  replace h4 := zcaa q (M + 7) (by omega) _ _ _ h4
  try simp only [kf, simprocAttr] at h4
  replace h := bn h; obtain ⟨h5, h⟩ := h
  replace h := bn h; obtain ⟨h6, h⟩ := h
  replace h := ob h; obtain ⟨r4, h7, h⟩ := h
  replace h7 := zcah q (M + 7) (by omega) _ _ _ h7
  try simp only [kf, simprocAttr] at h7
  replace h := bn h; obtain ⟨h8, h⟩ := h
  cases h; subst hR; simp only [zcai, simprocAttr, *]
def zcak (q : Nat) : Prop := ∀ (M : Nat) (hM : 8 * q ≤ M) (j : Nat) (hj : q ≤ j) (v6 h0_0 h0_1 h0_2 h0_3 : Int) (h0_4z : Bool) (h0_4l : List Int) (h0_5 : Bool) (h0_6 : Int) (h0_7z : Bool) (h0_7l : List zjq) (h1z : Bool) (h1l : List Int) (h1x : Bool) (r : (Ow Int) × Int) (_ : zoc q v6 h0_0 h0_1 h0_2 h0_3 h0_4z h0_4l h0_5 h0_6 h0_7z h0_7l h1z h1l h1x = some r) (R : Option (List V)) (_ : some [(Ow.enc 1 (V.int .u8)) r.1, (V.int .i64) r.2] = R) (fr : Fr) (H : Hp) (_ : canon 0 [1, 5, 6] fr H = ([(1, (.ptr 0 0)), (5, (.vw 1 0 0 h1l.length 1)), (6, (.int .i64 v6))], [(.box [(.int .i64 h0_0), (.int .i64 h0_1), (.int .i64 h0_2), (.int .i64 h0_3), (.sl h0_4z (List.map (V.int .i64) h0_4l)), (.bool h0_5), (.int .i64 h0_6), (.sl h0_7z (List.map zjq.enc h0_7l))]), (.row 0 h1z 1 (List.map (V.int .u8) h1l) h1x)])), fin zuu (unw T (orc T (M + 7)) (M + 7) 0 [.blk 0, .code zuk] (iter 0 [1, 5, 6] (exec T (orc T (M + 7)) (M + 7) 0 ztr) j fr H)) = R
def zcal (q : Nat) : Prop := ∀ (M : Nat) (hM : 8 * q ≤ M) (j : Nat) (hj : q ≤ j) (v8 h0_0 h0_1 h0_2 h0_3 : Int) (h0_4z : Bool) (h0_4l : List Int) (h0_5 : Bool) (h0_6 : Int) (h0_7z : Bool) (h0_7l : List zjq) (h1z : Bool) (h1l : List Int) (h1x : Bool) (r : (Ow Int) × Int) (_ : zob q v8 h0_0 h0_1 h0_2 h0_3 h0_4z h0_4l h0_5 h0_6 h0_7z h0_7l h1z h1l h1x = some r) (R : Option (List V)) (_ : some [(Ow.enc 1 (V.int .u8)) r.1, (V.int .i64) r.2] = R) (fr : Fr) (H : Hp) (_ : canon 0 [1, 5, 8] fr H = ([(1, (.ptr 0 0)), (5, (.vw 1 0 0 h1l.length 1)), (8, (.int .i64 v8))], [(.box [(.int .i64 h0_0), (.int .i64 h0_1), (.int .i64 h0_2), (.int .i64 h0_3), (.sl h0_4z (List.map (V.int .i64) h0_4l)), (.bool h0_5), (.int .i64 h0_6), (.sl h0_7z (List.map zjq.enc h0_7l))]), (.row 0 h1z 1 (List.map (V.int .u8) h1l) h1x)])), fin zuu (unw T (orc T (M + 7)) (M + 7) 0 [.blk 2, .code zuf] (iter 0 [1, 5, 8] (exec T (orc T (M + 7)) (M + 7) 0 zua) j fr H)) = R
def zcam := And.intro @kk <| And.intro @ke <| And.intro @kn <| And.intro @zboy <| And.intro @zbq7 <| And.intro @zbra <| And.intro @zbrd <| And.intro @zbrg <| @zbo0
theorem zcan (q : Nat) (zccc : zcak q) (zccd : zcal q) : zcak (q + 1) := by
 intro M hM j hj v6 h0_0 h0_1 h0_2 h0_3 h0_4z h0_4l h0_5 h0_6 h0_7z h0_7l h1z h1l h1x r h R hR fr H hc
 obtain ⟨j, rfl⟩ : ∃ i, j = i + 1 := ⟨j - 1, by omega⟩
 rw [zhn, hc]; clear hc
 rw [zoc] at h
 replace h := br h; rcases h with ⟨h1, h⟩ | ⟨h1, h⟩
 ·replace h := bn h; obtain ⟨h2, h⟩ := h
  replace h := ob h; obtain ⟨e7, h3, h⟩ := h
  replace h := ob h; obtain ⟨r8, h4, h⟩ := h
  replace h4 := zb90 q (M + 7) (by omega) _ _ _ h4
  try simp only [kf, simprocAttr] at h4
  replace h := zccc M (by omega) j (by omega) _ _ _ _ _ _ _ _ _ _ _ _ _ _ _ h R hR
  simp only [zcam, simprocAttr, *]
 ·replace h := bb h; rcases h with ⟨h5', h5, h⟩ | ⟨h5', h5, h⟩
  ·replace h := ob h; obtain ⟨r9, h6, h⟩ := h
   replace h6 := zb9w q (M + 7) (by omega) _ _ _ h6
   try simp only [kf, simprocAttr] at h6
   replace h := ob h; obtain ⟨r10, h7, h⟩ := h
   replace h7 := zb9w q (M + 7) (by omega) _ _ _ h7
   try simp only [kf, simprocAttr] at h7
   replace h := zccd M (by omega) (M + 7) (by omega) _ _ _ _ _ _ _ _ _ _ _ _ _ _ _ h R hR
   simp only [zcam, simprocAttr, *]
  ·replace h := ob h; obtain ⟨r11, h8, h⟩ := h
   replace h8 := zb9w q (M + 7) (by omega) _ _ _ h8
   try simp only [kf, simprocAttr] at h8
   replace h := ob h; obtain ⟨r12, h9, h⟩ := h
   replace h9 := zb9w q (M + 7) (by omega) _ _ _ h9
   try simp only [kf, simprocAttr] at h9
   replace h := zccd M (by omega) (M + 7) (by omega) _ _ _ _ _ _ _ _ _ _ _ _ _ _ _ h R hR
   simp only [zcam, simprocAttr, *]
theorem zcao (q : Nat) (zccd : zcal q) : zcal (q + 1) := by
 intro M hM j hj v8 h0_0 h0_1 h0_2 h0_3 h0_4z h0_4l h0_5 h0_6 h0_7z h0_7l h1z h1l h1x r h R hR fr H hc
 obtain ⟨j, rfl⟩ : ∃ i, j = i + 1 := ⟨j - 1, by omega⟩
 rw [zhn, hc]; clear hc
 rw [zob] at h
 replace h := br h; rcases h with ⟨h1, h⟩ | ⟨h1, h⟩
 ·replace h := bn h; obtain ⟨h2, h⟩ := h
  replace h := ob h; obtain ⟨e13, h3, h⟩ := h
  replace h := ob h; obtain ⟨r14, h4, h⟩ := h
  replace h4 := zb9w q (M + 7) (by omega) _ _ _ h4
  try simp only [kf, simprocAttr] at h4
  replace h := ob h; obtain ⟨r15, h5, h⟩ := h
  replace h5 := zb9w q (M + 7) (by omega) _ _ _ h5
  try simp only [kf, simprocAttr] at h5
  replace h := ob h; obtain ⟨r16, h6, h⟩ := h
  replace h6 := zb90 q (M + 7) (by omega) _ _ _ h6
  try simp only [kf, simprocAttr] at h6
  replace h := zccd M (by omega) j (by omega) _ _ _ _ _ _ _ _ _ _ _ _ _ _ _ h R hR
  simp only [zcam, simprocAttr, *]
 ·replace h := ob h; obtain ⟨r17, h7, h⟩ := h
  replace h7 := zcaj q (M + 7) (by omega) _ _ h7
  try simp only [kf, simprocAttr] at h7
  cases h; subst hR; simp only [zcam, simprocAttr, *]
theorem zcap : ∀ q, zcak q ∧ zcal q
 | 0 => by refine ⟨?_, ?_⟩ <;> (intro M hM j hj; intros; rename_i h _ _ _ _ _; cases h)
 | q + 1 => by have ⟨i0, i1⟩ := zcap q; exact ⟨zcan q i0 i1, zcao q i1⟩
theorem zcaq : ∀ (q N : Nat), 8 * q ≤ N → ∀ (a0 : zjs), ∀ (r : (Ow Int) × Int), zod q a0 = some r → (orc T N).deep F.zod [zjs.enc a0] = some [(Ow.enc 1 (V.int .u8)) r.1, (V.int .i64) r.2] := by
 intro q N hM a0 r h
 rcases q with _ | q
 ·cases h
 obtain ⟨M, rfl⟩ : ∃ M, N = M + 8 := ⟨N - 8, by omega⟩
 have zccc := (zcap q).1
 generalize hR : some [(Ow.enc 1 (V.int .u8)) r.1, (V.int .i64) r.2] = R
 rw [zhx, zbln, y8, zhv zuu rfl]
 rw [zod] at h
 replace h := ob h; obtain ⟨r1, h1, h⟩ := h
 replace h1 := zb9p q (M + 7) (by omega) _ _ h1
 try simp only [kf, simprocAttr] at h1
 replace h := bb h; rcases h with ⟨h2', h2, h⟩ | ⟨h2', h2, h⟩
 ·replace h := ob h; obtain ⟨r2, h3, h⟩ := h
  replace h3 := zb9w q (M + 7) (by omega) _ _ _ h3
  try simp only [kf, simprocAttr] at h3
  replace h := ob h; obtain ⟨r3, h4, h⟩ := h
  replace h4 := zb9w q (M + 7) (by omega) _ _ _ h4
  try simp only [kf, simprocAttr] at h4
  replace h := ob h; obtain ⟨r4, h5, h⟩ := h
  replace h5 := zb9w q (M + 7) (by omega) _ _ _ h5
  try simp only [kf, simprocAttr] at h5
  replace h := ob h; obtain ⟨r5, h6, h⟩ := h
  replace h6 := zb9w q (M + 7) (by omega) _ _ _ h6
  try simp only [kf, simprocAttr] at h6
  replace h := ob h; obtain ⟨r6, h7, h⟩ := h
  replace h7 := zb9w q (M + 7) (by omega) _ _ _ h7
  try simp only [kf, simprocAttr] at h7
  replace h := zccc M (by omega) (M + 7) (by omega) _ _ _ _ _ _ _ _ _ _ _ _ _ _ _ h R hR
  simp only [zcam, simprocAttr, *]
 ·cases h; subst hR; simp only [zcam, simprocAttr, *]
def zcar (q : Nat) : Prop := ∀ (M : Nat) (hM : 8 * q ≤ M) (j : Nat) (hj : q ≤ j) (v0z : Bool) (v0l : List Int) (v3 : Int) (r : Bool) (_ : zoe q v0z v0l v3 = some r) (R : Option (List V)) (_ : some [V.bool r] = R) (fr : Fr) (H : Hp) (_ : canon 0 [0, 3] fr H = ([(0, (.sl v0z (List.map (V.int .u8) v0l))), (3, (.int .i64 v3))], [])), fin zbb1 (unw T (orc T (M + 7)) (M + 7) 0 [.blk 0, .code zbby] (iter 0 [0, 3] (exec T (orc T (M + 7)) (M + 7) 0 zbbv) j fr H)) = R
def zcas := And.intro @kk <| And.intro @ke <| And.intro @kn <| And.intro @zbt6 <| @zbt8
theorem zcat (q : Nat) (zcce : zcar q) : zcar (q + 1) := by
 intro M hM j hj v0z v0l v3 r h R hR fr H hc
 obtain ⟨j, rfl⟩ : ∃ i, j = i + 1 := ⟨j - 1, by omega⟩
 rw [zhn, hc]; clear hc
 rw [zoe] at h
 replace h := br h; rcases h with ⟨h1, h⟩ | ⟨h1, h⟩
 ·replace h := bn h; obtain ⟨h2, h⟩ := h
  replace h := ob h; obtain ⟨e1, h3, h⟩ := h
  replace h := br h; rcases h with ⟨h4, h⟩ | ⟨h4, h⟩
  ·cases h; subst hR; simp only [zcas, simprocAttr, *]
  ·replace h := zcce M (by omega) j (by omega) _ _ _ _ h R hR
   simp only [zcas, simprocAttr, *]
 ·cases h; subst hR; simp only [zcas, simprocAttr, *]
theorem zcau : ∀ q, zcar q
 | 0 => by intro M hM j hj; intros; rename_i h _ _ _ _ _; cases h
 | q + 1 => by have i0 := zcau q; exact zcat q i0
theorem zcav : ∀ (q N : Nat), 8 * q ≤ N → ∀ (a0 : (Sl Int)), ∀ (r : Bool), zof q a0 = some r → (orc T N).deep F.zof [(Sl.enc (V.int .u8)) a0] = some [V.bool r] := by
 intro q N hM a0 r h
 rcases q with _ | q
 ·cases h
 obtain ⟨M, rfl⟩ : ∃ M, N = M + 8 := ⟨N - 8, by omega⟩
 have zcce := (zcau q)
 generalize hR : some [V.bool r] = R
 rw [zhx, zbne, y8, zhv zbb1 rfl]
 rw [zof] at h
 replace h := zcce M (by omega) (M + 7) (by omega) _ _ _ _ h R hR
 simp only [zcas, simprocAttr, *]
def zcaw (q : Nat) : Prop := ∀ (M : Nat) (hM : 8 * q ≤ M) (j : Nat) (hj : q ≤ j) (v0z : Bool) (v0l : List Int) (v4 v5 v6 : Int) (r : Int × Int) (_ : zog q v0z v0l v4 v5 v6 = some r) (R : Option (List V)) (_ : some [(V.int .u64) r.1, (V.int .i64) r.2] = R) (fr : Fr) (H : Hp) (_ : canon 0 [0, 4, 5, 6] fr H = ([(0, (.sl v0z (List.map (V.int .u8) v0l))), (4, (.int .u64 v4)), (5, (.int .u64 v5)), (6, (.int .i64 v6))], [])), fin zbi6 (unw T (orc T (M + 7)) (M + 7) 0 [.blk 0, .code zbi1] (iter 0 [0, 4, 5, 6] (exec T (orc T (M + 7)) (M + 7) 0 zbiy) j fr H)) = R
def zcax := And.intro @kk <| And.intro @ke <| And.intro @kn <| And.intro @zbvl <| @zbvn
theorem zcay (q : Nat) (zccf : zcaw q) : zcaw (q + 1) := by
 intro M hM j hj v0z v0l v4 v5 v6 r h R hR fr H hc
 obtain ⟨j, rfl⟩ : ∃ i, j = i + 1 := ⟨j - 1, by omega⟩
 rw [zhn, hc]; clear hc
 rw [zog] at h
 replace h := br h; rcases h with ⟨h1, h⟩ | ⟨h1, h⟩
 ·replace h := br h; rcases h with ⟨h2, h⟩ | ⟨h2, h⟩
  ·replace h := bn h; obtain ⟨h3, h⟩ := h
   replace h := ob h; obtain ⟨e1, h4, h⟩ := h
   replace h := br h; rcases h with ⟨h5, h⟩ | ⟨h5, h⟩
   ·replace h := br h; rcases h with ⟨h6, h⟩ | ⟨h6, h⟩
    ·cases h; subst hR; simp only [zcax, simprocAttr, *]
    ·replace h := br h; rcases h with ⟨h7, h⟩ | ⟨h7, h⟩
     ·replace h := br h; rcases h with ⟨h8, h⟩ | ⟨h8, h⟩
      ·replace h := br h; rcases h with ⟨h9, h⟩ | ⟨h9, h⟩
       ·cases h; subst hR; simp only [zcax, simprocAttr, *]
       ·cases h; subst hR; simp only [zcax, simprocAttr, *]
      ·cases h; subst hR; simp only [zcax, simprocAttr, *]
     ·replace h := zccf M (by omega) j (by omega) _ _ _ _ _ _ h R hR
      simp only [zcax, simprocAttr, *]
   ·replace h := br h; rcases h with ⟨h10, h⟩ | ⟨h10, h⟩
    ·replace h := br h; rcases h with ⟨h11, h⟩ | ⟨h11, h⟩
     ·replace h := br h; rcases h with ⟨h12, h⟩ | ⟨h12, h⟩
      ·cases h; subst hR; simp only [zcax, simprocAttr, *]
      ·cases h; subst hR; simp only [zcax, simprocAttr, *]
     ·cases h; subst hR; simp only [zcax, simprocAttr, *]
    ·replace h := zccf M (by omega) j (by omega) _ _ _ _ _ _ h R hR
     simp only [zcax, simprocAttr, *]
  ·cases h; subst hR; simp only [zcax, simprocAttr, *]
 ·cases h; subst hR; simp only [zcax, simprocAttr, *]
theorem zcaz : ∀ q, zcaw q
 | 0 => by intro M hM j hj; intros; rename_i h _ _ _ _ _; cases h
 | q + 1 => by have i0 := zcaz q; exact zcay q i0
theorem zca0 : ∀ (q N : Nat), 8 * q ≤ N → ∀ (a0 : (Sl Int)), ∀ (r : Int × Int), zoh q a0 = some r → (orc T N).deep F.zoh [(Sl.enc (V.int .u8)) a0] = some [(V.int .u64) r.1, (V.int .i64) r.2] := by
 intro q N hM a0 r h
 rcases q with _ | q
 ·cases h
 obtain ⟨M, rfl⟩ : ∃ M, N = M + 8 := ⟨N - 8, by omega⟩
 have zccf := (zcaz q)
 generalize hR : some [(V.int .u64) r.1, (V.int .i64) r.2] = R
 rw [zhx, zbnv, y8, zhv zbi6 rfl]
 rw [zoh] at h
 replace h := zccf M (by omega) (M + 7) (by omega) _ _ _ _ _ _ h R hR
 simp only [zcax, simprocAttr, *]
def zca1 := And.intro @kk <| And.intro @ke <| And.intro @kn <| And.intro @zbt9 <| And.intro @zbvm <| @zbub
theorem zca2 : ∀ (q N : Nat), 8 * q ≤ N → ∀ (a0 : (Sl Int)), ∀ (r : Int × Int), zoi q a0 = some r → (orc T N).deep F.zoi [(Sl.enc (V.int .u8)) a0] = some [(V.int .i64) r.1, (V.int .i64) r.2] := by
 intro q N hM a0 r h
 rcases q with _ | q
 ·cases h
 obtain ⟨M, rfl⟩ : ∃ M, N = M + 8 := ⟨N - 8, by omega⟩
 generalize hR : some [(V.int .i64) r.1, (V.int .i64) r.2] = R
 rw [zhx, zbnf, y8, zhv zbcc rfl]
 rw [zoi] at h
 replace h := ob h; obtain ⟨r1, h1, h⟩ := h
 replace h1 := zca0 q (M + 7) (by omega) _ _ h1
 try simp only [kf, simprocAttr] at h1
 replace h := br h; rcases h with ⟨h2, h⟩ | ⟨h2, h⟩
 ·cases h; subst hR; simp only [zca1, simprocAttr, *]
 ·replace h := br h; rcases h with ⟨h3, h⟩ | ⟨h3, h⟩
  ·cases h; subst hR; simp only [zca1, simprocAttr, *]
  ·cases h; subst hR; simp only [zca1, simprocAttr, *]
def zca3 (q : Nat) : Prop := ∀ (M : Nat) (hM : 8 * q ≤ M) (j : Nat) (hj : q ≤ j) (v0z : Bool) (v0l : List Int) (v3 v4 r : Int) (_ : zoj q v0z v0l v3 v4 = some r) (R : Option (List V)) (_ : some [(V.int .u64) r] = R) (fr : Fr) (H : Hp) (_ : canon 0 [0, 3, 4] fr H = ([(0, (.sl v0z (List.map (V.int .u8) v0l))), (3, (.int .u64 v3)), (4, (.int .i64 v4))], [])), fin zbcv (unw T (orc T (M + 7)) (M + 7) 0 [.blk 0, .code zbcr] (iter 0 [0, 3, 4] (exec T (orc T (M + 7)) (M + 7) 0 zbco) j fr H)) = R
def zca4 := And.intro @kk <| And.intro @ke <| And.intro @kn <| And.intro @zbuc <| @zbue
theorem zca5 (q : Nat) (zccg : zca3 q) : zca3 (q + 1) := by
 intro M hM j hj v0z v0l v3 v4 r h R hR fr H hc
 obtain ⟨j, rfl⟩ : ∃ i, j = i + 1 := ⟨j - 1, by omega⟩
 rw [zhn, hc]; clear hc
 rw [zoj] at h
 replace h := br h; rcases h with ⟨h1, h⟩ | ⟨h1, h⟩
 ·replace h := br h; rcases h with ⟨h2, h⟩ | ⟨h2, h⟩
  ·replace h := ob h; obtain ⟨e1, h3, h⟩ := h
   replace h := zccg M (by omega) j (by omega) _ _ _ _ _ h R hR
   simp only [zca4, simprocAttr, *]
  ·replace h := zccg M (by omega) j (by omega) _ _ _ _ _ h R hR
   simp only [zca4, simprocAttr, *]
 ·cases h; subst hR; simp only [zca4, simprocAttr, *]
theorem zca6 : ∀ q, zca3 q
 | 0 => by intro M hM j hj; intros; rename_i h _ _ _ _ _; cases h
 | q + 1 => by have i0 := zca6 q; exact zca5 q i0
theorem zca7 : ∀ (q N : Nat), 8 * q ≤ N → ∀ (a0 : (Sl Int)), ∀ (r : Int), zok q a0 = some r → (orc T N).deep F.zok [(Sl.enc (V.int .u8)) a0] = some [(V.int .u64) r] := by
 intro q N hM a0 r h
 rcases q with _ | q
 ·cases h
 obtain ⟨M, rfl⟩ : ∃ M, N = M + 8 := ⟨N - 8, by omega⟩
 have zccg := (zca6 q)
 generalize hR : some [(V.int .u64) r] = R
 rw [zhx, zbng, y8, zhv zbcv rfl]
 rw [zok] at h
 replace h := zccg M (by omega) (M + 7) (by omega) _ _ _ _ _ h R hR
 simp only [zca4, simprocAttr, *]
def zca8 := And.intro @kk <| And.intro @ke <| And.intro @kn <| And.intro @zbri <| And.intro @zbr4 <| And.intro @zbt7 <| And.intro @zbua <| And.intro @zbud <| @zbrk
theorem zca9 : ∀ (q N : Nat), 8 * q ≤ N → ∀ (a0 : (Sl Int)), ∀ (r : (Ow Int) × Int × Int), zol q a0 = some r → (orc T N).deep F.zol [(Sl.enc (V.int .u8)) a0] = some [(Ow.enc 1 (V.int .u8)) r.1, (V.int .i64) r.2.1, (V.int .i64) r.2.2] := by
 intro q N hM a0 r h
 rcases q with _ | q
 ·cases h
 obtain ⟨M, rfl⟩ : ∃ M, N = M + 8 := ⟨N - 8, by omega⟩
 generalize hR : some [(Ow.enc 1 (V.int .u8)) r.1, (V.int .i64) r.2.1, (V.int .i64) r.2.2] = R
 rw [zhx, zbmi, y8, zhv z2t rfl]
 rw [zol] at h
 replace h := ob h; obtain ⟨r1, h1, h⟩ := h
 replace h1 := zcav q (M + 7) (by omega) _ _ h1
 try simp only [kf, simprocAttr] at h1
 replace h := bb h; rcases h with ⟨h2', h2, h⟩ | ⟨h2', h2, h⟩
 ·cases h; subst hR; simp only [zca8, simprocAttr, *]
 ·replace h := ob h; obtain ⟨r2, h3, h⟩ := h
  replace h3 := zca2 q (M + 7) (by omega) _ _ h3
  try simp only [kf, simprocAttr] at h3
  replace h := br h; rcases h with ⟨h4, h⟩ | ⟨h4, h⟩
  ·cases h; subst hR; simp only [zca8, simprocAttr, *]
  ·replace h := br h; rcases h with ⟨h5, h⟩ | ⟨h5, h⟩
   ·cases h; subst hR; simp only [zca8, simprocAttr, *]
   ·replace h := br h; rcases h with ⟨h6, h⟩ | ⟨h6, h⟩
    ·cases h; subst hR; simp only [zca8, simprocAttr, *]
    ·replace h := bn h; obtain ⟨h7, h⟩ := h
     replace h := bn h; obtain ⟨h8, h⟩ := h
     replace h := bn h; obtain ⟨h9, h⟩ := h
     replace h := bn h; obtain ⟨h10, h⟩ := h
     replace h := ob h; obtain ⟨r3, h11, h⟩ := h
     replace h11 := zcac q (M + 7) (by omega) _ _ h11
     try simp only [kf, simprocAttr] at h11
     replace h := bn h; obtain ⟨h12, h⟩ := h
     replace h := bn h; obtain ⟨h13, h⟩ := h
     replace h := ob h; obtain ⟨r4, h14, h⟩ := h
     replace h14 := zca7 q (M + 7) (by omega) _ _ h14
     try simp only [kf, simprocAttr] at h14
     replace h := br h; rcases h with ⟨h15, h⟩ | ⟨h15, h⟩
     ·replace h := bn h; obtain ⟨h16, h⟩ := h
      cases h; subst hR; simp only [zca8, simprocAttr, *]
     ·cases h; subst hR; simp only [zca8, simprocAttr, *]
def zcba := And.intro @kk <| And.intro @ke <| And.intro @kn <| And.intro @zbv0 <| @zbv2
theorem zcbb : ∀ (q N : Nat), 8 * q ≤ N → ∀ (a0 r : Int), zom q a0 = some r → (orc T N).deep F.zom [(V.int .u64) a0] = some [(V.int .i64) r] := by
 intro q N hM a0 r h
 rcases q with _ | q
 ·cases h
 obtain ⟨M, rfl⟩ : ∃ M, N = M + 8 := ⟨N - 8, by omega⟩
 generalize hR : some [(V.int .i64) r] = R
 rw [zhx, zbn0, y8, zhv zblb rfl]
 rw [zom] at h
 replace h := br h; rcases h with ⟨h1, h⟩ | ⟨h1, h⟩
 ·cases h; subst hR; simp only [zcba, simprocAttr, *]
 ·cases h; subst hR; simp only [zcba, simprocAttr, *]
def zcbc := And.intro @kk <| And.intro @ke <| And.intro @kn <| And.intro @zbvo <| And.intro @zbvm <| And.intro @zbv1 <| @zbvq
theorem zcbd : ∀ (q N : Nat), 8 * q ≤ N → ∀ (a0 : (Sl Int)), ∀ (r : Int × Int), zon q a0 = some r → (orc T N).deep F.zon [(Sl.enc (V.int .u8)) a0] = some [(V.int .i64) r.1, (V.int .i64) r.2] := by
 intro q N hM a0 r h
 rcases q with _ | q
 ·cases h
 obtain ⟨M, rfl⟩ : ∃ M, N = M + 8 := ⟨N - 8, by omega⟩
 generalize hR : some [(V.int .i64) r.1, (V.int .i64) r.2] = R
 rw [zhx, zbnw, y8, zhv zbjh rfl]
 rw [zon] at h
 replace h := ob h; obtain ⟨r1, h1, h⟩ := h
 replace h1 := zca0 q (M + 7) (by omega) _ _ h1
 try simp only [kf, simprocAttr] at h1
 replace h := br h; rcases h with ⟨h2, h⟩ | ⟨h2, h⟩
 ·cases h; subst hR; simp only [zcbc, simprocAttr, *]
 ·replace h := ob h; obtain ⟨r2, h3, h⟩ := h
  replace h3 := zcbb q (M + 7) (by omega) _ _ h3
  cases h; subst hR; simp only [zcbc, simprocAttr, *]
def zcbe (q : Nat) : Prop := ∀ (M : Nat) (hM : 8 * q ≤ M) (j : Nat) (hj : q ≤ j) (v6 : Int) (h1_0z : Bool) (h1_0l : List Int) (h1_1 : Bool) (h2_0 h2_1 h2_2 h2_3 : Int) (r : zjs × Bool) (_ : zot q v6 h1_0z h1_0l h1_1 h2_0 h2_1 h2_2 h2_3 = some r) (R : Option (List V)) (_ : some [zjs.enc r.1, V.bool r.2] = R) (fr : Fr) (H : Hp) (_ : canon 0 [2, 4, 5, 6, 7] fr H = ([(2, (.ptr 0 0)), (4, (.ptr 1 0)), (5, (.ptr 2 0)), (6, (.int .i64 v6)), (7, (.int .i64 0))], [(.box [(.int .i64 0), (.int .i64 0), (.int .i64 0), (.int .i64 0), (.sl true []), (.bool false), (.int .i64 0), (.sl true [])]), (.box [(.sl h1_0z (List.map (V.int .u8) h1_0l)), (.bool h1_1)]), (.box [(.int .i64 h2_0), (.int .i64 h2_1), (.int .i64 h2_2), (.int .i64 h2_3), (.sl true []), (.bool false), (.int .i64 0), (.sl true [])])])), fin z4d (unw T (orc T (M + 7)) (M + 7) 0 [.blk 0, .code z32] (iter 0 [2, 4, 5, 6, 7] (exec T (orc T (M + 7)) (M + 7) 0 z25) j fr H)) = R
def zcbf (q : Nat) : Prop := ∀ (M : Nat) (hM : 8 * q ≤ M) (j : Nat) (hj : q ≤ j) (v6 v7 : Int) (h1_0z : Bool) (h1_0l : List Int) (h1_1 : Bool) (h2_0 h2_1 h2_2 h2_3 : Int) (h3l : List Int) (r : zjs × Bool) (_ : zoq q v6 v7 h1_0z h1_0l h1_1 h2_0 h2_1 h2_2 h2_3 h3l = some r) (R : Option (List V)) (_ : some [zjs.enc r.1, V.bool r.2] = R) (fr : Fr) (H : Hp) (_ : canon 0 [2, 4, 5, 6, 7] fr H = ([(2, (.ptr 0 0)), (4, (.ptr 1 0)), (5, (.ptr 2 0)), (6, (.int .i64 v6)), (7, (.int .i64 v7))], [(.box [(.int .i64 0), (.int .i64 0), (.int .i64 0), (.int .i64 0), (.sl true []), (.bool false), (.int .i64 0), (.sl true [])]), (.box [(.sl h1_0z (List.map (V.int .u8) h1_0l)), (.bool h1_1)]), (.box [(.int .i64 h2_0), (.int .i64 h2_1), (.int .i64 h2_2), (.int .i64 h2_3), (.vw 3 0 0 h3l.length 1), (.bool false), (.int .i64 0), (.sl true [])]), (.row 0 false 1 (List.map (V.int .i64) h3l) true)])), fin z4d (unw T (orc T (M + 7)) (M + 7) 0 [.blk 0, .code z32] (iter 0 [2, 4, 5, 6, 7] (exec T (orc T (M + 7)) (M + 7) 0 z25) j fr H)) = R
def zcbg (q : Nat) : Prop := ∀ (M : Nat) (hM : 8 * q ≤ M) (j : Nat) (hj : q ≤ j) (v10 : Int) (h1_0z : Bool) (h1_0l : List Int) (h1_1 : Bool) (h2_0 h2_1 h2_2 h2_3 : Int) (h2_5 : Bool) (h2_6 : Int) (r : zjs × Bool) (_ : zos q v10 h1_0z h1_0l h1_1 h2_0 h2_1 h2_2 h2_3 h2_5 h2_6 = some r) (R : Option (List V)) (_ : some [zjs.enc r.1, V.bool r.2] = R) (fr : Fr) (H : Hp) (_ : canon 0 [2, 4, 5, 10, 11] fr H = ([(2, (.ptr 0 0)), (4, (.ptr 1 0)), (5, (.ptr 2 0)), (10, (.int .i64 v10)), (11, (.int .i64 0))], [(.box [(.int .i64 0), (.int .i64 0), (.int .i64 0), (.int .i64 0), (.sl true []), (.bool false), (.int .i64 0), (.sl true [])]), (.box [(.sl h1_0z (List.map (V.int .u8) h1_0l)), (.bool h1_1)]), (.box [(.int .i64 h2_0), (.int .i64 h2_1), (.int .i64 h2_2), (.int .i64 h2_3), (.sl true []), (.bool h2_5), (.int .i64 h2_6), (.sl true [])])])), fin z4d (unw T (orc T (M + 7)) (M + 7) 0 [.blk 2, .code z3x] (iter 0 [2, 4, 5, 10, 11] (exec T (orc T (M + 7)) (M + 7) 0 z3u) j fr H)) = R
def zcbh (q : Nat) : Prop := ∀ (M : Nat) (hM : 8 * q ≤ M) (j : Nat) (hj : q ≤ j) (v10 : Int) (h1_0z : Bool) (h1_0l : List Int) (h1_1 : Bool) (h2_0 h2_1 h2_2 h2_3 : Int) (h2_5 : Bool) (h2_6 : Int) (h3l : List Int) (r : zjs × Bool) (_ : zop q v10 h1_0z h1_0l h1_1 h2_0 h2_1 h2_2 h2_3 h2_5 h2_6 h3l = some r) (R : Option (List V)) (_ : some [zjs.enc r.1, V.bool r.2] = R) (fr : Fr) (H : Hp) (_ : canon 0 [2, 4, 5, 10, 11] fr H = ([(2, (.ptr 0 0)), (4, (.ptr 1 0)), (5, (.ptr 2 0)), (10, (.int .i64 v10)), (11, (.int .i64 0))], [(.box [(.int .i64 0), (.int .i64 0), (.int .i64 0), (.int .i64 0), (.sl true []), (.bool false), (.int .i64 0), (.sl true [])]), (.box [(.sl h1_0z (List.map (V.int .u8) h1_0l)), (.bool h1_1)]), (.box [(.int .i64 h2_0), (.int .i64 h2_1), (.int .i64 h2_2), (.int .i64 h2_3), (.vw 3 0 0 h3l.length 1), (.bool h2_5), (.int .i64 h2_6), (.sl true [])]), (.row 0 false 1 (List.map (V.int .i64) h3l) true)])), fin z4d (unw T (orc T (M + 7)) (M + 7) 0 [.blk 2, .code z3x] (iter 0 [2, 4, 5, 10, 11] (exec T (orc T (M + 7)) (M + 7) 0 z3u) j fr H)) = R
def zcbi (q : Nat) : Prop := ∀ (M : Nat) (hM : 8 * q ≤ M) (j : Nat) (hj : q ≤ j) (v10 v11 : Int) (h1_0z : Bool) (h1_0l : List Int) (h1_1 : Bool) (h2_0 h2_1 h2_2 h2_3 : Int) (h2_5 : Bool) (h2_6 : Int) (h3l : List zjq) (r : zjs × Bool) (_ : zor q v10 v11 h1_0z h1_0l h1_1 h2_0 h2_1 h2_2 h2_3 h2_5 h2_6 h3l = some r) (R : Option (List V)) (_ : some [zjs.enc r.1, V.bool r.2] = R) (fr : Fr) (H : Hp) (_ : canon 0 [2, 4, 5, 10, 11] fr H = ([(2, (.ptr 0 0)), (4, (.ptr 1 0)), (5, (.ptr 2 0)), (10, (.int .i64 v10)), (11, (.int .i64 v11))], [(.box [(.int .i64 0), (.int .i64 0), (.int .i64 0), (.int .i64 0), (.sl true []), (.bool false), (.int .i64 0), (.sl true [])]), (.box [(.sl h1_0z (List.map (V.int .u8) h1_0l)), (.bool h1_1)]), (.box [(.int .i64 h2_0), (.int .i64 h2_1), (.int .i64 h2_2), (.int .i64 h2_3), (.sl true []), (.bool h2_5), (.int .i64 h2_6), (.vw 3 0 0 h3l.length 1)]), (.row 0 false 3 (List.map zjq.enc h3l) true)])), fin z4d (unw T (orc T (M + 7)) (M + 7) 0 [.blk 2, .code z3x] (iter 0 [2, 4, 5, 10, 11] (exec T (orc T (M + 7)) (M + 7) 0 z3u) j fr H)) = R
def zcbj (q : Nat) : Prop := ∀ (M : Nat) (hM : 8 * q ≤ M) (j : Nat) (hj : q ≤ j) (v10 v11 : Int) (h1_0z : Bool) (h1_0l : List Int) (h1_1 : Bool) (h2_0 h2_1 h2_2 h2_3 : Int) (h2_5 : Bool) (h2_6 : Int) (h3l : List Int) (h4l : List zjq) (r : zjs × Bool) (_ : zoo q v10 v11 h1_0z h1_0l h1_1 h2_0 h2_1 h2_2 h2_3 h2_5 h2_6 h3l h4l = some r) (R : Option (List V)) (_ : some [zjs.enc r.1, V.bool r.2] = R) (fr : Fr) (H : Hp) (_ : canon 0 [2, 4, 5, 10, 11] fr H = ([(2, (.ptr 0 0)), (4, (.ptr 1 0)), (5, (.ptr 2 0)), (10, (.int .i64 v10)), (11, (.int .i64 v11))], [(.box [(.int .i64 0), (.int .i64 0), (.int .i64 0), (.int .i64 0), (.sl true []), (.bool false), (.int .i64 0), (.sl true [])]), (.box [(.sl h1_0z (List.map (V.int .u8) h1_0l)), (.bool h1_1)]), (.box [(.int .i64 h2_0), (.int .i64 h2_1), (.int .i64 h2_2), (.int .i64 h2_3), (.vw 3 0 0 h3l.length 1), (.bool h2_5), (.int .i64 h2_6), (.vw 4 0 0 h4l.length 1)]), (.row 0 false 1 (List.map (V.int .i64) h3l) true), (.row 0 false 3 (List.map zjq.enc h4l) true)])), fin z4d (unw T (orc T (M + 7)) (M + 7) 0 [.blk 2, .code z3x] (iter 0 [2, 4, 5, 10, 11] (exec T (orc T (M + 7)) (M + 7) 0 z3u) j fr H)) = R
def zcbk := And.intro @kk <| And.intro @ke <| And.intro @kn <| And.intro @zbrl <| And.intro @zbuf <| And.intro @zbui <| And.intro @zbua <| And.intro @zbvp <| And.intro @zbug <| And.intro @zbuh <| And.intro @zbuj <| And.intro @zbuk <| @zbrn
theorem zcbl (q : Nat) (zcch : zcbf q) (zcci : zcbg q) : zcbe (q + 1) := by
 intro M hM j hj v6 h1_0z h1_0l h1_1 h2_0 h2_1 h2_2 h2_3 r h R hR fr H hc
 obtain ⟨j, rfl⟩ : ∃ i, j = i + 1 := ⟨j - 1, by omega⟩
 rw [zhn, hc]; clear hc
 rw [zot] at h
 replace h := br h; rcases h with ⟨h1, h⟩ | ⟨h1, h⟩
 ·replace h := ob h; obtain ⟨r12, h2, h⟩ := h
  replace h2 := zcbd q (M + 6) (by omega) _ _ h2
  try simp only [kf, simprocAttr] at h2
  replace h := bb h; rcases h with ⟨h3', h3, h⟩ | ⟨h3', h3, h⟩
  ·replace h := bn h; obtain ⟨h4, h⟩ := h
   replace h := bn h; obtain ⟨h5, h⟩ := h
   replace h := zcch M (by omega) j (by omega) _ _ _ _ _ _ _ _ _ _ _ h R hR
   simp only [zcbk, simprocAttr, *]
  ·replace h := bn h; obtain ⟨h6, h⟩ := h
   replace h := bn h; obtain ⟨h7, h⟩ := h
   replace h := zcch M (by omega) j (by omega) _ _ _ _ _ _ _ _ _ _ _ h R hR
   simp only [zcbk, simprocAttr, *]
 ·replace h := ob h; obtain ⟨r13, h8, h⟩ := h
  replace h8 := zca2 q (M + 6) (by omega) _ _ h8
  try simp only [kf, simprocAttr] at h8
  replace h := bb h; rcases h with ⟨h9', h9, h⟩ | ⟨h9', h9, h⟩
  ·replace h := bn h; obtain ⟨h10, h⟩ := h
   replace h := bn h; obtain ⟨h11, h⟩ := h
   replace h := br h; rcases h with ⟨h12, h⟩ | ⟨h12, h⟩
   ·cases h; subst hR; simp only [zcbk, simprocAttr, *]
   ·replace h := br h; rcases h with ⟨h13, h⟩ | ⟨h13, h⟩
    ·replace h := ob h; obtain ⟨r14, h14, h⟩ := h
     replace h14 := zca2 q (M + 6) (by omega) _ _ h14
     try simp only [kf, simprocAttr] at h14
     replace h := br h; rcases h with ⟨h15, h⟩ | ⟨h15, h⟩
     ·replace h := bn h; obtain ⟨h16, h⟩ := h
      replace h := bn h; obtain ⟨h17, h⟩ := h
      replace h := zcci M (by omega) (M + 7) (by omega) _ _ _ _ _ _ _ _ _ _ _ h R hR
      simp only [zcbk, simprocAttr, *]
     ·replace h := bn h; obtain ⟨h18, h⟩ := h
      replace h := bn h; obtain ⟨h19, h⟩ := h
      replace h := zcci M (by omega) (M + 7) (by omega) _ _ _ _ _ _ _ _ _ _ _ h R hR
      simp only [zcbk, simprocAttr, *]
    ·replace h := ob h; obtain ⟨r15, h20, h⟩ := h
     replace h20 := zca2 q (M + 6) (by omega) _ _ h20
     try simp only [kf, simprocAttr] at h20
     replace h := br h; rcases h with ⟨h21, h⟩ | ⟨h21, h⟩
     ·replace h := bn h; obtain ⟨h22, h⟩ := h
      replace h := bn h; obtain ⟨h23, h⟩ := h
      replace h := zcci M (by omega) (M + 7) (by omega) _ _ _ _ _ _ _ _ _ _ _ h R hR
      simp only [zcbk, simprocAttr, *]
     ·replace h := bn h; obtain ⟨h24, h⟩ := h
      replace h := bn h; obtain ⟨h25, h⟩ := h
      replace h := zcci M (by omega) (M + 7) (by omega) _ _ _ _ _ _ _ _ _ _ _ h R hR
      simp only [zcbk, simprocAttr, *]
  ·replace h := bn h; obtain ⟨h26, h⟩ := h
   replace h := bn h; obtain ⟨h27, h⟩ := h
   replace h := br h; rcases h with ⟨h28, h⟩ | ⟨h28, h⟩
   ·cases h; subst hR; simp only [zcbk, simprocAttr, *]
   ·replace h := br h; rcases h with ⟨h29, h⟩ | ⟨h29, h⟩
    ·replace h := ob h; obtain ⟨r16, h30, h⟩ := h
     replace h30 := zca2 q (M + 6) (by omega) _ _ h30
     try simp only [kf, simprocAttr] at h30
     replace h := bn h; obtain ⟨h31, h⟩ := h
     replace h := bn h; obtain ⟨h32, h⟩ := h
     replace h := zcci M (by omega) (M + 7) (by omega) _ _ _ _ _ _ _ _ _ _ _ h R hR
     simp only [zcbk, simprocAttr, *]
    ·replace h := ob h; obtain ⟨r17, h33, h⟩ := h
     replace h33 := zca2 q (M + 6) (by omega) _ _ h33
     try simp only [kf, simprocAttr] at h33
     replace h := bn h; obtain ⟨h34, h⟩ := h
     replace h := bn h; obtain ⟨h35, h⟩ := h
     replace h := zcci M (by omega) (M + 7) (by omega) _ _ _ _ _ _ _ _ _ _ _ h R hR
     simp only [zcbk, simprocAttr, *]
theorem zcbm (q : Nat) (zcch : zcbf q) (zccj : zcbh q) : zcbf (q + 1) := by
 intro M hM j hj v6 v7 h1_0z h1_0l h1_1 h2_0 h2_1 h2_2 h2_3 h3l r h R hR fr H hc
 obtain ⟨j, rfl⟩ : ∃ i, j = i + 1 := ⟨j - 1, by omega⟩
 rw [zhn, hc]; clear hc
 rw [zoq] at h
 replace h := br h; rcases h with ⟨h1, h⟩ | ⟨h1, h⟩
 ·replace h := ob h; obtain ⟨r18, h2, h⟩ := h
  replace h2 := zcbd q (M + 6) (by omega) _ _ h2
  try simp only [kf, simprocAttr] at h2
  replace h := bb h; rcases h with ⟨h3', h3, h⟩ | ⟨h3', h3, h⟩
  ·replace h := bn h; obtain ⟨h4, h⟩ := h
   replace h := bn h; obtain ⟨h5, h⟩ := h
   replace h := bn h; obtain ⟨h6, h⟩ := h
   replace h := zcch M (by omega) j (by omega) _ _ _ _ _ _ _ _ _ _ _ h R hR
   simp only [zcbk, simprocAttr, *]
  ·replace h := bn h; obtain ⟨h7, h⟩ := h
   replace h := bn h; obtain ⟨h8, h⟩ := h
   replace h := bn h; obtain ⟨h9, h⟩ := h
   replace h := zcch M (by omega) j (by omega) _ _ _ _ _ _ _ _ _ _ _ h R hR
   simp only [zcbk, simprocAttr, *]
 ·replace h := ob h; obtain ⟨r19, h10, h⟩ := h
  replace h10 := zca2 q (M + 6) (by omega) _ _ h10
  try simp only [kf, simprocAttr] at h10
  replace h := bb h; rcases h with ⟨h11', h11, h⟩ | ⟨h11', h11, h⟩
  ·replace h := bn h; obtain ⟨h12, h⟩ := h
   replace h := bn h; obtain ⟨h13, h⟩ := h
   replace h := br h; rcases h with ⟨h14, h⟩ | ⟨h14, h⟩
   ·cases h; subst hR; simp only [zcbk, simprocAttr, *]
   ·replace h := br h; rcases h with ⟨h15, h⟩ | ⟨h15, h⟩
    ·replace h := ob h; obtain ⟨r20, h16, h⟩ := h
     replace h16 := zca2 q (M + 6) (by omega) _ _ h16
     try simp only [kf, simprocAttr] at h16
     replace h := br h; rcases h with ⟨h17, h⟩ | ⟨h17, h⟩
     ·replace h := bn h; obtain ⟨h18, h⟩ := h
      replace h := bn h; obtain ⟨h19, h⟩ := h
      replace h := zccj M (by omega) (M + 7) (by omega) _ _ _ _ _ _ _ _ _ _ _ _ h R hR
      simp only [zcbk, simprocAttr, *]
     ·replace h := bn h; obtain ⟨h20, h⟩ := h
      replace h := bn h; obtain ⟨h21, h⟩ := h
      replace h := zccj M (by omega) (M + 7) (by omega) _ _ _ _ _ _ _ _ _ _ _ _ h R hR
      simp only [zcbk, simprocAttr, *]
    ·replace h := ob h; obtain ⟨r21, h22, h⟩ := h
     replace h22 := zca2 q (M + 6) (by omega) _ _ h22
     try simp only [kf, simprocAttr] at h22
     replace h := br h; rcases h with ⟨h23, h⟩ | ⟨h23, h⟩
     ·replace h := bn h; obtain ⟨h24, h⟩ := h
      replace h := bn h; obtain ⟨h25, h⟩ := h
      replace h := zccj M (by omega) (M + 7) (by omega) _ _ _ _ _ _ _ _ _ _ _ _ h R hR
      simp only [zcbk, simprocAttr, *]
     ·replace h := bn h; obtain ⟨h26, h⟩ := h
      replace h := bn h; obtain ⟨h27, h⟩ := h
      replace h := zccj M (by omega) (M + 7) (by omega) _ _ _ _ _ _ _ _ _ _ _ _ h R hR
      simp only [zcbk, simprocAttr, *]
  ·replace h := bn h; obtain ⟨h28, h⟩ := h
   replace h := bn h; obtain ⟨h29, h⟩ := h
   replace h := br h; rcases h with ⟨h30, h⟩ | ⟨h30, h⟩
   ·cases h; subst hR; simp only [zcbk, simprocAttr, *]
   ·replace h := br h; rcases h with ⟨h31, h⟩ | ⟨h31, h⟩
    ·replace h := ob h; obtain ⟨r22, h32, h⟩ := h
     replace h32 := zca2 q (M + 6) (by omega) _ _ h32
     try simp only [kf, simprocAttr] at h32
     replace h := bn h; obtain ⟨h33, h⟩ := h
     replace h := bn h; obtain ⟨h34, h⟩ := h
     replace h := zccj M (by omega) (M + 7) (by omega) _ _ _ _ _ _ _ _ _ _ _ _ h R hR
     simp only [zcbk, simprocAttr, *]
    ·replace h := ob h; obtain ⟨r23, h35, h⟩ := h
     replace h35 := zca2 q (M + 6) (by omega) _ _ h35
     try simp only [kf, simprocAttr] at h35
     replace h := bn h; obtain ⟨h36, h⟩ := h
     replace h := bn h; obtain ⟨h37, h⟩ := h
     replace h := zccj M (by omega) (M + 7) (by omega) _ _ _ _ _ _ _ _ _ _ _ _ h R hR
     simp only [zcbk, simprocAttr, *]
theorem zcbn (q : Nat) (zcck : zcbi q) : zcbg (q + 1) := by
 intro M hM j hj v10 h1_0z h1_0l h1_1 h2_0 h2_1 h2_2 h2_3 h2_5 h2_6 r h R hR fr H hc
 obtain ⟨j, rfl⟩ : ∃ i, j = i + 1 := ⟨j - 1, by omega⟩
 rw [zhn, hc]; clear hc
 rw [zos] at h
 replace h := br h; rcases h with ⟨h1, h⟩ | ⟨h1, h⟩
 ·replace h := bb h; rcases h with ⟨h2', h2, h⟩ | ⟨h2', h2, h⟩
  ·replace h := ob h; obtain ⟨r24, h3, h⟩ := h
   replace h3 := zca2 q (M + 6) (by omega) _ _ h3
   try simp only [kf, simprocAttr] at h3
   replace h := bn h; obtain ⟨h4, h⟩ := h
   replace h := bn h; obtain ⟨h5, h⟩ := h
   replace h := ob h; obtain ⟨r25, h6, h⟩ := h
   replace h6 := zca2 q (M + 6) (by omega) _ _ h6
   try simp only [kf, simprocAttr] at h6
   replace h := br h; rcases h with ⟨h7, h⟩ | ⟨h7, h⟩
   ·replace h := bn h; obtain ⟨h8, h⟩ := h
    replace h := bn h; obtain ⟨h9, h⟩ := h
    replace h := ob h; obtain ⟨r26, h10, h⟩ := h
    replace h10 := zcbd q (M + 6) (by omega) _ _ h10
    try simp only [kf, simprocAttr] at h10
    replace h := br h; rcases h with ⟨h11, h⟩ | ⟨h11, h⟩
    ·replace h := bn h; obtain ⟨h12, h⟩ := h
     replace h := bn h; obtain ⟨h13, h⟩ := h
     replace h := zcck M (by omega) j (by omega) _ _ _ _ _ _ _ _ _ _ _ _ _ h R hR
     simp only [zcbk, simprocAttr, *]
    ·replace h := bn h; obtain ⟨h14, h⟩ := h
     replace h := bn h; obtain ⟨h15, h⟩ := h
     replace h := zcck M (by omega) j (by omega) _ _ _ _ _ _ _ _ _ _ _ _ _ h R hR
     simp only [zcbk, simprocAttr, *]
   ·replace h := bn h; obtain ⟨h16, h⟩ := h
    replace h := bn h; obtain ⟨h17, h⟩ := h
    replace h := ob h; obtain ⟨r27, h18, h⟩ := h
    replace h18 := zcbd q (M + 6) (by omega) _ _ h18
    try simp only [kf, simprocAttr] at h18
    replace h := bn h; obtain ⟨h19, h⟩ := h
    replace h := bn h; obtain ⟨h20, h⟩ := h
    replace h := zcck M (by omega) j (by omega) _ _ _ _ _ _ _ _ _ _ _ _ _ h R hR
    simp only [zcbk, simprocAttr, *]
  ·cases h; subst hR; simp only [zcbk, simprocAttr, *]
 ·replace h := bb h; rcases h with ⟨h21', h21, h⟩ | ⟨h21', h21, h⟩
  ·cases h; subst hR; simp only [zcbk, simprocAttr, *]
  ·cases h; subst hR; simp only [zcbk, simprocAttr, *]
theorem zcbo (q : Nat) (zccl : zcbj q) : zcbh (q + 1) := by
 intro M hM j hj v10 h1_0z h1_0l h1_1 h2_0 h2_1 h2_2 h2_3 h2_5 h2_6 h3l r h R hR fr H hc
 obtain ⟨j, rfl⟩ : ∃ i, j = i + 1 := ⟨j - 1, by omega⟩
 rw [zhn, hc]; clear hc
 rw [zop] at h
 replace h := br h; rcases h with ⟨h1, h⟩ | ⟨h1, h⟩
 ·replace h := bb h; rcases h with ⟨h2', h2, h⟩ | ⟨h2', h2, h⟩
  ·replace h := ob h; obtain ⟨r28, h3, h⟩ := h
   replace h3 := zca2 q (M + 6) (by omega) _ _ h3
   try simp only [kf, simprocAttr] at h3
   replace h := bn h; obtain ⟨h4, h⟩ := h
   replace h := bn h; obtain ⟨h5, h⟩ := h
   replace h := ob h; obtain ⟨r29, h6, h⟩ := h
   replace h6 := zca2 q (M + 6) (by omega) _ _ h6
   try simp only [kf, simprocAttr] at h6
   replace h := br h; rcases h with ⟨h7, h⟩ | ⟨h7, h⟩
   ·replace h := bn h; obtain ⟨h8, h⟩ := h
    replace h := bn h; obtain ⟨h9, h⟩ := h
    replace h := ob h; obtain ⟨r30, h10, h⟩ := h
    replace h10 := zcbd q (M + 6) (by omega) _ _ h10
    try simp only [kf, simprocAttr] at h10
    replace h := br h; rcases h with ⟨h11, h⟩ | ⟨h11, h⟩
    ·replace h := bn h; obtain ⟨h12, h⟩ := h
     replace h := bn h; obtain ⟨h13, h⟩ := h
     replace h := zccl M (by omega) j (by omega) _ _ _ _ _ _ _ _ _ _ _ _ _ _ h R hR
     simp only [zcbk, simprocAttr, *]
    ·replace h := bn h; obtain ⟨h14, h⟩ := h
     replace h := bn h; obtain ⟨h15, h⟩ := h
     replace h := zccl M (by omega) j (by omega) _ _ _ _ _ _ _ _ _ _ _ _ _ _ h R hR
     simp only [zcbk, simprocAttr, *]
   ·replace h := bn h; obtain ⟨h16, h⟩ := h
    replace h := bn h; obtain ⟨h17, h⟩ := h
    replace h := ob h; obtain ⟨r31, h18, h⟩ := h
    replace h18 := zcbd q (M + 6) (by omega) _ _ h18
    try simp only [kf, simprocAttr] at h18
    replace h := bn h; obtain ⟨h19, h⟩ := h
    replace h := bn h; obtain ⟨h20, h⟩ := h
    replace h := zccl M (by omega) j (by omega) _ _ _ _ _ _ _ _ _ _ _ _ _ _ h R hR
    simp only [zcbk, simprocAttr, *]
  ·cases h; subst hR; simp only [zcbk, simprocAttr, *]
 ·replace h := bb h; rcases h with ⟨h21', h21, h⟩ | ⟨h21', h21, h⟩
  ·cases h; subst hR; simp only [zcbk, simprocAttr, *]
  ·cases h; subst hR; simp only [zcbk, simprocAttr, *]
theorem zcbp (q : Nat) (zcck : zcbi q) : zcbi (q + 1) := by
 intro M hM j hj v10 v11 h1_0z h1_0l h1_1 h2_0 h2_1 h2_2 h2_3 h2_5 h2_6 h3l r h R hR fr H hc
 obtain ⟨j, rfl⟩ : ∃ i, j = i + 1 := ⟨j - 1, by omega⟩
 rw [zhn, hc]; clear hc
 rw [zor] at h
 replace h := br h; rcases h with ⟨h1, h⟩ | ⟨h1, h⟩
 ·replace h := bb h; rcases h with ⟨h2', h2, h⟩ | ⟨h2', h2, h⟩
  ·replace h := ob h; obtain ⟨r32, h3, h⟩ := h
   replace h3 := zca2 q (M + 6) (by omega) _ _ h3
   try simp only [kf, simprocAttr] at h3
   replace h := bn h; obtain ⟨h4, h⟩ := h
   replace h := bn h; obtain ⟨h5, h⟩ := h
   replace h := ob h; obtain ⟨r33, h6, h⟩ := h
   replace h6 := zca2 q (M + 6) (by omega) _ _ h6
   try simp only [kf, simprocAttr] at h6
   replace h := br h; rcases h with ⟨h7, h⟩ | ⟨h7, h⟩
   ·replace h := bn h; obtain ⟨h8, h⟩ := h
    replace h := bn h; obtain ⟨h9, h⟩ := h
    replace h := ob h; obtain ⟨r34, h10, h⟩ := h
    replace h10 := zcbd q (M + 6) (by omega) _ _ h10
    try simp only [kf, simprocAttr] at h10
    replace h := br h; rcases h with ⟨h11, h⟩ | ⟨h11, h⟩
    ·replace h := bn h; obtain ⟨h12, h⟩ := h
     replace h := bn h; obtain ⟨h13, h⟩ := h
     replace h := bn h; obtain ⟨h14, h⟩ := h
     replace h := zcck M (by omega) j (by omega) _ _ _ _ _ _ _ _ _ _ _ _ _ h R hR
     simp only [zcbk, simprocAttr, *]
    ·replace h := bn h; obtain ⟨h15, h⟩ := h
     replace h := bn h; obtain ⟨h16, h⟩ := h
     replace h := bn h; obtain ⟨h17, h⟩ := h
     replace h := zcck M (by omega) j (by omega) _ _ _ _ _ _ _ _ _ _ _ _ _ h R hR
     simp only [zcbk, simprocAttr, *]
   ·replace h := bn h; obtain ⟨h18, h⟩ := h
    replace h := bn h; obtain ⟨h19, h⟩ := h
    replace h := ob h; obtain ⟨r35, h20, h⟩ := h
    replace h20 := zcbd q (M + 6) (by omega) _ _ h20
    try simp only [kf, simprocAttr] at h20
    replace h := bn h; obtain ⟨h21, h⟩ := h
    replace h := bn h; obtain ⟨h22, h⟩ := h
    replace h := bn h; obtain ⟨h23, h⟩ := h
    replace h := zcck M (by omega) j (by omega) _ _ _ _ _ _ _ _ _ _ _ _ _ h R hR
    simp only [zcbk, simprocAttr, *]
  ·cases h; subst hR; simp only [zcbk, simprocAttr, *]
 ·replace h := bb h; rcases h with ⟨h24', h24, h⟩ | ⟨h24', h24, h⟩
  ·cases h; subst hR; simp only [zcbk, simprocAttr, *]
  ·cases h; subst hR; simp only [zcbk, simprocAttr, *]
theorem zcbq (q : Nat) (zccl : zcbj q) : zcbj (q + 1) := by
 intro M hM j hj v10 v11 h1_0z h1_0l h1_1 h2_0 h2_1 h2_2 h2_3 h2_5 h2_6 h3l h4l r h R hR fr H hc
 obtain ⟨j, rfl⟩ : ∃ i, j = i + 1 := ⟨j - 1, by omega⟩
 rw [zhn, hc]; clear hc
 rw [zoo] at h
 replace h := br h; rcases h with ⟨h1, h⟩ | ⟨h1, h⟩
 ·replace h := bb h; rcases h with ⟨h2', h2, h⟩ | ⟨h2', h2, h⟩
  ·replace h := ob h; obtain ⟨r36, h3, h⟩ := h
   replace h3 := zca2 q (M + 6) (by omega) _ _ h3
   try simp only [kf, simprocAttr] at h3
   replace h := bn h; obtain ⟨h4, h⟩ := h
   replace h := bn h; obtain ⟨h5, h⟩ := h
   replace h := ob h; obtain ⟨r37, h6, h⟩ := h
   replace h6 := zca2 q (M + 6) (by omega) _ _ h6
   try simp only [kf, simprocAttr] at h6
   replace h := br h; rcases h with ⟨h7, h⟩ | ⟨h7, h⟩
   ·replace h := bn h; obtain ⟨h8, h⟩ := h
    replace h := bn h; obtain ⟨h9, h⟩ := h
    replace h := ob h; obtain ⟨r38, h10, h⟩ := h
    replace h10 := zcbd q (M + 6) (by omega) _ _ h10
    try simp only [kf, simprocAttr] at h10
    replace h := br h; rcases h with ⟨h11, h⟩ | ⟨h11, h⟩
    ·replace h := bn h; obtain ⟨h12, h⟩ := h
     replace h := bn h; obtain ⟨h13, h⟩ := h
     replace h := bn h; obtain ⟨h14, h⟩ := h
     replace h := zccl M (by omega) j (by omega) _ _ _ _ _ _ _ _ _ _ _ _ _ _ h R hR
     simp only [zcbk, simprocAttr, *]
    ·replace h := bn h; obtain ⟨h15, h⟩ := h
     replace h := bn h; obtain ⟨h16, h⟩ := h
     replace h := bn h; obtain ⟨h17, h⟩ := h
     replace h := zccl M (by omega) j (by omega) _ _ _ _ _ _ _ _ _ _ _ _ _ _ h R hR
     simp only [zcbk, simprocAttr, *]
   ·replace h := bn h; obtain ⟨h18, h⟩ := h
    replace h := bn h; obtain ⟨h19, h⟩ := h
    replace h := ob h; obtain ⟨r39, h20, h⟩ := h
    replace h20 := zcbd q (M + 6) (by omega) _ _ h20
    try simp only [kf, simprocAttr] at h20
    replace h := bn h; obtain ⟨h21, h⟩ := h
    replace h := bn h; obtain ⟨h22, h⟩ := h
    replace h := bn h; obtain ⟨h23, h⟩ := h
    replace h := zccl M (by omega) j (by omega) _ _ _ _ _ _ _ _ _ _ _ _ _ _ h R hR
    simp only [zcbk, simprocAttr, *]
  ·cases h; subst hR; simp only [zcbk, simprocAttr, *]
 ·replace h := bb h; rcases h with ⟨h24', h24, h⟩ | ⟨h24', h24, h⟩
  ·cases h; subst hR; simp only [zcbk, simprocAttr, *]
  ·cases h; subst hR; simp only [zcbk, simprocAttr, *]
theorem zcbr : ∀ q, zcbe q ∧ zcbf q ∧ zcbg q ∧ zcbh q ∧ zcbi q ∧ zcbj q
 | 0 => by refine ⟨?_, ?_, ?_, ?_, ?_, ?_⟩ <;> (intro M hM j hj; intros; rename_i h _ _ _ _ _; cases h)
 | q + 1 => by have ⟨i0, i1, i2, i3, i4, i5⟩ := zcbr q; exact ⟨zcbl q i1 i2, zcbm q i1 i3, zcbn q i4, zcbo q i5, zcbp q i4, zcbq q i5⟩
theorem zcbs : ∀ (q N : Nat), 8 * q ≤ N → ∀ (a0 : (Sl Int)), ∀ (r : zjs × Bool), zou q a0 = some r → (orc T N).deep F.zou [(Sl.enc (V.int .u8)) a0] = some [zjs.enc r.1, V.bool r.2] := by
 intro q N hM a0 r h
 rcases q with _ | q
 ·cases h
 obtain ⟨M, rfl⟩ : ∃ M, N = M + 8 := ⟨N - 8, by omega⟩
 have ih_ferrymanref10_read_l0 := (zcbr q).1
 generalize hR : some [zjs.enc r.1, V.bool r.2] = R
 rw [zhx, zbmj, y8, zhv z4d rfl]
 rw [zou] at h
 replace h := ob h; obtain ⟨r1, h1, h⟩ := h
 replace h1 := zca2 q (M + 6) (by omega) _ _ h1
 try simp only [kf, simprocAttr] at h1
 replace h := bn h; obtain ⟨h2, h⟩ := h
 replace h := bn h; obtain ⟨h3, h⟩ := h
 replace h := ob h; obtain ⟨r2, h4, h⟩ := h
 replace h4 := zca2 q (M + 6) (by omega) _ _ h4
 try simp only [kf, simprocAttr] at h4
 replace h := br h; rcases h with ⟨h5, h⟩ | ⟨h5, h⟩
 ·replace h := bn h; obtain ⟨h6, h⟩ := h
  replace h := bn h; obtain ⟨h7, h⟩ := h
  replace h := ob h; obtain ⟨r3, h8, h⟩ := h
  replace h8 := zca2 q (M + 6) (by omega) _ _ h8
  try simp only [kf, simprocAttr] at h8
  replace h := br h; rcases h with ⟨h9, h⟩ | ⟨h9, h⟩
  ·replace h := bn h; obtain ⟨h10, h⟩ := h
   replace h := bn h; obtain ⟨h11, h⟩ := h
   replace h := ob h; obtain ⟨r4, h12, h⟩ := h
   replace h12 := zca2 q (M + 6) (by omega) _ _ h12
   try simp only [kf, simprocAttr] at h12
   replace h := br h; rcases h with ⟨h13, h⟩ | ⟨h13, h⟩
   ·replace h := bn h; obtain ⟨h14, h⟩ := h
    replace h := bn h; obtain ⟨h15, h⟩ := h
    replace h := ob h; obtain ⟨r5, h16, h⟩ := h
    replace h16 := zca2 q (M + 6) (by omega) _ _ h16
    try simp only [kf, simprocAttr] at h16
    replace h := br h; rcases h with ⟨h17, h⟩ | ⟨h17, h⟩
    ·replace h := bn h; obtain ⟨h18, h⟩ := h
     replace h := bn h; obtain ⟨h19, h⟩ := h
     replace h := br h; rcases h with ⟨h20, h⟩ | ⟨h20, h⟩
     ·replace h := br h; rcases h with ⟨h21, h⟩ | ⟨h21, h⟩
      ·cases h; subst hR; simp only [zcbk, simprocAttr, *]
      ·replace h := ih_ferrymanref10_read_l0 M (by omega) (M + 7) (by omega) _ _ _ _ _ _ _ _ _ h R hR
       simp only [zcbk, simprocAttr, *]
     ·cases h; subst hR; simp only [zcbk, simprocAttr, *]
    ·replace h := bn h; obtain ⟨h22, h⟩ := h
     replace h := bn h; obtain ⟨h23, h⟩ := h
     cases h; subst hR; simp only [zcbk, simprocAttr, *]
   ·replace h := bn h; obtain ⟨h24, h⟩ := h
    replace h := bn h; obtain ⟨h25, h⟩ := h
    replace h := ob h; obtain ⟨r6, h26, h⟩ := h
    replace h26 := zca2 q (M + 6) (by omega) _ _ h26
    try simp only [kf, simprocAttr] at h26
    replace h := bn h; obtain ⟨h27, h⟩ := h
    replace h := bn h; obtain ⟨h28, h⟩ := h
    cases h; subst hR; simp only [zcbk, simprocAttr, *]
  ·replace h := bn h; obtain ⟨h29, h⟩ := h
   replace h := bn h; obtain ⟨h30, h⟩ := h
   replace h := ob h; obtain ⟨r7, h31, h⟩ := h
   replace h31 := zca2 q (M + 6) (by omega) _ _ h31
   try simp only [kf, simprocAttr] at h31
   replace h := bn h; obtain ⟨h32, h⟩ := h
   replace h := bn h; obtain ⟨h33, h⟩ := h
   replace h := ob h; obtain ⟨r8, h34, h⟩ := h
   replace h34 := zca2 q (M + 6) (by omega) _ _ h34
   try simp only [kf, simprocAttr] at h34
   replace h := bn h; obtain ⟨h35, h⟩ := h
   replace h := bn h; obtain ⟨h36, h⟩ := h
   cases h; subst hR; simp only [zcbk, simprocAttr, *]
 ·replace h := bn h; obtain ⟨h37, h⟩ := h
  replace h := bn h; obtain ⟨h38, h⟩ := h
  replace h := ob h; obtain ⟨r9, h39, h⟩ := h
  replace h39 := zca2 q (M + 6) (by omega) _ _ h39
  try simp only [kf, simprocAttr] at h39
  replace h := bn h; obtain ⟨h40, h⟩ := h
  replace h := bn h; obtain ⟨h41, h⟩ := h
  replace h := ob h; obtain ⟨r10, h42, h⟩ := h
  replace h42 := zca2 q (M + 6) (by omega) _ _ h42
  try simp only [kf, simprocAttr] at h42
  replace h := bn h; obtain ⟨h43, h⟩ := h
  replace h := bn h; obtain ⟨h44, h⟩ := h
  replace h := ob h; obtain ⟨r11, h45, h⟩ := h
  replace h45 := zca2 q (M + 6) (by omega) _ _ h45
  try simp only [kf, simprocAttr] at h45
  replace h := bn h; obtain ⟨h46, h⟩ := h
  replace h := bn h; obtain ⟨h47, h⟩ := h
  cases h; subst hR; simp only [zcbk, simprocAttr, *]
def zcbt := And.intro @kk <| And.intro @ke <| And.intro @kn <| And.intro @zbo1 <| And.intro @zbq7 <| And.intro @zbrj <| And.intro @zbrm <| @zbo3
theorem zcbu : ∀ (q N : Nat), 8 * q ≤ N → ∀ (a0 : (Sl Int)), ∀ (r : zjs × Int), zov q a0 = some r → (orc T N).deep F.zov [(Sl.enc (V.int .u8)) a0] = some [zjs.enc r.1, (V.int .i64) r.2] := by
 intro q N hM a0 r h
 rcases q with _ | q
 ·cases h
 obtain ⟨M, rfl⟩ : ∃ M, N = M + 8 := ⟨N - 8, by omega⟩
 generalize hR : some [zjs.enc r.1, (V.int .i64) r.2] = R
 rw [zhx, zblo, y8, zhv zvc rfl]
 rw [zov] at h
 replace h := ob h; obtain ⟨r1, h1, h⟩ := h
 replace h1 := zca9 q (M + 7) (by omega) _ _ h1
 try simp only [kf, simprocAttr] at h1
 replace h := br h; rcases h with ⟨h2, h⟩ | ⟨h2, h⟩
 ·replace h := br h; rcases h with ⟨h3, h⟩ | ⟨h3, h⟩
  ·replace h := ob h; obtain ⟨r2, h4, h⟩ := h
   replace h4 := zcbs q (M + 7) (by omega) _ _ h4
   try simp only [kf, simprocAttr] at h4
   replace h := bb h; rcases h with ⟨h5', h5, h⟩ | ⟨h5', h5, h⟩
   ·replace h := ob h; obtain ⟨r3, h6, h⟩ := h
    replace h6 := zb9p q (M + 7) (by omega) _ _ h6
    try simp only [kf, simprocAttr] at h6
    replace h := bb h; rcases h with ⟨h7', h7, h⟩ | ⟨h7', h7, h⟩
    ·cases h; subst hR; simp only [zcbt, simprocAttr, *]
    ·cases h; subst hR; simp only [zcbt, simprocAttr, *]
   ·cases h; subst hR; simp only [zcbt, simprocAttr, *]
  ·cases h; subst hR; simp only [zcbt, simprocAttr, *]
 ·cases h; subst hR; simp only [zcbt, simprocAttr, *]
def zcbv := And.intro @kk <| And.intro @ke <| And.intro @kn <| And.intro @zbo4 <| And.intro @zbp5 <| And.intro @zbrp <| @zbo6
theorem zcbw : ∀ (q N : Nat), 8 * q ≤ N → ∀ (a0 a1 : zjs), ∀ (r : Bool), zow q a0 a1 = some r → (orc T N).deep F.zow [zjs.enc a0, zjs.enc a1] = some [V.bool r] := by
 intro q N hM a0 a1 r h
 rcases q with _ | q
 ·cases h
 obtain ⟨M, rfl⟩ : ∃ M, N = M + 8 := ⟨N - 8, by omega⟩
 generalize hR : some [V.bool r] = R
 rw [zhx, zblp, y8, zhv zve rfl]
 rw [zow] at h
 replace h := br h; rcases h with ⟨h1, h⟩ | ⟨h1, h⟩
 ·replace h := br h; rcases h with ⟨h2, h⟩ | ⟨h2, h⟩
  ·replace h := br h; rcases h with ⟨h3, h⟩ | ⟨h3, h⟩
   ·replace h := br h; rcases h with ⟨h4, h⟩ | ⟨h4, h⟩
    ·replace h := ob h; obtain ⟨r1, h5, h⟩ := h
     replace h5 := zb1s q (M + 7) (by omega) _ _ _ h5
     try simp only [kf, simprocAttr] at h5
     replace h := bb h; rcases h with ⟨h6', h6, h⟩ | ⟨h6', h6, h⟩
     ·replace h := bb h; rcases h with ⟨h7', h7, h⟩ | ⟨h7', h7, h⟩
      ·replace h := br h; rcases h with ⟨h8, h⟩ | ⟨h8, h⟩
       ·replace h := ob h; obtain ⟨r2, h9, h⟩ := h
        replace h9 := zb1z q (M + 7) (by omega) _ _ _ h9
        try simp only [kf, simprocAttr] at h9
        cases h; subst hR; simp only [zcbv, simprocAttr, *]
       ·cases h; subst hR; simp only [zcbv, simprocAttr, *]
      ·cases h; subst hR; simp only [zcbv, simprocAttr, *]
     ·cases h; subst hR; simp only [zcbv, simprocAttr, *]
    ·cases h; subst hR; simp only [zcbv, simprocAttr, *]
   ·cases h; subst hR; simp only [zcbv, simprocAttr, *]
  ·cases h; subst hR; simp only [zcbv, simprocAttr, *]
 ·cases h; subst hR; simp only [zcbv, simprocAttr, *]
def zcbx := And.intro @kk <| And.intro @ke <| And.intro @kn <| And.intro @zbn1 <| And.intro @zbn5 <| And.intro @zbob <| And.intro @zbon <| And.intro @zboq <| And.intro @zbow <| And.intro @zboz <| And.intro @zbo2 <| And.intro @zbo5 <| @zbn3
theorem zcby : ∀ (q N : Nat), 8 * q ≤ N → ∀ (a0 : zjs) (a1 : (Sl Int)), ∀ (r : Bool), zox q a0 a1 = some r → (orc T N).deep F.zox [zjs.enc a0, (Sl.enc (V.int .u8)) a1] = some [V.bool r] := by
 intro q N hM a0 a1 r h
 rcases q with _ | q
 ·cases h
 obtain ⟨M, rfl⟩ : ∃ M, N = M + 8 := ⟨N - 8, by omega⟩
 generalize hR : some [V.bool r] = R
 rw [zhx, zblc, y8, zhv zpi rfl]
 rw [zox] at h
 replace h := ob h; obtain ⟨r1, h1, h⟩ := h
 replace h1 := zb13 q (M + 7) (by omega)  _ h1
 replace h := ob h; obtain ⟨r2, h2, h⟩ := h
 replace h2 := zb9i q (M + 7) (by omega) _ _ h2
 try simp only [kf, simprocAttr] at h2
 replace h := bb h; rcases h with ⟨h3', h3, h⟩ | ⟨h3', h3, h⟩
 ·replace h := bb h; rcases h with ⟨h4', h4, h⟩ | ⟨h4', h4, h⟩
  ·replace h := br h; rcases h with ⟨h5, h⟩ | ⟨h5, h⟩
   ·cases h; subst hR; simp only [zcbx, simprocAttr, *]
   ·replace h := ob h; obtain ⟨r3, h6, h⟩ := h
    replace h6 := zb9g q (M + 7) (by omega) _ _ h6
    try simp only [kf, simprocAttr] at h6
    replace h := ob h; obtain ⟨r4, h7, h⟩ := h
    replace h7 := zcaq q (M + 7) (by omega) _ _ h7
    try simp only [kf, simprocAttr] at h7
    replace h := ob h; obtain ⟨r5, h8, h⟩ := h
    replace h8 := zb7o q (M + 7) (by omega) _ _ h8
    try simp only [kf, simprocAttr] at h8
    replace h := ob h; obtain ⟨r6, h9, h⟩ := h
    replace h9 := zcbu q (M + 7) (by omega) _ _ h9
    try simp only [kf, simprocAttr] at h9
    replace h := ob h; obtain ⟨r7, h10, h⟩ := h
    replace h10 := zb2f q (M + 7) (by omega) _ _ _ h10
    try simp only [kf, simprocAttr] at h10
    replace h := br h; rcases h with ⟨h11, h⟩ | ⟨h11, h⟩
    ·replace h := br h; rcases h with ⟨h12, h⟩ | ⟨h12, h⟩
     ·replace h := bb h; rcases h with ⟨h13', h13, h⟩ | ⟨h13', h13, h⟩
      ·replace h := br h; rcases h with ⟨h14, h⟩ | ⟨h14, h⟩
       ·replace h := ob h; obtain ⟨r8, h15, h⟩ := h
        replace h15 := zcbw q (M + 7) (by omega) _ _ _ h15
        try simp only [kf, simprocAttr] at h15
        replace h := bb h; rcases h with ⟨h16', h16, h⟩ | ⟨h16', h16, h⟩
        ·replace h := ob h; obtain ⟨r9, h17, h⟩ := h
         replace h17 := zcbw q (M + 7) (by omega) _ _ _ h17
         try simp only [kf, simprocAttr] at h17
         replace h := ob h; obtain ⟨r10, h18, h⟩ := h
         replace h18 := zb2f q (M + 7) (by omega) _ _ _ h18
         try simp only [kf, simprocAttr] at h18
         cases h; subst hR; simp only [zcbx, simprocAttr, *]
        ·cases h; subst hR; simp only [zcbx, simprocAttr, *]
       ·cases h; subst hR; simp only [zcbx, simprocAttr, *]
      ·cases h; subst hR; simp only [zcbx, simprocAttr, *]
     ·cases h; subst hR; simp only [zcbx, simprocAttr, *]
    ·cases h; subst hR; simp only [zcbx, simprocAttr, *]
  ·cases h; subst hR; simp only [zcbx, simprocAttr, *]
 ·cases h; subst hR; simp only [zcbx, simprocAttr, *]
end Go.Dvm.C
