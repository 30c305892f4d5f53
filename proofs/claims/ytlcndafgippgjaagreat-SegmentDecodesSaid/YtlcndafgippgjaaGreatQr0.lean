/- The machine comes to these answers: part 1. -/
import Derived.Test.YtlcndafgippgjaaGreatQl0
set_option linter.all false
set_option maxRecDepth 100000
set_option maxHeartbeats 4000000
namespace Go.Dvm.C
open Go Go.Dvm Go.Dvm.I
def zb4x := And.intro @kk <| And.intro @ke <| And.intro @kn <| And.intro @zbvg <| @zbvi
theorem zb4y : ∀ (q N : Nat), 8 * q ≤ N → ∀ (a0 : Int), ∀ (r : Bool), zju q a0 = some r → (orc T N).deep F.zju [(V.int .i64) a0] = some [V.bool r] := by
 intro q N hM a0 r h
 rcases q with _ | q
 ·cases h
 obtain ⟨M, rfl⟩ : ∃ M, N = M + 8 := ⟨N - 8, by omega⟩
 generalize hR : some [V.bool r] = R
 rw [zh4, zbp9, y4, zh2]
 rw [zju] at h
 replace h := br h; rcases h with ⟨h1, h⟩ | ⟨h1, h⟩
 ·cases h; subst hR; simp only [zb4x, simprocAttr, *]
 ·cases h; subst hR; simp only [zb4x, simprocAttr, *]
def zb4z (q : Nat) : Prop := ∀ (M : Nat) (hM : 8 * q ≤ M) (j : Nat) (hj : q ≤ j) (w0 : Nat) (v1 : Int) (h0z : Bool) (h0l : List Int) (h0x : Bool) (r : (Ow Int)) (_ : zjv q v1 h0z h0l h0x = some r) (R : Option (List V)) (_ : some [(Ow.enc 1 (V.int .u8)) r] = R) (fr : Fr) (H : Hp) (_ : canon 1 [0, 1] fr H = ([(0, (.vw 0 w0 0 h0l.length 1)), (1, (.int .u64 v1))], [(.row w0 h0z 1 (List.map (V.int .u8) h0l) h0x)])), fin z5b (unw T (orc T (M + 7)) (M + 7) 1 [.blk 0, .code z48] (iter 1 [0, 1] (exec T (orc T (M + 7)) (M + 7) 1 c_60_8) j fr H)) = R
def zb40 := And.intro @kk <| And.intro @ke <| And.intro @kn <| And.intro @zbwv <| @zbwx
theorem zb41 (q : Nat) (zb9p : zb4z q) : zb4z (q + 1) := by
 intro M hM j hj w0 v1 h0z h0l h0x r h R hR fr H hc
 obtain ⟨j, rfl⟩ : ∃ i, j = i + 1 := ⟨j - 1, by omega⟩
 rw [zhv, hc]; clear hc
 rw [zjv] at h
 replace h := br h; rcases h with ⟨h1, h⟩ | ⟨h1, h⟩
 ·replace h := bn h; obtain ⟨h2, h⟩ := h
  replace h := zb9p M (by omega) j (by omega) (w0 + 1) _ _ _ _ _ h R hR
  simp only [zb40, simprocAttr, *]
 ·replace h := bn h; obtain ⟨h3, h⟩ := h
  cases h; subst hR; simp only [zb40, simprocAttr, *]
theorem zb42 : ∀ q, zb4z q
 | 0 => by intro M hM j hj; intros; rename_i h _ _ _ _ _; cases h
 | q + 1 => by have i0 := zb42 q; exact zb41 q i0
theorem zb43 : ∀ (q N : Nat), 8 * q ≤ N → ∀ (a0 : (Ow Int)) (a1 : Int), ∀ (r : (Ow Int)), zjw q a0 a1 = some r → (orc T N).deep F.zjw [(Ow.enc 1 (V.int .u8)) a0, (V.int .u64) a1] = some [(Ow.enc 1 (V.int .u8)) r] := by
 intro q N hM a0 a1 r h
 rcases q with _ | q
 ·cases h
 obtain ⟨M, rfl⟩ : ∃ M, N = M + 8 := ⟨N - 8, by omega⟩
 have zb9p := (zb42 q)
 generalize hR : some [(Ow.enc 1 (V.int .u8)) r] = R
 rw [zh4, zbqq, y4, zh2]
 rw [zjw] at h
 replace h := zb9p M (by omega) (M + 7) (by omega) 0 _ _ _ _ _ h R hR
 simp only [zb40, simprocAttr, *]
def zb44 := And.intro @kk <| And.intro @ke <| And.intro @kn <| And.intro @zbva <| And.intro @zbww <| @zbvc
theorem zb45 : ∀ (q N : Nat), 8 * q ≤ N → ∀ (a0 : (Ow Int)) (a1 : Int), ∀ (r : (Ow Int)), zjx q a0 a1 = some r → (orc T N).deep F.zjx [(Ow.enc 1 (V.int .u8)) a0, (V.int .i64) a1] = some [(Ow.enc 1 (V.int .u8)) r] := by
 intro q N hM a0 a1 r h
 rcases q with _ | q
 ·cases h
 obtain ⟨M, rfl⟩ : ∃ M, N = M + 8 := ⟨N - 8, by omega⟩
 generalize hR : some [(Ow.enc 1 (V.int .u8)) r] = R
 rw [zh4, zbp7, y4, zh2]
 rw [zjx] at h
 replace h := br h; rcases h with ⟨h1, h⟩ | ⟨h1, h⟩
 ·cases h; subst hR; simp only [zb44, simprocAttr, *]
 ·replace h := br h; rcases h with ⟨h2, h⟩ | ⟨h2, h⟩
  ·cases h; subst hR; simp only [zb44, simprocAttr, *]
  ·replace h := ob h; obtain ⟨r1, h3, h⟩ := h
   replace h3 := zb43 q (M + 7) (by omega) _ _ _ h3
   try simp only [kf, simprocAttr] at h3
   cases h; subst hR; simp only [zb44, simprocAttr, *]
def zb46 (q : Nat) : Prop := ∀ (M : Nat) (hM : 8 * q ≤ M) (j : Nat) (hj : q ≤ j) (v5 : Int) (h0_0 h1_0 : List Int) (r : (List Int)) (_ : zjy q v5 h0_0 h1_0 = some r) (R : Option (List V)) (_ : some [(arrEnc (V.int .u32)) r] = R) (fr : Fr) (H : Hp) (_ : canon 0 [0, 1, 5] fr H = ([(0, (.ptr 0 0)), (1, (.ptr 1 0)), (5, (.int .i64 v5))], [(.box (List.map (V.int .u32) h0_0)), (.box (List.map (V.int .u32) h1_0))])), fin zbkn (unw T (orc T (M + 7)) (M + 7) 0 [.blk 0, .code zbkj] (iter 0 [0, 1, 5] (exec T (orc T (M + 7)) (M + 7) 0 zbkg) j fr H)) = R
def zb47 (q : Nat) : Prop := ∀ (M : Nat) (hM : 8 * q ≤ M) (j : Nat) (hj : q ≤ j) (j1 : Nat) (hj1 : q ≤ j1) (v2 v3 v5 v10 : Int) (h0_0 h1_0 : List Int) (r : (List Int)) (_ : zjz q v2 v3 v5 v10 h0_0 h1_0 = some r) (R : Option (List V)) (_ : some [(arrEnc (V.int .u32)) r] = R) (fr : Fr) (H : Hp) (_ : canon 0 [0, 1, 2, 3, 5, 10] fr H = ([(0, (.ptr 0 0)), (1, (.ptr 1 0)), (2, (.int .i64 v2)), (3, (.int .u32 v3)), (5, (.int .i64 v5)), (10, (.int .i64 v10))], [(.box (List.map (V.int .u32) h0_0)), (.box (List.map (V.int .u32) h1_0))])), fin zbkn (unw T (orc T (M + 7)) (M + 7) 0 [.blk 2, .code zbj9, .blk 1, .code zbkd, .rounds [0, 1, 5] zbkg j1, .blk 0, .code zbkj] (iter 0 [0, 1, 2, 3, 5, 10] (exec T (orc T (M + 7)) (M + 7) 0 zbj6) j fr H)) = R
def zb48 := And.intro @kk <| And.intro @ke <| And.intro @kn <| And.intro @zb0j <| @zb0l
theorem zb49 (q : Nat) (zb9q : zb47 q) : zb46 (q + 1) := by
 intro M hM j hj v5 h0_0 h1_0 r h R hR fr H hc
 obtain ⟨j, rfl⟩ : ∃ i, j = i + 1 := ⟨j - 1, by omega⟩
 rw [zhv, hc]; clear hc
 rw [zjy] at h
 replace h := br h; rcases h with ⟨h1, h⟩ | ⟨h1, h⟩
 ·replace h := zb9q M (by omega) (M + 7) (by omega) j (by omega) _ _ _ _ _ _ _ h R hR
  simp (maxDischargeDepth := 12) only [zb48, simprocAttr, arrEnc, *]
 ·replace h := bn h; obtain ⟨h2, h⟩ := h
  replace h := bc h; rcases h with ⟨h3, h⟩ | ⟨h3, h⟩
  ·replace h := bn h; obtain ⟨h4, h⟩ := h
   replace h := bn h; obtain ⟨h5, h⟩ := h
   cases h; subst hR; simp (maxDischargeDepth := 12) only [zb48, simprocAttr, arrEnc, *]
  ·cases h
theorem zb5a (q : Nat) (zb9r : zb46 q) (zb9q : zb47 q) : zb47 (q + 1) := by
 intro M hM j hj j1 hj1 v2 v3 v5 v10 h0_0 h1_0 r h R hR fr H hc
 obtain ⟨j, rfl⟩ : ∃ i, j = i + 1 := ⟨j - 1, by omega⟩
 rw [zhv, hc]; clear hc
 rw [zjz] at h
 replace h := br h; rcases h with ⟨h1, h⟩ | ⟨h1, h⟩
 ·replace h := zb9q M (by omega) j (by omega) j1 (by omega) _ _ _ _ _ _ _ h R hR
  simp (maxDischargeDepth := 12) only [zb48, simprocAttr, arrEnc, *]
 ·replace h := bn h; obtain ⟨h2, h⟩ := h
  replace h := bn h; obtain ⟨h3, h⟩ := h
  replace h := bn h; obtain ⟨h4, h⟩ := h
  replace h := zb9r M (by omega) j1 (by omega) _ _ _ _ h R hR
  simp (maxDischargeDepth := 12) only [zb48, simprocAttr, arrEnc, *]
theorem zb5b : ∀ q, zb46 q ∧ zb47 q
 | 0 => by refine ⟨?_, ?_⟩ <;> (intro M hM j hj; intros; rename_i h _ _ _ _ _; cases h)
 | q + 1 => by have ⟨i0, i1⟩ := zb5b q; exact ⟨zb49 q i1, zb5a q i0 i1⟩
theorem zb5c : ∀ (q N : Nat), 8 * q ≤ N → ∀ (r : (List Int)), zj0 q = some r → (orc T N).deep F.zj0 [] = some [(arrEnc (V.int .u32)) r] := by
 intro q N hM r h
 rcases q with _ | q
 ·cases h
 obtain ⟨M, rfl⟩ : ∃ M, N = M + 8 := ⟨N - 8, by omega⟩
 have zb9r := (zb5b q).1
 generalize hR : some [(arrEnc (V.int .u32)) r] = R
 rw [zh4, zbry, y4, zh2]
 rw [zj0] at h
 replace h := zb9r M (by omega) (M + 7) (by omega) _ _ _ _ h R hR
 simp (maxDischargeDepth := 12) only [zb48, simprocAttr, arrEnc, *]
def zb5d (q : Nat) : Prop := ∀ (M : Nat) (hM : 8 * q ≤ M) (j : Nat) (hj : q ≤ j) (v6 : Int) (v12z : Bool) (v12l : List Int) (v13 v14 : Int) (h0_0 : List Int) (r : Int) (_ : zj1 q v6 v12z v12l v13 v14 h0_0 = some r) (R : Option (List V)) (_ : some [(V.int .u32) r] = R) (fr : Fr) (H : Hp) (_ : canon 0 [5, 6, 12, 13, 14] fr H = ([(5, (.ptr 0 0)), (6, (.int .u32 v6)), (12, (.sl v12z (List.map (V.int .u8) v12l))), (13, (.int .i64 v13)), (14, (.int .i64 v14))], [(.box (List.map (V.int .u32) h0_0))])), fin zbez (unw T (orc T (M + 7)) (M + 7) 0 [.blk 0, .code zbeu] (iter 0 [5, 6, 12, 13, 14] (exec T (orc T (M + 7)) (M + 7) 0 zber) j fr H)) = R
def zb5e := And.intro @kk <| And.intro @ke <| And.intro @kn <| And.intro @zby1 <| And.intro @zb0k <| @zby3
theorem zb5f (q : Nat) (zb9s : zb5d q) : zb5d (q + 1) := by
 intro M hM j hj v6 v12z v12l v13 v14 h0_0 r h R hR fr H hc
 obtain ⟨j, rfl⟩ : ∃ i, j = i + 1 := ⟨j - 1, by omega⟩
 rw [zhv, hc]; clear hc
 rw [zj1] at h
 replace h := br h; rcases h with ⟨h1, h⟩ | ⟨h1, h⟩
 ·replace h := bn h; obtain ⟨h2, h⟩ := h
  replace h := ob h; obtain ⟨e2, h3, h⟩ := h
  replace h := bn h; obtain ⟨h4, h⟩ := h
  replace h := bn h; obtain ⟨h5, h⟩ := h
  replace h := ob h; obtain ⟨e3, h6, h⟩ := h
  replace h := zb9s M (by omega) j (by omega) _ _ _ _ _ _ _ h R hR
  simp only [zb5e, simprocAttr, arrEnc, *]
 ·cases h; subst hR; simp only [zb5e, simprocAttr, arrEnc, *]
theorem zb5g : ∀ q, zb5d q
 | 0 => by intro M hM j hj; intros; rename_i h _ _ _ _ _; cases h
 | q + 1 => by have i0 := zb5g q; exact zb5f q i0
theorem zb5h : ∀ (q N : Nat), 8 * q ≤ N → ∀ (a0 : Int) (a1 : (Sl Int)), ∀ (r : Int), zj2 q a0 a1 = some r → (orc T N).deep F.zj2 [(V.int .u32) a0, (Sl.enc (V.int .u8)) a1] = some [(V.int .u32) r] := by
 intro q N hM a0 a1 r h
 rcases q with _ | q
 ·cases h
 obtain ⟨M, rfl⟩ : ∃ M, N = M + 8 := ⟨N - 8, by omega⟩
 have zb9s := (zb5g q)
 generalize hR : some [(V.int .u32) r] = R
 rw [zh4, zbrg, y4, zh2]
 rw [zj2] at h
 replace h := ob h; obtain ⟨r1, h1, h⟩ := h
 replace h1 := zb5c q (M + 7) (by omega)  _ h1
 try simp only [kf, simprocAttr] at h1
 replace h := bc h; rcases h with ⟨h2, h⟩ | ⟨h2, h⟩
 ·replace h := zb9s M (by omega) (M + 7) (by omega) _ _ _ _ _ _ _ h R hR
  simp only [zb5e, simprocAttr, arrEnc, *]
 ·cases h
def zb5i := And.intro @kk <| And.intro @ke <| And.intro @kn <| And.intro @zby4 <| And.intro @zby2 <| @zby6
theorem zb5j : ∀ (q N : Nat), 8 * q ≤ N → ∀ (a0 : (Sl Int)), ∀ (r : Int), zj3 q a0 = some r → (orc T N).deep F.zj3 [(Sl.enc (V.int .u8)) a0] = some [(V.int .u32) r] := by
 intro q N hM a0 r h
 rcases q with _ | q
 ·cases h
 obtain ⟨M, rfl⟩ : ∃ M, N = M + 8 := ⟨N - 8, by omega⟩
 generalize hR : some [(V.int .u32) r] = R
 rw [zh4, zbrh, y4, zh2]
 rw [zj3] at h
 replace h := ob h; obtain ⟨r1, h1, h⟩ := h
 replace h1 := zb5h q (M + 7) (by omega) _ _ _ h1
 try simp only [kf, simprocAttr] at h1
 cases h; subst hR; simp only [zb5i, simprocAttr, *]
def zb5k (q : Nat) : Prop := ∀ (M : Nat) (hM : 8 * q ≤ M) (j : Nat) (hj : q ≤ j) (v0 v7 v8 : Int) (h0z : Bool) (h0l : List Int) (r : (Ow Int)) (_ : zj4 q v0 v7 v8 h0z h0l = some r) (R : Option (List V)) (_ : some [(Ow.enc 1 (V.int .u8)) r] = R) (fr : Fr) (H : Hp) (_ : canon 0 [0, 5, 7, 8] fr H = ([(0, (.int .u64 v0)), (5, (.vw 0 0 0 h0l.length 1)), (7, (.int .i64 v7)), (8, (.int .i64 v8))], [(.row 0 h0z 1 (List.map (V.int .u8) h0l) true)])), fin zbjq (unw T (orc T (M + 7)) (M + 7) 0 [.blk 0, .code zbjm] (iter 0 [0, 5, 7, 8] (exec T (orc T (M + 7)) (M + 7) 0 zbjj) j fr H)) = R
def zb5l := And.intro @kk <| And.intro @ke <| And.intro @kn <| And.intro @zb0g <| @zb0i
theorem zb5m (q : Nat) (zb9t : zb5k q) : zb5k (q + 1) := by
 intro M hM j hj v0 v7 v8 h0z h0l r h R hR fr H hc
 obtain ⟨j, rfl⟩ : ∃ i, j = i + 1 := ⟨j - 1, by omega⟩
 rw [zhv, hc]; clear hc
 rw [zj4] at h
 replace h := br h; rcases h with ⟨h1, h⟩ | ⟨h1, h⟩
 ·replace h := bm h; obtain ⟨h2, h⟩ := h
  replace h := bn h; obtain ⟨h3, h⟩ := h
  replace h := zb9t M (by omega) j (by omega) _ _ _ _ _ _ h R hR
  simp only [zb5l, simprocAttr, *]
 ·cases h; subst hR; simp only [zb5l, simprocAttr, *]
theorem zb5n : ∀ q, zb5k q
 | 0 => by intro M hM j hj; intros; rename_i h _ _ _ _ _; cases h
 | q + 1 => by have i0 := zb5n q; exact zb5m q i0
theorem zb5o : ∀ (q N : Nat), 8 * q ≤ N → ∀ (a0 a1 : Int), ∀ (r : (Ow Int)), zj5 q a0 a1 = some r → (orc T N).deep F.zj5 [(V.int .u64) a0, (V.int .i64) a1] = some [(Ow.enc 1 (V.int .u8)) r] := by
 intro q N hM a0 a1 r h
 rcases q with _ | q
 ·cases h
 obtain ⟨M, rfl⟩ : ∃ M, N = M + 8 := ⟨N - 8, by omega⟩
 have zb9t := (zb5n q)
 generalize hR : some [(Ow.enc 1 (V.int .u8)) r] = R
 rw [zh4, zbrx, y4, zh2]
 rw [zj5] at h
 replace h := zb9t M (by omega) (M + 7) (by omega) _ _ _ _ _ _ h R hR
 simp only [zb5l, simprocAttr, *]
def zb5p := And.intro @kk <| And.intro @ke <| And.intro @kn <| And.intro @zbyy <| And.intro @zb0h <| @zby0
theorem zb5q : ∀ (q N : Nat), 8 * q ≤ N → ∀ (a0 : Int), ∀ (r : (Ow Int)), zj6 q a0 = some r → (orc T N).deep F.zj6 [(V.int .u32) a0] = some [(Ow.enc 1 (V.int .u8)) r] := by
 intro q N hM a0 r h
 rcases q with _ | q
 ·cases h
 obtain ⟨M, rfl⟩ : ∃ M, N = M + 8 := ⟨N - 8, by omega⟩
 generalize hR : some [(Ow.enc 1 (V.int .u8)) r] = R
 rw [zh4, zbrf, y4, zh2]
 rw [zj6] at h
 replace h := ob h; obtain ⟨r1, h1, h⟩ := h
 replace h1 := zb5o q (M + 7) (by omega) _ _ _ h1
 try simp only [kf, simprocAttr] at h1
 cases h; subst hR; simp only [zb5p, simprocAttr, *]
def zb5r := And.intro @kk <| And.intro @ke <| And.intro @kn <| And.intro @zbxd <| And.intro @zbyz <| And.intro @zby2 <| And.intro @zby5 <| @zbxf
theorem zb5s : ∀ (q N : Nat), 8 * q ≤ N → ∀ (a0 a1 : (Sl Int)), ∀ (r : (Ow Int)), zj7 q a0 a1 = some r → (orc T N).deep F.zj7 [(Sl.enc (V.int .u8)) a0, (Sl.enc (V.int .u8)) a1] = some [(Ow.enc 1 (V.int .u8)) r] := by
 intro q N hM a0 a1 r h
 rcases q with _ | q
 ·cases h
 obtain ⟨M, rfl⟩ : ∃ M, N = M + 8 := ⟨N - 8, by omega⟩
 generalize hR : some [(Ow.enc 1 (V.int .u8)) r] = R
 rw [zh4, zbqw, y4, zh2]
 rw [zj7] at h
 replace h := ob h; obtain ⟨r1, h1, h⟩ := h
 replace h1 := zb5j q (M + 7) (by omega) _ _ h1
 try simp only [kf, simprocAttr] at h1
 replace h := ob h; obtain ⟨r2, h2, h⟩ := h
 replace h2 := zb5h q (M + 7) (by omega) _ _ _ h2
 try simp only [kf, simprocAttr] at h2
 replace h := ob h; obtain ⟨r3, h3, h⟩ := h
 replace h3 := zb5q q (M + 7) (by omega) _ _ h3
 try simp only [kf, simprocAttr] at h3
 cases h; subst hR; simp only [zb5r, simprocAttr, *]
def zb5t (q : Nat) : Prop := ∀ (M : Nat) (hM : 8 * q ≤ M) (j : Nat) (hj : q ≤ j) (v0z : Bool) (v0l : List (Sl Int)) (v3 : Int) (v9z : Bool) (v9l : List (Sl Int)) (v10 v11 : Int) (r : (Ow Int)) (_ : zkb q v0z v0l v3 v9z v9l v10 v11 = some r) (R : Option (List V)) (_ : some [(Ow.enc 1 (V.int .u8)) r] = R) (fr : Fr) (H : Hp) (_ : canon 0 [0, 3, 9, 10, 11] fr H = ([(0, (.sl v0z (List.map (Sl.enc (V.int .u8)) v0l))), (3, (.int .i64 v3)), (9, (.sl v9z (List.map (Sl.enc (V.int .u8)) v9l))), (10, (.int .i64 v10)), (11, (.int .i64 v11))], [])), fin zu1 (unw T (orc T (M + 7)) (M + 7) 0 [.blk 0, .code zux] (iter 0 [0, 3, 9, 10, 11] (exec T (orc T (M + 7)) (M + 7) 0 zug) j fr H)) = R
def zb5u (q : Nat) : Prop := ∀ (M : Nat) (hM : 8 * q ≤ M) (j : Nat) (hj : q ≤ j) (v6len : Nat) (v25z : Bool) (v25l : List (Sl Int)) (v26 v27 : Int) (h0z : Bool) (h0l : List Int) (r : (Ow Int)) (_ : zj8 q v6len v25z v25l v26 v27 h0z h0l = some r) (R : Option (List V)) (_ : some [(Ow.enc 1 (V.int .u8)) r] = R) (fr : Fr) (H : Hp) (_ : canon 0 [6, 25, 26, 27] fr H = ([(6, (.vw 0 0 0 v6len 0)), (25, (.sl v25z (List.map (Sl.enc (V.int .u8)) v25l))), (26, (.int .i64 v26)), (27, (.int .i64 v27))], [(.row 0 h0z 1 (List.map (V.int .u8) h0l) true)])), fin zu1 (unw T (orc T (M + 7)) (M + 7) 0 [.blk 2, .code zuv] (iter 0 [6, 25, 26, 27] (exec T (orc T (M + 7)) (M + 7) 0 zus) j fr H)) = R
def zb5v (q : Nat) : Prop := ∀ (M : Nat) (hM : 8 * q ≤ M) (j : Nat) (hj : q ≤ j) (v25z : Bool) (v25l : List (Sl Int)) (v26 : Int) (r : (Ow Int)) (_ : zka q v25z v25l v26 = some r) (R : Option (List V)) (_ : some [(Ow.enc 1 (V.int .u8)) r] = R) (fr : Fr) (H : Hp) (_ : canon 0 [6, 25, 26, 27] fr H = ([(6, (.sl true [])), (25, (.sl v25z (List.map (Sl.enc (V.int .u8)) v25l))), (26, (.int .i64 v26)), (27, (.int .i64 0))], [])), fin zu1 (unw T (orc T (M + 7)) (M + 7) 0 [.blk 2, .code zuv] (iter 0 [6, 25, 26, 27] (exec T (orc T (M + 7)) (M + 7) 0 zus) j fr H)) = R
def zb5w (q : Nat) : Prop := ∀ (M : Nat) (hM : 8 * q ≤ M) (j : Nat) (hj : q ≤ j) (v25z : Bool) (v25l : List (Sl Int)) (v26 v27 : Int) (h0z : Bool) (h0l : List Int) (r : (Ow Int)) (_ : zj9 q v25z v25l v26 v27 h0z h0l = some r) (R : Option (List V)) (_ : some [(Ow.enc 1 (V.int .u8)) r] = R) (fr : Fr) (H : Hp) (_ : canon 0 [6, 25, 26, 27] fr H = ([(6, (.vw 0 0 0 h0l.length 1)), (25, (.sl v25z (List.map (Sl.enc (V.int .u8)) v25l))), (26, (.int .i64 v26)), (27, (.int .i64 v27))], [(.row 0 h0z 1 (List.map (V.int .u8) h0l) true)])), fin zu1 (unw T (orc T (M + 7)) (M + 7) 0 [.blk 2, .code zuv] (iter 0 [6, 25, 26, 27] (exec T (orc T (M + 7)) (M + 7) 0 zus) j fr H)) = R
def zb5x := And.intro @kk <| And.intro @ke <| And.intro @kn <| And.intro @zbt7 <| And.intro @zbvp <| And.intro @zbvq <| And.intro @zbvr <| @zbt9
theorem zb5y (q : Nat) (zb9u : zb5t q) (zb9v : zb5u q) (zb9w : zb5v q) : zb5t (q + 1) := by
 intro M hM j hj v0z v0l v3 v9z v9l v10 v11 r h R hR fr H hc
 obtain ⟨j, rfl⟩ : ∃ i, j = i + 1 := ⟨j - 1, by omega⟩
 rw [zhv, hc]; clear hc
 rw [zkb] at h
 replace h := br h; rcases h with ⟨h1, h⟩ | ⟨h1, h⟩
 ·replace h := bn h; obtain ⟨h2, h⟩ := h
  replace h := ob h; obtain ⟨e1, h3, h⟩ := h
  replace h := bm h; obtain ⟨h4, h⟩ := h
  replace h := zb9u M (by omega) j (by omega) _ _ _ _ _ _ _ _ h R hR
  simp only [zb5x, simprocAttr, *]
 ·replace h := bm h; obtain ⟨h5, h⟩ := h
  replace h := br h; rcases h with ⟨h6, h⟩ | ⟨h6, h⟩
  ·replace h := bn h; obtain ⟨h7, h⟩ := h
   replace h := bn h; obtain ⟨h8, h⟩ := h
   replace h := bm h; obtain ⟨h9, h⟩ := h
   replace h := zb9v M (by omega) (M + 7) (by omega) _ _ _ _ _ _ _ _ h R hR
   simp only [zb5x, simprocAttr, *]
  ·replace h := zb9w M (by omega) (M + 7) (by omega) _ _ _ _ h R hR
   simp only [zb5x, simprocAttr, *]
theorem zb5z (q : Nat) (zb9v : zb5u q) : zb5u (q + 1) := by
 intro M hM j hj v6len v25z v25l v26 v27 h0z h0l r h R hR fr H hc
 obtain ⟨j, rfl⟩ : ∃ i, j = i + 1 := ⟨j - 1, by omega⟩
 rw [zhv, hc]; clear hc
 rw [zj8] at h
 replace h := br h; rcases h with ⟨h1, h⟩ | ⟨h1, h⟩
 ·replace h := bn h; obtain ⟨h2, h⟩ := h
  replace h := ob h; obtain ⟨e2, h3, h⟩ := h
  replace h := bn h; obtain ⟨h4, h⟩ := h
  replace h := zb9v M (by omega) j (by omega) _ _ _ _ _ _ _ _ h R hR
  simp only [zb5x, simprocAttr, *]
 ·cases h; subst hR; simp only [zb5x, simprocAttr, *]
theorem zb50 (q : Nat) (zb9x : zb5w q) : zb5v (q + 1) := by
 intro M hM j hj v25z v25l v26 r h R hR fr H hc
 obtain ⟨j, rfl⟩ : ∃ i, j = i + 1 := ⟨j - 1, by omega⟩
 rw [zhv, hc]; clear hc
 rw [zka] at h
 replace h := br h; rcases h with ⟨h1, h⟩ | ⟨h1, h⟩
 ·replace h := ob h; obtain ⟨e3, h2, h⟩ := h
  replace h := bn h; obtain ⟨h3, h⟩ := h
  replace h := zb9x M (by omega) j (by omega) _ _ _ _ _ _ _ h R hR
  simp only [zb5x, simprocAttr, *]
 ·cases h; subst hR; simp only [zb5x, simprocAttr, *]
theorem zb51 (q : Nat) (zb9x : zb5w q) : zb5w (q + 1) := by
 intro M hM j hj v25z v25l v26 v27 h0z h0l r h R hR fr H hc
 obtain ⟨j, rfl⟩ : ∃ i, j = i + 1 := ⟨j - 1, by omega⟩
 rw [zhv, hc]; clear hc
 rw [zj9] at h
 replace h := br h; rcases h with ⟨h1, h⟩ | ⟨h1, h⟩
 ·replace h := bn h; obtain ⟨h2, h⟩ := h
  replace h := ob h; obtain ⟨e4, h3, h⟩ := h
  replace h := bn h; obtain ⟨h4, h⟩ := h
  replace h := zb9x M (by omega) j (by omega) _ _ _ _ _ _ _ h R hR
  simp only [zb5x, simprocAttr, *]
 ·cases h; subst hR; simp only [zb5x, simprocAttr, *]
theorem zb52 : ∀ q, zb5t q ∧ zb5u q ∧ zb5v q ∧ zb5w q
 | 0 => by refine ⟨?_, ?_, ?_, ?_⟩ <;> (intro M hM j hj; intros; rename_i h _ _ _ _ _; cases h)
 | q + 1 => by have ⟨i0, i1, i2, i3⟩ := zb52 q; exact ⟨zb5y q i0 i1 i2, zb5z q i1, zb50 q i3, zb51 q i3⟩
theorem zb53 : ∀ (q N : Nat), 8 * q ≤ N → ∀ (a0 : (Sl (Sl Int))), ∀ (r : (Ow Int)), zkc q a0 = some r → (orc T N).deep F.zkc [(Sl.enc (Sl.enc (V.int .u8))) a0] = some [(Ow.enc 1 (V.int .u8)) r] := by
 intro q N hM a0 r h
 rcases q with _ | q
 ·cases h
 obtain ⟨M, rfl⟩ : ∃ M, N = M + 8 := ⟨N - 8, by omega⟩
 have zb9u := (zb52 q).1
 generalize hR : some [(Ow.enc 1 (V.int .u8)) r] = R
 rw [zh4, zbpu, y4, zh2]
 rw [zkc] at h
 replace h := zb9u M (by omega) (M + 7) (by omega) _ _ _ _ _ _ _ _ h R hR
 simp only [zb5x, simprocAttr, *]
def zb54 := And.intro @kk <| And.intro @ke <| And.intro @kn <| And.intro @zbvs <| And.intro @zbt8 <| And.intro @zbvb <| And.intro @zbxe <| @zbvu
theorem zb55 : ∀ (q N : Nat), 8 * q ≤ N → ∀ (a0 : (Sl Int)), ∀ (r : (Ow Int) × Int), zkd q a0 = some r → (orc T N).deep F.zkd [(Sl.enc (V.int .u8)) a0] = some [(Ow.enc 1 (V.int .u8)) r.1, (V.int .i64) r.2] := by
 intro q N hM a0 r h
 rcases q with _ | q
 ·cases h
 obtain ⟨M, rfl⟩ : ∃ M, N = M + 8 := ⟨N - 8, by omega⟩
 generalize hR : some [(Ow.enc 1 (V.int .u8)) r.1, (V.int .i64) r.2] = R
 rw [zh4, zbqd, y4, zh2]
 rw [zkd] at h
 replace h := br h; rcases h with ⟨h1, h⟩ | ⟨h1, h⟩
 ·cases h; subst hR; simp only [zb54, simprocAttr, *]
 ·replace h := ob h; obtain ⟨r1, h2, h⟩ := h
  replace h2 := zb45 q (M + 7) (by omega) _ _ _ h2
  try simp only [kf, simprocAttr] at h2
  replace h := ob h; obtain ⟨r2, h3, h⟩ := h
  replace h3 := zb5s q (M + 7) (by omega) _ _ _ h3
  try simp only [kf, simprocAttr] at h3
  replace h := ob h; obtain ⟨r3, h4, h⟩ := h
  replace h4 := zb53 q (M + 7) (by omega) _ _ h4
  try simp only [kf, simprocAttr] at h4
  cases h; subst hR; simp only [zb54, simprocAttr, *]
def zb56 := And.intro @kk <| And.intro @ke <| And.intro @kn <| And.intro @zbum <| And.intro @zbvt <| @zbuo
theorem zb57 : ∀ (q N : Nat), 8 * q ≤ N → ∀ (a0 : (Sl Int)), ∀ (r : (Ow Int)), zke q a0 = some r → (orc T N).deep F.zke [(Sl.enc (V.int .u8)) a0] = some [(Ow.enc 1 (V.int .u8)) r] := by
 intro q N hM a0 r h
 rcases q with _ | q
 ·cases h
 obtain ⟨M, rfl⟩ : ∃ M, N = M + 8 := ⟨N - 8, by omega⟩
 generalize hR : some [(Ow.enc 1 (V.int .u8)) r] = R
 rw [zh4, zbpz, y4, zh2]
 rw [zke] at h
 replace h := ob h; obtain ⟨r1, h1, h⟩ := h
 replace h1 := zb55 q (M + 7) (by omega) _ _ h1
 try simp only [kf, simprocAttr] at h1
 cases h; subst hR; simp only [zb56, simprocAttr, *]
def zb58 := And.intro @kk <| And.intro @ke <| And.intro @kn <| And.intro @zbty <| And.intro @zbun <| And.intro @zbvb <| And.intro @zbvh <| @zbt0
theorem zb59 : ∀ (q N : Nat), 8 * q ≤ N → ∀ (a0 a1 a2 : Int), ∀ (r : (Ow Int) × Int), zkf q a0 a1 a2 = some r → (orc T N).deep F.zkf [(V.int .i64) a0, (V.int .i64) a1, (V.int .i64) a2] = some [(Ow.enc 1 (V.int .u8)) r.1, (V.int .i64) r.2] := by
 intro q N hM a0 a1 a2 r h
 rcases q with _ | q
 ·cases h
 obtain ⟨M, rfl⟩ : ∃ M, N = M + 8 := ⟨N - 8, by omega⟩
 generalize hR : some [(Ow.enc 1 (V.int .u8)) r.1, (V.int .i64) r.2] = R
 rw [zh4, zbpr, y4, zh2]
 rw [zkf] at h
 replace h := ob h; obtain ⟨r1, h1, h⟩ := h
 replace h1 := zb4y q (M + 7) (by omega) _ _ h1
 replace h := bb h; rcases h with ⟨h2', h2, h⟩ | ⟨h2', h2, h⟩
 ·replace h := br h; rcases h with ⟨h3, h⟩ | ⟨h3, h⟩
  ·cases h; subst hR; simp only [zb58, simprocAttr, *]
  ·replace h := br h; rcases h with ⟨h4, h⟩ | ⟨h4, h⟩
   ·cases h; subst hR; simp only [zb58, simprocAttr, *]
   ·replace h := br h; rcases h with ⟨h5, h⟩ | ⟨h5, h⟩
    ·cases h; subst hR; simp only [zb58, simprocAttr, *]
    ·replace h := br h; rcases h with ⟨h6, h⟩ | ⟨h6, h⟩
     ·cases h; subst hR; simp only [zb58, simprocAttr, *]
     ·replace h := ob h; obtain ⟨r2, h7, h⟩ := h
      replace h7 := zb45 q (M + 7) (by omega) _ _ _ h7
      try simp only [kf, simprocAttr] at h7
      replace h := ob h; obtain ⟨r3, h8, h⟩ := h
      replace h8 := zb45 q (M + 7) (by omega) _ _ _ h8
      try simp only [kf, simprocAttr] at h8
      replace h := ob h; obtain ⟨r4, h9, h⟩ := h
      replace h9 := zb45 q (M + 7) (by omega) _ _ _ h9
      try simp only [kf, simprocAttr] at h9
      replace h := ob h; obtain ⟨r5, h10, h⟩ := h
      replace h10 := zb57 q (M + 7) (by omega) _ _ h10
      try simp only [kf, simprocAttr] at h10
      cases h; subst hR; simp only [zb58, simprocAttr, *]
 ·cases h; subst hR; simp only [zb58, simprocAttr, *]
def zb6a := And.intro @kk <| And.intro @ke <| And.intro @kn <| And.intro @zbyg <| @zbyi
theorem zb6b : ∀ (q N : Nat), 8 * q ≤ N → ∀ (a0 r : Int), zkg q a0 = some r → (orc T N).deep F.zkg [(V.int .i64) a0] = some [(V.int .i64) r] := by
 intro q N hM a0 r h
 rcases q with _ | q
 ·cases h
 obtain ⟨M, rfl⟩ : ∃ M, N = M + 8 := ⟨N - 8, by omega⟩
 generalize hR : some [(V.int .i64) r] = R
 rw [zh4, zbq9, y4, zh2]
 rw [zkg] at h
 cases h; subst hR; simp only [zb6a, simprocAttr, *]
def zb6c := And.intro @kk <| And.intro @ke <| And.intro @kn <| And.intro @zbw4 <| And.intro @zbyh <| @zbw6
theorem zb6d : ∀ (q N : Nat), 8 * q ≤ N → ∀ (a0 : zjr), ∀ (r : Bool), zkh q a0 = some r → (orc T N).deep F.zkh [zjr.enc a0] = some [V.bool r] := by
 intro q N hM a0 r h
 rcases q with _ | q
 ·cases h
 obtain ⟨M, rfl⟩ : ∃ M, N = M + 8 := ⟨N - 8, by omega⟩
 generalize hR : some [V.bool r] = R
 rw [zh4, zbqt, y4, zh2]
 rw [zkh] at h
 replace h := br h; rcases h with ⟨h1, h⟩ | ⟨h1, h⟩
 ·replace h := br h; rcases h with ⟨h2, h⟩ | ⟨h2, h⟩
  ·replace h := ob h; obtain ⟨r1, h3, h⟩ := h
   replace h3 := zb6b q (M + 7) (by omega) _ _ h3
   replace h := br h; rcases h with ⟨h4, h⟩ | ⟨h4, h⟩
   ·replace h := ob h; obtain ⟨r2, h5, h⟩ := h
    replace h5 := zb6b q (M + 7) (by omega) _ _ h5
    cases h; subst hR; simp only [zb6c, simprocAttr, *]
   ·cases h; subst hR; simp only [zb6c, simprocAttr, *]
  ·cases h; subst hR; simp only [zb6c, simprocAttr, *]
 ·cases h; subst hR; simp only [zb6c, simprocAttr, *]
def zb6e := And.intro @kk <| And.intro @ke <| And.intro @kn <| And.intro @zbvj <| And.intro @zbw5 <| @zbvl
theorem zb6f : ∀ (q N : Nat), 8 * q ≤ N → ∀ (a0 : zjs), ∀ (r : Bool), zki q a0 = some r → (orc T N).deep F.zki [zjs.enc a0] = some [V.bool r] := by
 intro q N hM a0 r h
 rcases q with _ | q
 ·cases h
 obtain ⟨M, rfl⟩ : ∃ M, N = M + 8 := ⟨N - 8, by omega⟩
 generalize hR : some [V.bool r] = R
 rw [zh4, zbqa, y4, zh2]
 rw [zki] at h
 replace h := br h; rcases h with ⟨h1, h⟩ | ⟨h1, h⟩
 ·replace h := br h; rcases h with ⟨h2, h⟩ | ⟨h2, h⟩
  ·replace h := br h; rcases h with ⟨h3, h⟩ | ⟨h3, h⟩
   ·replace h := br h; rcases h with ⟨h4, h⟩ | ⟨h4, h⟩
    ·replace h := br h; rcases h with ⟨h5, h⟩ | ⟨h5, h⟩
     ·replace h := br h; rcases h with ⟨h6, h⟩ | ⟨h6, h⟩
      ·replace h := ob h; obtain ⟨r1, h7, h⟩ := h
       replace h7 := zb6d q (M + 7) (by omega) _ _ h7
       try simp only [kf, simprocAttr] at h7
       replace h := bb h; rcases h with ⟨h8', h8, h⟩ | ⟨h8', h8, h⟩
       ·replace h := br h; rcases h with ⟨h9, h⟩ | ⟨h9, h⟩
        ·cases h; subst hR; simp only [zb6e, simprocAttr, *]
        ·cases h; subst hR; simp only [zb6e, simprocAttr, *]
       ·cases h; subst hR; simp only [zb6e, simprocAttr, *]
      ·cases h; subst hR; simp only [zb6e, simprocAttr, *]
     ·cases h; subst hR; simp only [zb6e, simprocAttr, *]
    ·cases h; subst hR; simp only [zb6e, simprocAttr, *]
   ·cases h; subst hR; simp only [zb6e, simprocAttr, *]
  ·cases h; subst hR; simp only [zb6e, simprocAttr, *]
 ·cases h; subst hR; simp only [zb6e, simprocAttr, *]
def zb6g (q : Nat) : Prop := ∀ (M : Nat) (hM : 8 * q ≤ M) (j : Nat) (hj : q ≤ j) (v0z : Bool) (v0l : List zjs) (v1 : Int) (v7z : Bool) (v7l : List zjs) (v8 v9 : Int) (r : Bool) (_ : zkj q v0z v0l v1 v7z v7l v8 v9 = some r) (R : Option (List V)) (_ : some [V.bool r] = R) (fr : Fr) (H : Hp) (_ : canon 0 [0, 1, 7, 8, 9] fr H = ([(0, (.sl v0z (List.map zjs.enc v0l))), (1, (.int .i64 v1)), (7, (.sl v7z (List.map zjs.enc v7l))), (8, (.int .i64 v8)), (9, (.int .i64 v9))], [])), fin zt2 (unw T (orc T (M + 7)) (M + 7) 0 [.blk 0, .code ztz] (iter 0 [0, 1, 7, 8, 9] (exec T (orc T (M + 7)) (M + 7) 0 ztw) j fr H)) = R
def zb6h := And.intro @kk <| And.intro @ke <| And.intro @kn <| And.intro @zbt1 <| And.intro @zbvk <| @zbt3
theorem zb6i (q : Nat) (zb9y : zb6g q) : zb6g (q + 1) := by
 intro M hM j hj v0z v0l v1 v7z v7l v8 v9 r h R hR fr H hc
 obtain ⟨j, rfl⟩ : ∃ i, j = i + 1 := ⟨j - 1, by omega⟩
 rw [zhv, hc]; clear hc
 rw [zkj] at h
 replace h := br h; rcases h with ⟨h1, h⟩ | ⟨h1, h⟩
 ·replace h := bn h; obtain ⟨h2, h⟩ := h
  replace h := ob h; obtain ⟨e1, h3, h⟩ := h
  replace h := ob h; obtain ⟨r2, h4, h⟩ := h
  replace h4 := zb6f q (M + 7) (by omega) _ _ h4
  try simp only [kf, simprocAttr] at h4
  replace h := bb h; rcases h with ⟨h5', h5, h⟩ | ⟨h5', h5, h⟩
  ·replace h := br h; rcases h with ⟨h6, h⟩ | ⟨h6, h⟩
   ·replace h := zb9y M (by omega) j (by omega) _ _ _ _ _ _ _ _ h R hR
    simp only [zb6h, simprocAttr, *]
   ·cases h; subst hR; simp only [zb6h, simprocAttr, *]
  ·cases h; subst hR; simp only [zb6h, simprocAttr, *]
 ·cases h; subst hR; simp only [zb6h, simprocAttr, *]
theorem zb6j : ∀ q, zb6g q
 | 0 => by intro M hM j hj; intros; rename_i h _ _ _ _ _; cases h
 | q + 1 => by have i0 := zb6j q; exact zb6i q i0
theorem zb6k : ∀ (q N : Nat), 8 * q ≤ N → ∀ (a0 : (Sl zjs)) (a1 : Int), ∀ (r : Bool), zkk q a0 a1 = some r → (orc T N).deep F.zkk [(Sl.enc zjs.enc) a0, (V.int .i64) a1] = some [V.bool r] := by
 intro q N hM a0 a1 r h
 rcases q with _ | q
 ·cases h
 obtain ⟨M, rfl⟩ : ∃ M, N = M + 8 := ⟨N - 8, by omega⟩
 have zb9y := (zb6j q)
 generalize hR : some [V.bool r] = R
 rw [zh4, zbps, y4, zh2]
 rw [zkk] at h
 replace h := zb9y M (by omega) (M + 7) (by omega) _ _ _ _ _ _ _ _ h R hR
 simp only [zb6h, simprocAttr, *]
def zb6l (q : Nat) : Prop := ∀ (M : Nat) (hM : 8 * q ≤ M) (j : Nat) (hj : q ≤ j) (v0z : Bool) (v0l : List zjs) (v5z : Bool) (v5l : List zjs) (v6 v7 : Int) (r : Bool) (_ : zkl q v0z v0l v5z v5l v6 v7 = some r) (R : Option (List V)) (_ : some [V.bool r] = R) (fr : Fr) (H : Hp) (_ : canon 0 [0, 5, 6, 7] fr H = ([(0, (.sl v0z (List.map zjs.enc v0l))), (5, (.sl v5z (List.map zjs.enc v5l))), (6, (.int .i64 v6)), (7, (.int .i64 v7))], [])), fin zbd0 (unw T (orc T (M + 7)) (M + 7) 0 [.blk 0, .code zbdx] (iter 0 [0, 5, 6, 7] (exec T (orc T (M + 7)) (M + 7) 0 zbdu) j fr H)) = R
def zb6m := And.intro @kk <| And.intro @ke <| And.intro @kn <| And.intro @zbyj <| And.intro @zbvk <| @zbyl
theorem zb6n (q : Nat) (zb9z : zb6l q) : zb6l (q + 1) := by
 intro M hM j hj v0z v0l v5z v5l v6 v7 r h R hR fr H hc
 obtain ⟨j, rfl⟩ : ∃ i, j = i + 1 := ⟨j - 1, by omega⟩
 rw [zhv, hc]; clear hc
 rw [zkl] at h
 replace h := br h; rcases h with ⟨h1, h⟩ | ⟨h1, h⟩
 ·replace h := bn h; obtain ⟨h2, h⟩ := h
  replace h := ob h; obtain ⟨e1, h3, h⟩ := h
  replace h := ob h; obtain ⟨r2, h4, h⟩ := h
  replace h4 := zb6f q (M + 7) (by omega) _ _ h4
  try simp only [kf, simprocAttr] at h4
  replace h := bb h; rcases h with ⟨h5', h5, h⟩ | ⟨h5', h5, h⟩
  ·replace h := ob h; obtain ⟨e3, h6, h⟩ := h
   replace h := br h; rcases h with ⟨h7, h⟩ | ⟨h7, h⟩
   ·replace h := zb9z M (by omega) j (by omega) _ _ _ _ _ _ _ h R hR
    simp only [zb6m, simprocAttr, *]
   ·cases h; subst hR; simp only [zb6m, simprocAttr, *]
  ·cases h; subst hR; simp only [zb6m, simprocAttr, *]
 ·replace h := br h; rcases h with ⟨h8, h⟩ | ⟨h8, h⟩
  ·cases h; subst hR; simp only [zb6m, simprocAttr, *]
  ·cases h; subst hR; simp only [zb6m, simprocAttr, *]
theorem zb6o : ∀ q, zb6l q
 | 0 => by intro M hM j hj; intros; rename_i h _ _ _ _ _; cases h
 | q + 1 => by have i0 := zb6o q; exact zb6n q i0
theorem zb6p : ∀ (q N : Nat), 8 * q ≤ N → ∀ (a0 : (Sl zjs)), ∀ (r : Bool), zkm q a0 = some r → (orc T N).deep F.zkm [(Sl.enc zjs.enc) a0] = some [V.bool r] := by
 intro q N hM a0 r h
 rcases q with _ | q
 ·cases h
 obtain ⟨M, rfl⟩ : ∃ M, N = M + 8 := ⟨N - 8, by omega⟩
 have zb9z := (zb6o q)
 generalize hR : some [V.bool r] = R
 rw [zh4, zbra, y4, zh2]
 rw [zkm] at h
 replace h := zb9z M (by omega) (M + 7) (by omega) _ _ _ _ _ _ _ h R hR
 simp only [zb6m, simprocAttr, *]
def zb6q := And.intro @kk <| And.intro @ke <| And.intro @kn <| And.intro @zb0d <| @zb0f
theorem zb6r : ∀ (q N : Nat), 8 * q ≤ N → ∀ (a0 r : Int), zkn q a0 = some r → (orc T N).deep F.zkn [(V.int .i64) a0] = some [(V.int .u64) r] := by
 intro q N hM a0 r h
 rcases q with _ | q
 ·cases h
 obtain ⟨M, rfl⟩ : ∃ M, N = M + 8 := ⟨N - 8, by omega⟩
 generalize hR : some [(V.int .u64) r] = R
 rw [zh4, zbrw, y4, zh2]
 rw [zkn] at h
 cases h; subst hR; simp only [zb6q, simprocAttr, *]
def zb6s := And.intro @kk <| And.intro @ke <| And.intro @kn <| And.intro @zbym <| And.intro @zbww <| And.intro @zb0e <| @zbyo
theorem zb6t : ∀ (q N : Nat), 8 * q ≤ N → ∀ (a0 : (Ow Int)) (a1 : Int), ∀ (r : (Ow Int)), zko q a0 a1 = some r → (orc T N).deep F.zko [(Ow.enc 1 (V.int .u8)) a0, (V.int .i64) a1] = some [(Ow.enc 1 (V.int .u8)) r] := by
 intro q N hM a0 a1 r h
 rcases q with _ | q
 ·cases h
 obtain ⟨M, rfl⟩ : ∃ M, N = M + 8 := ⟨N - 8, by omega⟩
 generalize hR : some [(Ow.enc 1 (V.int .u8)) r] = R
 rw [zh4, zbrb, y4, zh2]
 rw [zko] at h
 replace h := ob h; obtain ⟨r1, h1, h⟩ := h
 replace h1 := zb6r q (M + 7) (by omega) _ _ h1
 replace h := ob h; obtain ⟨r2, h2, h⟩ := h
 replace h2 := zb43 q (M + 7) (by omega) _ _ _ h2
 try simp only [kf, simprocAttr] at h2
 cases h; subst hR; simp only [zb6s, simprocAttr, *]
def zb6u := And.intro @kk <| And.intro @ke <| And.intro @kn <| And.intro @zbyp <| And.intro @zbvb <| And.intro @zbw5 <| And.intro @zbyn <| @zbyr
theorem zb6v : ∀ (q N : Nat), 8 * q ≤ N → ∀ (a0 : (Ow Int)) (a1 : zjr), ∀ (r : (Ow Int) × Int), zkp q a0 a1 = some r → (orc T N).deep F.zkp [(Ow.enc 1 (V.int .u8)) a0, zjr.enc a1] = some [(Ow.enc 1 (V.int .u8)) r.1, (V.int .i64) r.2] := by
 intro q N hM a0 a1 r h
 rcases q with _ | q
 ·cases h
 obtain ⟨M, rfl⟩ : ∃ M, N = M + 8 := ⟨N - 8, by omega⟩
 generalize hR : some [(Ow.enc 1 (V.int .u8)) r.1, (V.int .i64) r.2] = R
 rw [zh4, zbrc, y4, zh2]
 rw [zkp] at h
 replace h := ob h; obtain ⟨r1, h1, h⟩ := h
 replace h1 := zb6d q (M + 7) (by omega) _ _ h1
 try simp only [kf, simprocAttr] at h1
 replace h := bb h; rcases h with ⟨h2', h2, h⟩ | ⟨h2', h2, h⟩
 ·replace h := ob h; obtain ⟨r2, h3, h⟩ := h
  replace h3 := zb45 q (M + 7) (by omega) _ _ _ h3
  try simp only [kf, simprocAttr] at h3
  replace h := ob h; obtain ⟨r3, h4, h⟩ := h
  replace h4 := zb6t q (M + 7) (by omega) _ _ _ h4
  try simp only [kf, simprocAttr] at h4
  replace h := ob h; obtain ⟨r4, h5, h⟩ := h
  replace h5 := zb6t q (M + 7) (by omega) _ _ _ h5
  try simp only [kf, simprocAttr] at h5
  cases h; subst hR; simp only [zb6u, simprocAttr, *]
 ·cases h; subst hR; simp only [zb6u, simprocAttr, *]
def zb6w (q : Nat) : Prop := ∀ (M : Nat) (hM : 8 * q ≤ M) (j : Nat) (hj : q ≤ j) (v20z : Bool) (v20l : List zjs) (v21 v22 : Int) (h0m : List (Int × Int)) (h1z : Bool) (h1l : List Int) (h1x : Bool) (r : (Ow Int) × Int) (_ : zkq q v20z v20l v21 v22 h0m h1z h1l h1x = some r) (R : Option (List V)) (_ : some [(Ow.enc 1 (V.int .u8)) r.1, (V.int .i64) r.2] = R) (fr : Fr) (H : Hp) (_ : canon 0 [4, 5, 20, 21, 22] fr H = ([(4, (.mp 0)), (5, (.vw 1 0 0 h1l.length 1)), (20, (.sl v20z (List.map zjs.enc v20l))), (21, (.int .i64 v21)), (22, (.int .i64 v22))], [(.map h0m), (.row 0 h1z 1 (List.map (V.int .u8) h1l) h1x)])), fin z6h (unw T (orc T (M + 7)) (M + 7) 0 [.blk 0, .code z6b] (iter 0 [4, 5, 20, 21, 22] (exec T (orc T (M + 7)) (M + 7) 0 z58) j fr H)) = R
def zb6x := And.intro @kk <| And.intro @ke <| And.intro @kn <| And.intro @zbw7 <| And.intro @zbvb <| And.intro @zbyk <| And.intro @zbyn <| And.intro @zbyq <| @zbw9
theorem zb6y (q : Nat) (zb90 : zb6w q) : zb6w (q + 1) := by
 intro M hM j hj v20z v20l v21 v22 h0m h1z h1l h1x r h R hR fr H hc
 obtain ⟨j, rfl⟩ : ∃ i, j = i + 1 := ⟨j - 1, by omega⟩
 rw [zhv, hc]; clear hc
 rw [zkq] at h
 replace h := br h; rcases h with ⟨h1, h⟩ | ⟨h1, h⟩
 ·replace h := bn h; obtain ⟨h2, h⟩ := h
  replace h := ob h; obtain ⟨e5, h3, h⟩ := h
  replace h := ob h; obtain ⟨r6, h4, h⟩ := h
  replace h4 := zb45 q (M + 7) (by omega) _ _ _ h4
  try simp only [kf, simprocAttr] at h4
  replace h := ob h; obtain ⟨r7, h5, h⟩ := h
  replace h5 := zb6t q (M + 7) (by omega) _ _ _ h5
  try simp only [kf, simprocAttr] at h5
  replace h := ob h; obtain ⟨r8, h6, h⟩ := h
  replace h6 := zb6v q (M + 7) (by omega) _ _ _ h6
  try simp only [kf, simprocAttr] at h6
  replace h := ob h; obtain ⟨r9, h7, h⟩ := h
  replace h7 := zb6t q (M + 7) (by omega) _ _ _ h7
  try simp only [kf, simprocAttr] at h7
  replace h := zb90 M (by omega) j (by omega) _ _ _ _ _ _ _ _ _ h R hR
  simp only [zb6x, simprocAttr, *]
 ·cases h; subst hR; simp only [zb6x, simprocAttr, *]
theorem zb6z : ∀ q, zb6w q
 | 0 => by intro M hM j hj; intros; rename_i h _ _ _ _ _; cases h
 | q + 1 => by have i0 := zb6z q; exact zb6y q i0
theorem zb60 : ∀ (q N : Nat), 8 * q ≤ N → ∀ (a0 : (Sl zjs)), ∀ (r : (Ow Int) × Int), zkr q a0 = some r → (orc T N).deep F.zkr [(Sl.enc zjs.enc) a0] = some [(Ow.enc 1 (V.int .u8)) r.1, (V.int .i64) r.2] := by
 intro q N hM a0 r h
 rcases q with _ | q
 ·cases h
 obtain ⟨M, rfl⟩ : ∃ M, N = M + 8 := ⟨N - 8, by omega⟩
 have zb90 := (zb6z q)
 generalize hR : some [(Ow.enc 1 (V.int .u8)) r.1, (V.int .i64) r.2] = R
 rw [zh4, zbqu, y4, zh2]
 rw [zkr] at h
 replace h := ob h; obtain ⟨r1, h1, h⟩ := h
 replace h1 := zb6p q (M + 7) (by omega) _ _ h1
 try simp only [kf, simprocAttr] at h1
 replace h := bb h; rcases h with ⟨h2', h2, h⟩ | ⟨h2', h2, h⟩
 ·replace h := ob h; obtain ⟨e2, h3, h⟩ := h
  replace h := ob h; obtain ⟨r3, h4, h⟩ := h
  replace h4 := zb45 q (M + 7) (by omega) _ _ _ h4
  try simp only [kf, simprocAttr] at h4
  replace h := ob h; obtain ⟨r4, h5, h⟩ := h
  replace h5 := zb45 q (M + 7) (by omega) _ _ _ h5
  try simp only [kf, simprocAttr] at h5
  replace h := zb90 M (by omega) (M + 7) (by omega) _ _ _ _ _ _ _ _ _ h R hR
  simp only [zb6x, simprocAttr, *]
 ·cases h; subst hR; simp only [zb6x, simprocAttr, *]
def zb61 := And.intro @kk <| And.intro @ke <| And.intro @kn <| And.intro @zbys <| @zbyu
theorem zb62 : ∀ (q N : Nat), 8 * q ≤ N → ∀ (a0 : Int), ∀ (r : (Ow Int)), zks q a0 = some r → (orc T N).deep F.zks [(V.int .i64) a0] = some [(Ow.enc 1 (V.int .i64)) r] := by
 intro q N hM a0 r h
 rcases q with _ | q
 ·cases h
 obtain ⟨M, rfl⟩ : ∃ M, N = M + 8 := ⟨N - 8, by omega⟩
 generalize hR : some [(Ow.enc 1 (V.int .i64)) r] = R
 rw [zh4, zbrd, y4, zh2]
 rw [zks] at h
 replace h := br h; rcases h with ⟨h1, h⟩ | ⟨h1, h⟩
 ·cases h; subst hR; simp only [zb61, simprocAttr, *]
 ·replace h := br h; rcases h with ⟨h2, h⟩ | ⟨h2, h⟩
  ·cases h; subst hR; simp only [zb61, simprocAttr, *]
  ·replace h := bn h; obtain ⟨h3, h⟩ := h
   replace h := bn h; obtain ⟨h4, h⟩ := h
   replace h := bc h; rcases h with ⟨h5, h⟩ | ⟨h5, h⟩
   ·cases h; subst hR; simp only [zb61, simprocAttr, *]
   ·replace h := bc h; rcases h with ⟨h6, h⟩ | ⟨h6, h⟩
    ·cases h; subst hR; simp only [zb61, simprocAttr, *]
    ·replace h := bc h; rcases h with ⟨h7, h⟩ | ⟨h7, h⟩
     ·cases h; subst hR; simp only [zb61, simprocAttr, *]
     ·replace h := bc h; rcases h with ⟨h8, h⟩ | ⟨h8, h⟩
      ·cases h; subst hR; simp only [zb61, simprocAttr, *]
      ·cases h
def zb63 := And.intro @kk <| And.intro @ke <| And.intro @kn <| And.intro @zbyv <| And.intro @zbvb <| And.intro @zbyn <| And.intro @zbyq <| @zbyx
theorem zb64 : ∀ (q N : Nat), 8 * q ≤ N → ∀ (a0 : (Ow Int)) (a1 : Int) (a2 : zjs), ∀ (r : (Ow Int)), zkt q a0 a1 a2 = some r → (orc T N).deep F.zkt [(Ow.enc 1 (V.int .u8)) a0, (V.int .i64) a1, zjs.enc a2] = some [(Ow.enc 1 (V.int .u8)) r] := by
 intro q N hM a0 a1 a2 r h
 rcases q with _ | q
 ·cases h
 obtain ⟨M, rfl⟩ : ∃ M, N = M + 8 := ⟨N - 8, by omega⟩
 generalize hR : some [(Ow.enc 1 (V.int .u8)) r] = R
 rw [zh4, zbre, y4, zh2]
 rw [zkt] at h
 replace h := ob h; obtain ⟨r1, h1, h⟩ := h
 replace h1 := zb45 q (M + 7) (by omega) _ _ _ h1
 try simp only [kf, simprocAttr] at h1
 replace h := br h; rcases h with ⟨h2, h⟩ | ⟨h2, h⟩
 ·replace h := ob h; obtain ⟨r2, h3, h⟩ := h
  replace h3 := zb45 q (M + 7) (by omega) _ _ _ h3
  try simp only [kf, simprocAttr] at h3
  cases h; subst hR; simp only [zb63, simprocAttr, *]
 ·replace h := br h; rcases h with ⟨h4, h⟩ | ⟨h4, h⟩
  ·replace h := ob h; obtain ⟨r3, h5, h⟩ := h
   replace h5 := zb45 q (M + 7) (by omega) _ _ _ h5
   try simp only [kf, simprocAttr] at h5
   cases h; subst hR; simp only [zb63, simprocAttr, *]
  ·replace h := br h; rcases h with ⟨h6, h⟩ | ⟨h6, h⟩
   ·replace h := ob h; obtain ⟨r4, h7, h⟩ := h
    replace h7 := zb45 q (M + 7) (by omega) _ _ _ h7
    try simp only [kf, simprocAttr] at h7
    cases h; subst hR; simp only [zb63, simprocAttr, *]
   ·replace h := br h; rcases h with ⟨h8, h⟩ | ⟨h8, h⟩
    ·replace h := ob h; obtain ⟨r5, h9, h⟩ := h
     replace h9 := zb6v q (M + 7) (by omega) _ _ _ h9
     try simp only [kf, simprocAttr] at h9
     cases h; subst hR; simp only [zb63, simprocAttr, *]
    ·replace h := ob h; obtain ⟨r6, h10, h⟩ := h
     replace h10 := zb6t q (M + 7) (by omega) _ _ _ h10
     try simp only [kf, simprocAttr] at h10
     cases h; subst hR; simp only [zb63, simprocAttr, *]
def zb65 (q : Nat) : Prop := ∀ (M : Nat) (hM : 8 * q ≤ M) (j : Nat) (hj : q ≤ j) (v22 v23 h0_0 h0_1 h0_2 h0_3 h0_4 h0_5 h0_6 : Int) (h1z : Bool) (h1l : List Int) (h1x h2z : Bool) (h2l : List Int) (h2x : Bool) (r : (Ow Int) × Int) (_ : zku q v22 v23 h0_0 h0_1 h0_2 h0_3 h0_4 h0_5 h0_6 h1z h1l h1x h2z h2l h2x = some r) (R : Option (List V)) (_ : some [(Ow.enc 1 (V.int .u8)) r.1, (V.int .i64) r.2] = R) (fr : Fr) (H : Hp) (_ : canon 0 [3, 7, 21, 22, 23] fr H = ([(3, (.ptr 0 0)), (7, (.vw 1 0 0 h1l.length 1)), (21, (.vw 2 0 0 h2l.length 1)), (22, (.int .i64 v22)), (23, (.int .i64 v23))], [(.box [(.int .i64 h0_0), (.int .i64 h0_1), (.int .i64 h0_2), (.int .i64 h0_3), (.int .i64 h0_4), (.int .i64 h0_5), (.int .i64 h0_6)]), (.row 0 h1z 1 (List.map (V.int .u8) h1l) h1x), (.row 0 h2z 1 (List.map (V.int .i64) h2l) h2x)])), fin z60 (unw T (orc T (M + 7)) (M + 7) 0 [.blk 1, .code z6u] (iter 0 [3, 7, 21, 22, 23] (exec T (orc T (M + 7)) (M + 7) 0 z6r) j fr H)) = R
def zb66 := And.intro @kk <| And.intro @ke <| And.intro @kn <| And.intro @zbxa <| And.intro @zbvb <| And.intro @zbvk <| And.intro @zbyt <| And.intro @zbyw <| @zbxc
theorem zb67 (q : Nat) (zb91 : zb65 q) : zb65 (q + 1) := by
 intro M hM j hj v22 v23 h0_0 h0_1 h0_2 h0_3 h0_4 h0_5 h0_6 h1z h1l h1x h2z h2l h2x r h R hR fr H hc
 obtain ⟨j, rfl⟩ : ∃ i, j = i + 1 := ⟨j - 1, by omega⟩
 rw [zhv, hc]; clear hc
 rw [zku] at h
 replace h := br h; rcases h with ⟨h1, h⟩ | ⟨h1, h⟩
 ·replace h := bn h; obtain ⟨h2, h⟩ := h
  replace h := bn h; obtain ⟨h3, h⟩ := h
  replace h := ob h; obtain ⟨e4, h4, h⟩ := h
  replace h := ob h; obtain ⟨r5, h5, h⟩ := h
  replace h5 := zb64 q (M + 7) (by omega) _ _ _ _ h5
  try simp only [kf, simprocAttr] at h5
  replace h := zb91 M (by omega) j (by omega) _ _ _ _ _ _ _ _ _ _ _ _ _ _ _ _ h R hR
  simp only [zb66, simprocAttr, *]
 ·cases h; subst hR; simp only [zb66, simprocAttr, *]
theorem zb68 : ∀ q, zb65 q
 | 0 => by intro M hM j hj; intros; rename_i h _ _ _ _ _; cases h
 | q + 1 => by have i0 := zb68 q; exact zb67 q i0
theorem zb69 : ∀ (q N : Nat), 8 * q ≤ N → ∀ (a0 : Int) (a1 : zjs), ∀ (r : (Ow Int) × Int), zkv q a0 a1 = some r → (orc T N).deep F.zkv [(V.int .i64) a0, zjs.enc a1] = some [(Ow.enc 1 (V.int .u8)) r.1, (V.int .i64) r.2] := by
 intro q N hM a0 a1 r h
 rcases q with _ | q
 ·cases h
 obtain ⟨M, rfl⟩ : ∃ M, N = M + 8 := ⟨N - 8, by omega⟩
 have zb91 := (zb68 q)
 generalize hR : some [(Ow.enc 1 (V.int .u8)) r.1, (V.int .i64) r.2] = R
 rw [zh4, zbqv, y4, zh2]
 rw [zkv] at h
 replace h := ob h; obtain ⟨r1, h1, h⟩ := h
 replace h1 := zb62 q (M + 7) (by omega) _ _ h1
 try simp only [kf, simprocAttr] at h1
 replace h := bb h; rcases h with ⟨h2', h2, h⟩ | ⟨h2', h2, h⟩
 ·cases h; subst hR; simp only [zb66, simprocAttr, *]
 ·replace h := ob h; obtain ⟨r2, h3, h⟩ := h
  replace h3 := zb6f q (M + 7) (by omega) _ _ h3
  try simp only [kf, simprocAttr] at h3
  replace h := bb h; rcases h with ⟨h4', h4, h⟩ | ⟨h4', h4, h⟩
  ·replace h := ob h; obtain ⟨r3, h5, h⟩ := h
   replace h5 := zb45 q (M + 7) (by omega) _ _ _ h5
   try simp only [kf, simprocAttr] at h5
   replace h := zb91 M (by omega) (M + 7) (by omega) _ _ _ _ _ _ _ _ _ _ _ _ _ _ _ _ h R hR
   simp only [zb66, simprocAttr, *]
  ·cases h; subst hR; simp only [zb66, simprocAttr, *]
def zb7a (q : Nat) : Prop := ∀ (M : Nat) (hM : 8 * q ≤ M) (j : Nat) (hj : q ≤ j) (v0 : Int) (v20z : Bool) (v20l : List zjs) (v21 v22 : Int) (h0z : Bool) (h0l : List Int) (h0x : Bool) (r : (Ow Int)) (_ : zkw q v0 v20z v20l v21 v22 h0z h0l h0x = some r) (R : Option (List V)) (_ : some [(Ow.enc 1 (V.int .u8)) r] = R) (fr : Fr) (H : Hp) (_ : canon 0 [0, 7, 20, 21, 22] fr H = ([(0, (.int .i64 v0)), (7, (.vw 0 0 0 h0l.length 1)), (20, (.sl v20z (List.map zjs.enc v20l))), (21, (.int .i64 v21)), (22, (.int .i64 v22))], [(.row 0 h0z 1 (List.map (V.int .u8) h0l) h0x)])), fin z0a (unw T (orc T (M + 7)) (M + 7) 0 [.blk 0, .code zz5] (iter 0 [0, 7, 20, 21, 22] (exec T (orc T (M + 7)) (M + 7) 0 zz2) j fr H)) = R
def zb7b := And.intro @kk <| And.intro @ke <| And.intro @kn <| And.intro @zbvm <| And.intro @zbvb <| And.intro @zbw8 <| And.intro @zbxb <| @zbvo
theorem zb7c (q : Nat) (zb92 : zb7a q) : zb7a (q + 1) := by
 intro M hM j hj v0 v20z v20l v21 v22 h0z h0l h0x r h R hR fr H hc
 obtain ⟨j, rfl⟩ : ∃ i, j = i + 1 := ⟨j - 1, by omega⟩
 rw [zhv, hc]; clear hc
 rw [zkw] at h
 replace h := br h; rcases h with ⟨h1, h⟩ | ⟨h1, h⟩
 ·replace h := bn h; obtain ⟨h2, h⟩ := h
  replace h := ob h; obtain ⟨e2, h3, h⟩ := h
  replace h := ob h; obtain ⟨r3, h4, h⟩ := h
  replace h4 := zb69 q (M + 7) (by omega) _ _ _ h4
  try simp only [kf, simprocAttr] at h4
  replace h := ob h; obtain ⟨r4, h5, h⟩ := h
  replace h5 := zb45 q (M + 7) (by omega) _ _ _ h5
  try simp only [kf, simprocAttr] at h5
  replace h := bn h; obtain ⟨h6, h⟩ := h
  replace h := zb92 M (by omega) j (by omega) _ _ _ _ _ _ _ _ _ h R hR
  simp only [zb7b, simprocAttr, *]
 ·cases h; subst hR; simp only [zb7b, simprocAttr, *]
theorem zb7d : ∀ q, zb7a q
 | 0 => by intro M hM j hj; intros; rename_i h _ _ _ _ _; cases h
 | q + 1 => by have i0 := zb7d q; exact zb7c q i0
theorem zb7e : ∀ (q N : Nat), 8 * q ≤ N → ∀ (a0 : Int) (a1 : (Sl zjs)), ∀ (r : (Ow Int)), zkx q a0 a1 = some r → (orc T N).deep F.zkx [(V.int .i64) a0, (Sl.enc zjs.enc) a1] = some [(Ow.enc 1 (V.int .u8)) r] := by
 intro q N hM a0 a1 r h
 rcases q with _ | q
 ·cases h
 obtain ⟨M, rfl⟩ : ∃ M, N = M + 8 := ⟨N - 8, by omega⟩
 have zb92 := (zb7d q)
 generalize hR : some [(Ow.enc 1 (V.int .u8)) r] = R
 rw [zh4, zbqb, y4, zh2]
 rw [zkx] at h
 replace h := br h; rcases h with ⟨h1, h⟩ | ⟨h1, h⟩
 ·replace h := ob h; obtain ⟨r1, h2, h⟩ := h
  replace h2 := zb60 q (M + 7) (by omega) _ _ h2
  try simp only [kf, simprocAttr] at h2
  cases h; subst hR; simp only [zb7b, simprocAttr, *]
 ·replace h := zb92 M (by omega) (M + 7) (by omega) _ _ _ _ _ _ _ _ _ h R hR
  simp only [zb7b, simprocAttr, *]
def zb7f (q : Nat) : Prop := ∀ (M : Nat) (hM : 8 * q ≤ M) (j : Nat) (hj : q ≤ j) (v0 : Int) (v1z : Bool) (v1l : List zjs) (h0z : Bool) (h0l : List (Sl Int)) (r : (Ow (Sl Int))) (_ : zky q v0 v1z v1l h0z h0l = some r) (R : Option (List V)) (_ : some [(Ow.enc 1 (Sl.enc (V.int .u8))) r] = R) (fr : Fr) (H : Hp) (_ : canon 0 [0, 1, 5] fr H = ([(0, (.int .i64 v0)), (1, (.sl v1z (List.map zjs.enc v1l))), (5, (.vw 0 0 0 h0l.length 1))], [(.row 0 h0z 1 (List.map (Sl.enc (V.int .u8)) h0l) true)])), fin zua (unw T (orc T (M + 7)) (M + 7) 0 [.blk 0, .code zt6] (iter 0 [0, 1, 5] (exec T (orc T (M + 7)) (M + 7) 0 zt4) j fr H)) = R
def zb7g := And.intro @kk <| And.intro @ke <| And.intro @kn <| And.intro @zbt4 <| And.intro @zbun <| And.intro @zbvn <| @zbt6
theorem zb7h (q : Nat) (zb93 : zb7f q) : zb7f (q + 1) := by
 intro M hM j hj v0 v1z v1l h0z h0l r h R hR fr H hc
 obtain ⟨j, rfl⟩ : ∃ i, j = i + 1 := ⟨j - 1, by omega⟩
 rw [zhv, hc]; clear hc
 rw [zky] at h
 replace h := br h; rcases h with ⟨h1, h⟩ | ⟨h1, h⟩
 ·replace h := bn h; obtain ⟨h2, h⟩ := h
  replace h := bn h; obtain ⟨h3, h⟩ := h
  replace h := bn h; obtain ⟨h4, h⟩ := h
  replace h := ob h; obtain ⟨r1, h5, h⟩ := h
  replace h5 := zb7e q (M + 7) (by omega) _ _ _ h5
  try simp only [kf, simprocAttr] at h5
  replace h := ob h; obtain ⟨r2, h6, h⟩ := h
  replace h6 := zb57 q (M + 7) (by omega) _ _ h6
  try simp only [kf, simprocAttr] at h6
  replace h := bn h; obtain ⟨h7, h⟩ := h
  replace h := bn h; obtain ⟨h8, h⟩ := h
  replace h := zb93 M (by omega) j (by omega) _ _ _ _ _ _ h R hR
  simp only [zb7g, simprocAttr, *]
 ·cases h; subst hR; simp only [zb7g, simprocAttr, *]
theorem zb7i : ∀ q, zb7f q
 | 0 => by intro M hM j hj; intros; rename_i h _ _ _ _ _; cases h
 | q + 1 => by have i0 := zb7i q; exact zb7h q i0
theorem zb7j : ∀ (q N : Nat), 8 * q ≤ N → ∀ (a0 : Int) (a1 : (Sl zjs)), ∀ (r : (Ow (Sl Int))), zkz q a0 a1 = some r → (orc T N).deep F.zkz [(V.int .i64) a0, (Sl.enc zjs.enc) a1] = some [(Ow.enc 1 (Sl.enc (V.int .u8))) r] := by
 intro q N hM a0 a1 r h
 rcases q with _ | q
 ·cases h
 obtain ⟨M, rfl⟩ : ∃ M, N = M + 8 := ⟨N - 8, by omega⟩
 have zb93 := (zb7i q)
 generalize hR : some [(Ow.enc 1 (Sl.enc (V.int .u8))) r] = R
 rw [zh4, zbpt, y4, zh2]
 rw [zkz] at h
 replace h := zb93 M (by omega) (M + 7) (by omega) _ _ _ _ _ _ h R hR
 simp only [zb7g, simprocAttr, *]
def zb7k (q : Nat) : Prop := ∀ (M : Nat) (hM : 8 * q ≤ M) (j : Nat) (hj : q ≤ j) (v14z : Bool) (v14l : List (Sl Int)) (v15 v16 : Int) (h0z : Bool) (h0l : List Int) (h0x : Bool) (r : (Ow Int)) (_ : zk0 q v14z v14l v15 v16 h0z h0l h0x = some r) (R : Option (List V)) (_ : some [(Ow.enc 1 (V.int .u8)) r] = R) (fr : Fr) (H : Hp) (_ : canon 0 [3, 14, 15, 16] fr H = ([(3, (.vw 0 0 0 h0l.length 1)), (14, (.sl v14z (List.map (Sl.enc (V.int .u8)) v14l))), (15, (.int .i64 v15)), (16, (.int .i64 v16))], [(.row 0 h0z 1 (List.map (V.int .u8) h0l) h0x)])), fin zvb (unw T (orc T (M + 7)) (M + 7) 0 [.blk 0, .code zu7] (iter 0 [3, 14, 15, 16] (exec T (orc T (M + 7)) (M + 7) 0 zu4) j fr H)) = R
def zb7l := And.intro @kk <| And.intro @ke <| And.intro @kn <| And.intro @zbua <| And.intro @zbun <| And.intro @zbvb <| @zbuc
theorem zb7m (q : Nat) (zb94 : zb7k q) : zb7k (q + 1) := by
 intro M hM j hj v14z v14l v15 v16 h0z h0l h0x r h R hR fr H hc
 obtain ⟨j, rfl⟩ : ∃ i, j = i + 1 := ⟨j - 1, by omega⟩
 rw [zhv, hc]; clear hc
 rw [zk0] at h
 replace h := br h; rcases h with ⟨h1, h⟩ | ⟨h1, h⟩
 ·replace h := bn h; obtain ⟨h2, h⟩ := h
  replace h := ob h; obtain ⟨e2, h3, h⟩ := h
  replace h := ob h; obtain ⟨r3, h4, h⟩ := h
  replace h4 := zb45 q (M + 7) (by omega) _ _ _ h4
  try simp only [kf, simprocAttr] at h4
  replace h := zb94 M (by omega) j (by omega) _ _ _ _ _ _ _ _ h R hR
  simp only [zb7l, simprocAttr, *]
 ·replace h := ob h; obtain ⟨r4, h5, h⟩ := h
  replace h5 := zb57 q (M + 7) (by omega) _ _ h5
  try simp only [kf, simprocAttr] at h5
  cases h; subst hR; simp only [zb7l, simprocAttr, *]
theorem zb7n : ∀ q, zb7k q
 | 0 => by intro M hM j hj; intros; rename_i h _ _ _ _ _; cases h
 | q + 1 => by have i0 := zb7n q; exact zb7m q i0
theorem zb7o : ∀ (q N : Nat), 8 * q ≤ N → ∀ (a0 : (Sl (Sl Int))), ∀ (r : (Ow Int)), zk1 q a0 = some r → (orc T N).deep F.zk1 [(Sl.enc (Sl.enc (V.int .u8))) a0] = some [(Ow.enc 1 (V.int .u8)) r] := by
 intro q N hM a0 r h
 rcases q with _ | q
 ·cases h
 obtain ⟨M, rfl⟩ : ∃ M, N = M + 8 := ⟨N - 8, by omega⟩
 have zb94 := (zb7n q)
 generalize hR : some [(Ow.enc 1 (V.int .u8)) r] = R
 rw [zh4, zbpv, y4, zh2]
 rw [zk1] at h
 replace h := ob h; obtain ⟨r1, h1, h⟩ := h
 replace h1 := zb45 q (M + 7) (by omega) _ _ _ h1
 try simp only [kf, simprocAttr] at h1
 replace h := bn h; obtain ⟨h2, h⟩ := h
 replace h := bn h; obtain ⟨h3, h⟩ := h
 replace h := zb94 M (by omega) (M + 7) (by omega) _ _ _ _ _ _ _ _ h R hR
 simp only [zb7l, simprocAttr, *]
def zb7p := And.intro @kk <| And.intro @ke <| And.intro @kn <| And.intro @zbsy <| And.intro @zbtz <| And.intro @zbt2 <| And.intro @zbt5 <| And.intro @zbt8 <| And.intro @zbub <| @zbs0
theorem zb7q : ∀ (q N : Nat), 8 * q ≤ N → ∀ (a0 : Int) (a1 : zjt), ∀ (r : (Ow Int) × Int), zk2 q a0 a1 = some r → (orc T N).deep F.zk2 [(V.int .i64) a0, zjt.enc a1] = some [(Ow.enc 1 (V.int .u8)) r.1, (V.int .i64) r.2] := by
 intro q N hM a0 a1 r h
 rcases q with _ | q
 ·cases h
 obtain ⟨M, rfl⟩ : ∃ M, N = M + 8 := ⟨N - 8, by omega⟩
 generalize hR : some [(Ow.enc 1 (V.int .u8)) r.1, (V.int .i64) r.2] = R
 rw [zh4, zbpf, y4, zh2]
 rw [zk2] at h
 replace h := ob h; obtain ⟨r1, h1, h⟩ := h
 replace h1 := zb59 q (M + 7) (by omega) _ _ _ _ h1
 try simp only [kf, simprocAttr] at h1
 replace h := br h; rcases h with ⟨h2, h⟩ | ⟨h2, h⟩
 ·replace h := ob h; obtain ⟨r2, h3, h⟩ := h
  replace h3 := zb6k q (M + 7) (by omega) _ _ _ h3
  try simp only [kf, simprocAttr] at h3
  replace h := bb h; rcases h with ⟨h4', h4, h⟩ | ⟨h4', h4, h⟩
  ·replace h := ob h; obtain ⟨r3, h5, h⟩ := h
   replace h5 := zb7j q (M + 7) (by omega) _ _ _ h5
   try simp only [kf, simprocAttr] at h5
   replace h := bn h; obtain ⟨h6, h⟩ := h
   replace h := ob h; obtain ⟨r4, h7, h⟩ := h
   replace h7 := zb53 q (M + 7) (by omega) _ _ h7
   try simp only [kf, simprocAttr] at h7
   replace h := ob h; obtain ⟨r5, h8, h⟩ := h
   replace h8 := zb7o q (M + 7) (by omega) _ _ h8
   try simp only [kf, simprocAttr] at h8
   replace h := bn h; obtain ⟨h9, h⟩ := h
   cases h; subst hR; simp only [zb7p, simprocAttr, *]
  ·cases h; subst hR; simp only [zb7p, simprocAttr, *]
 ·cases h; subst hR; simp only [zb7p, simprocAttr, *]
def zb7r := And.intro @kk <| And.intro @ke <| And.intro @kn <| And.intro @zbsg <| And.intro @zbsz <| @zbsi
theorem zb7s : ∀ (q N : Nat), 8 * q ≤ N → ∀ (r : Bool), zk3 q = some r → (orc T N).deep F.zk3 [] = some [V.bool r] := by
 intro q N hM r h
 rcases q with _ | q
 ·cases h
 obtain ⟨M, rfl⟩ : ∃ M, N = M + 8 := ⟨N - 8, by omega⟩
 generalize hR : some [V.bool r] = R
 rw [zh4, zbo9, y4, zh2]
 rw [zk3] at h
 replace h := ob h; obtain ⟨r1, h1, h⟩ := h
 replace h1 := zb7q q (M + 7) (by omega) _ _ _ h1
 try simp only [kf, simprocAttr] at h1
 replace h := br h; rcases h with ⟨h2, h⟩ | ⟨h2, h⟩
 ·replace h := br h; rcases h with ⟨h3, h⟩ | ⟨h3, h⟩
  ·replace h := bn h; obtain ⟨h4, h⟩ := h
   replace h := bb h; rcases h with ⟨h5', h5, h⟩ | ⟨h5', h5, h⟩
   ·replace h := br h; rcases h with ⟨h6, h⟩ | ⟨h6, h⟩
    ·replace h := bn h; obtain ⟨h7, h⟩ := h
     cases h; subst hR; simp only [zb7r, simprocAttr, *]
    ·cases h; subst hR; simp only [zb7r, simprocAttr, *]
   ·replace h := br h; rcases h with ⟨h8, h⟩ | ⟨h8, h⟩
    ·replace h := bn h; obtain ⟨h9, h⟩ := h
     cases h; subst hR; simp only [zb7r, simprocAttr, *]
    ·cases h; subst hR; simp only [zb7r, simprocAttr, *]
  ·cases h; subst hR; simp only [zb7r, simprocAttr, *]
 ·cases h; subst hR; simp only [zb7r, simprocAttr, *]
def zb7t := And.intro @kk <| And.intro @ke <| And.intro @kn <| And.intro @zbz1 <| @zbz3
theorem zb7u : ∀ (q N : Nat), 8 * q ≤ N → ∀ (a0 : Int), ∀ (r : Bool), zk4 q a0 = some r → (orc T N).deep F.zk4 [(V.int .u8) a0] = some [V.bool r] := by
 intro q N hM a0 r h
 rcases q with _ | q
 ·cases h
 obtain ⟨M, rfl⟩ : ∃ M, N = M + 8 := ⟨N - 8, by omega⟩
 generalize hR : some [V.bool r] = R
 rw [zh4, zbrs, y4, zh2]
 rw [zk4] at h
 cases h; subst hR; simp only [zb7t, simprocAttr, *]
def zb7v (q : Nat) : Prop := ∀ (M : Nat) (hM : 8 * q ≤ M) (j : Nat) (hj : q ≤ j) (v0z : Bool) (v0l : List Int) (v7 v8 r : Int) (_ : zk5 q v0z v0l v7 v8 = some r) (R : Option (List V × Hp)) (_ : (some ([(.int .i64 r)], []) : Option (List V × Hp)) = R) (fr : Fr) (H : Hp) (_ : canon 0 [0, 1, 7, 8] fr H = ([(0, (.sl v0z (List.map (V.int .u8) v0l))), (1, (.fn F.zk4 [])), (7, (.int .i64 v7)), (8, (.int .i64 v8))], [])), finI 0 false [.tmp 4] (unw T (orc T (M + 5)) (M + 5) 0 [.blk 0, .code zbly] (iter 0 [0, 1, 7, 8] (exec T (orc T (M + 5)) (M + 5) 0 zblv) j fr H)) = R
def zb7w := And.intro @kk <| And.intro @ke <| And.intro @kn <| And.intro @zb0v <| @zbz2
theorem zb7x (q : Nat) (zb95 : zb7v q) : zb7v (q + 1) := by
 intro M hM j hj v0z v0l v7 v8 r h R hR fr H hc
 obtain ⟨j, rfl⟩ : ∃ i, j = i + 1 := ⟨j - 1, by omega⟩
 rw [zhv, hc]; clear hc
 rw [zk5] at h
 replace h := br h; rcases h with ⟨h1, h⟩ | ⟨h1, h⟩
 ·replace h := bn h; obtain ⟨h2, h⟩ := h
  replace h := ob h; obtain ⟨e1, h3, h⟩ := h
  replace h := ob h; obtain ⟨r2, h4, h⟩ := h
  replace h4 := zb7u q (M + 5) (by omega) _ _ h4
  replace h := bb h; rcases h with ⟨h5', h5, h⟩ | ⟨h5', h5, h⟩
  ·cases h; subst hR; simp only [zb7w, simprocAttr, *]
  ·replace h := zb95 M (by omega) j (by omega) _ _ _ _ _ h R hR
   simp only [zb7w, simprocAttr, *]
 ·cases h; subst hR; simp only [zb7w, simprocAttr, *]
theorem zb7y : ∀ q, zb7v q
 | 0 => by intro M hM j hj; intros; rename_i h _ _ _ _ _; cases h
 | q + 1 => by have i0 := zb7y q; exact zb7x q i0
theorem zb7z : ∀ (q M : Nat), 8 * q ≤ M → ∀ (v0z : Bool), ∀ (v0l : List Int), ∀ (r : Int), zk6 q v0z v0l = some r → (orc T (M + 6)).inl F.zoo [(.sl v0z (List.map (V.int .u8) v0l)), (.fn F.zk4 [])] [] = (some ([(.int .i64 r)], []) : Option (List V × Hp)) := by
 intro q M hM v0z v0l r h
 rcases q with _ | q
 ·cases h
 have zb95 := (zb7y q)
 generalize hR : (some ([(.int .i64 r)], []) : Option (List V × Hp)) = R
 rw [zb0x (n := M + 5)]
 rw [zk6] at h
 replace h := zb95 M (by omega) (M + 5) (by omega) _ _ _ _ _ h R hR
 simp only [zb7w, simprocAttr, *]
def zb70 := And.intro @kk <| And.intro @ke <| And.intro @kn <| And.intro @zbxy <| And.intro @zbzy <| And.intro @zb0w <| And.intro @zbzz <| And.intro @zbz0 <| @zbx0
theorem zb71 : ∀ (q N : Nat), 8 * q ≤ N → ∀ (a0 : (Sl Int)), ∀ (r : Bool), zk7 q a0 = some r → (orc T N).deep F.zk7 [(Sl.enc (V.int .u8)) a0] = some [V.bool r] := by
 intro q N hM a0 r h
 rcases q with _ | q
 ·cases h
 obtain ⟨M, rfl⟩ : ∃ M, N = M + 8 := ⟨N - 8, by omega⟩
 generalize hR : some [V.bool r] = R
 rw [zh4, zbq3, y4, zh2]
 rw [zk7] at h
 replace h := br h; rcases h with ⟨h1, h⟩ | ⟨h1, h⟩
 ·replace h := ob h; obtain ⟨r1, h2, h⟩ := h
  replace h2 := zb7z q M (by omega) _ _ _ h2
  try simp only [kf, simprocAttr] at h2
  cases h; subst hR; simp only [zb70, simprocAttr, *]
 ·cases h; subst hR; simp only [zb70, simprocAttr, *]
def zb72 (q : Nat) : Prop := ∀ (M : Nat) (hM : 8 * q ≤ M) (j : Nat) (hj : q ≤ j) (v0z : Bool) (v0l : List Int) (v4 v9 v10 : Int) (r : Int × Int) (_ : zk8 q v0z v0l v4 v9 v10 = some r) (R : Option (List V)) (_ : some [(V.int .u64) r.1, (V.int .i64) r.2] = R) (fr : Fr) (H : Hp) (_ : canon 0 [0, 4, 9, 10] fr H = ([(0, (.sl v0z (List.map (V.int .u8) v0l))), (4, (.int .u64 v4)), (9, (.int .i64 v9)), (10, (.int .i64 v10))], [])), fin zbch (unw T (orc T (M + 7)) (M + 7) 0 [.blk 0, .code zbcd] (iter 0 [0, 4, 9, 10] (exec T (orc T (M + 7)) (M + 7) 0 zbca) j fr H)) = R
def zb73 := And.intro @kk <| And.intro @ke <| And.intro @kn <| And.intro @zbx7 <| @zbx9
theorem zb74 (q : Nat) (zb96 : zb72 q) : zb72 (q + 1) := by
 intro M hM j hj v0z v0l v4 v9 v10 r h R hR fr H hc
 obtain ⟨j, rfl⟩ : ∃ i, j = i + 1 := ⟨j - 1, by omega⟩
 rw [zhv, hc]; clear hc
 rw [zk8] at h
 replace h := br h; rcases h with ⟨h1, h⟩ | ⟨h1, h⟩
 ·replace h := bn h; obtain ⟨h2, h⟩ := h
  replace h := ob h; obtain ⟨e1, h3, h⟩ := h
  replace h := bm h; obtain ⟨h4, h⟩ := h
  replace h := br h; rcases h with ⟨h5, h⟩ | ⟨h5, h⟩
  ·replace h := br h; rcases h with ⟨h6, h⟩ | ⟨h6, h⟩
   ·cases h; subst hR; simp only [zb73, simprocAttr, *]
   ·replace h := br h; rcases h with ⟨h7, h⟩ | ⟨h7, h⟩
    ·replace h := br h; rcases h with ⟨h8, h⟩ | ⟨h8, h⟩
     ·cases h; subst hR; simp only [zb73, simprocAttr, *]
     ·replace h := br h; rcases h with ⟨h9, h⟩ | ⟨h9, h⟩
      ·cases h; subst hR; simp only [zb73, simprocAttr, *]
      ·replace h := zb96 M (by omega) j (by omega) _ _ _ _ _ _ h R hR
       simp only [zb73, simprocAttr, *]
    ·replace h := br h; rcases h with ⟨h10, h⟩ | ⟨h10, h⟩
     ·cases h; subst hR; simp only [zb73, simprocAttr, *]
     ·replace h := zb96 M (by omega) j (by omega) _ _ _ _ _ _ h R hR
      simp only [zb73, simprocAttr, *]
  ·replace h := br h; rcases h with ⟨h11, h⟩ | ⟨h11, h⟩
   ·replace h := br h; rcases h with ⟨h12, h⟩ | ⟨h12, h⟩
    ·cases h; subst hR; simp only [zb73, simprocAttr, *]
    ·replace h := br h; rcases h with ⟨h13, h⟩ | ⟨h13, h⟩
     ·cases h; subst hR; simp only [zb73, simprocAttr, *]
     ·replace h := zb96 M (by omega) j (by omega) _ _ _ _ _ _ h R hR
      simp only [zb73, simprocAttr, *]
   ·replace h := br h; rcases h with ⟨h14, h⟩ | ⟨h14, h⟩
    ·cases h; subst hR; simp only [zb73, simprocAttr, *]
    ·replace h := zb96 M (by omega) j (by omega) _ _ _ _ _ _ h R hR
     simp only [zb73, simprocAttr, *]
 ·cases h; subst hR; simp only [zb73, simprocAttr, *]
theorem zb75 : ∀ q, zb72 q
 | 0 => by intro M hM j hj; intros; rename_i h _ _ _ _ _; cases h
 | q + 1 => by have i0 := zb75 q; exact zb74 q i0
theorem zb76 : ∀ (q N : Nat), 8 * q ≤ N → ∀ (a0 : (Sl Int)), ∀ (r : Int × Int), zk9 q a0 = some r → (orc T N).deep F.zk9 [(Sl.enc (V.int .u8)) a0] = some [(V.int .u64) r.1, (V.int .i64) r.2] := by
 intro q N hM a0 r h
 rcases q with _ | q
 ·cases h
 obtain ⟨M, rfl⟩ : ∃ M, N = M + 8 := ⟨N - 8, by omega⟩
 have zb96 := (zb75 q)
 generalize hR : some [(V.int .u64) r.1, (V.int .i64) r.2] = R
 rw [zh4, zbq6, y4, zh2]
 rw [zk9] at h
 replace h := zb96 M (by omega) (M + 7) (by omega) _ _ _ _ _ _ h R hR
 simp only [zb73, simprocAttr, *]
def zb77 := And.intro @kk <| And.intro @ke <| And.intro @kn <| And.intro @zbwm <| And.intro @zbx8 <| @zbwo
theorem zb78 : ∀ (q N : Nat), 8 * q ≤ N → ∀ (a0 : (Sl Int)), ∀ (r : Int × Int), zla q a0 = some r → (orc T N).deep F.zla [(Sl.enc (V.int .u8)) a0] = some [(V.int .i64) r.1, (V.int .i64) r.2] := by
 intro q N hM a0 r h
 rcases q with _ | q
 ·cases h
 obtain ⟨M, rfl⟩ : ∃ M, N = M + 8 := ⟨N - 8, by omega⟩
 generalize hR : some [(V.int .i64) r.1, (V.int .i64) r.2] = R
 rw [zh4, zbqn, y4, zh2]
 rw [zla] at h
 replace h := ob h; obtain ⟨r1, h1, h⟩ := h
 replace h1 := zb76 q (M + 7) (by omega) _ _ h1
 try simp only [kf, simprocAttr] at h1
 replace h := br h; rcases h with ⟨h2, h⟩ | ⟨h2, h⟩
 ·cases h; subst hR; simp only [zb77, simprocAttr, *]
 ·cases h; subst hR; simp only [zb77, simprocAttr, *]
def zb79 (q : Nat) : Prop := ∀ (M : Nat) (hM : 8 * q ≤ M) (j : Nat) (hj : q ≤ j) (v0z : Bool) (v0l : List Int) (v1z : Bool) (v1l : List Int) (v12 v13 : Int) (r : Bool) (_ : zlb q v0z v0l v1z v1l v12 v13 = some r) (R : Option (List V)) (_ : some [V.bool r] = R) (fr : Fr) (H : Hp) (_ : canon 0 [0, 1, 12, 13] fr H = ([(0, (.sl v0z (List.map (V.int .u8) v0l))), (1, (.sl v1z (List.map (V.int .u8) v1l))), (12, (.int .i64 v12)), (13, (.int .i64 v13))], [])), fin zbbq (unw T (orc T (M + 7)) (M + 7) 0 [.blk 0, .code zbbm] (iter 0 [0, 1, 12, 13] (exec T (orc T (M + 7)) (M + 7) 0 zbbj) j fr H)) = R
def zb8a := And.intro @kk <| And.intro @ke <| And.intro @kn <| And.intro @zbx1 <| @zbx3
theorem zb8b (q : Nat) (zb97 : zb79 q) : zb79 (q + 1) := by
 intro M hM j hj v0z v0l v1z v1l v12 v13 r h R hR fr H hc
 obtain ⟨j, rfl⟩ : ∃ i, j = i + 1 := ⟨j - 1, by omega⟩
 rw [zhv, hc]; clear hc
 rw [zlb] at h
 replace h := br h; rcases h with ⟨h1, h⟩ | ⟨h1, h⟩
 ·replace h := bn h; obtain ⟨h2, h⟩ := h
  replace h := ob h; obtain ⟨e1, h3, h⟩ := h
  replace h := ob h; obtain ⟨e2, h4, h⟩ := h
  replace h := br h; rcases h with ⟨h5, h⟩ | ⟨h5, h⟩
  ·replace h := zb97 M (by omega) j (by omega) _ _ _ _ _ _ _ h R hR
   simp only [zb8a, simprocAttr, *]
  ·cases h; subst hR; simp only [zb8a, simprocAttr, *]
 ·cases h; subst hR; simp only [zb8a, simprocAttr, *]
theorem zb8c : ∀ q, zb79 q
 | 0 => by intro M hM j hj; intros; rename_i h _ _ _ _ _; cases h
 | q + 1 => by have i0 := zb8c q; exact zb8b q i0
theorem zb8d : ∀ (q N : Nat), 8 * q ≤ N → ∀ (a0 a1 : (Sl Int)), ∀ (r : Bool), zlc q a0 a1 = some r → (orc T N).deep F.zlc [(Sl.enc (V.int .u8)) a0, (Sl.enc (V.int .u8)) a1] = some [V.bool r] := by
 intro q N hM a0 a1 r h
 rcases q with _ | q
 ·cases h
 obtain ⟨M, rfl⟩ : ∃ M, N = M + 8 := ⟨N - 8, by omega⟩
 have zb97 := (zb8c q)
 generalize hR : some [V.bool r] = R
 rw [zh4, zbq4, y4, zh2]
 rw [zlc] at h
 replace h := br h; rcases h with ⟨h1, h⟩ | ⟨h1, h⟩
 ·replace h := zb97 M (by omega) (M + 7) (by omega) _ _ _ _ _ _ _ h R hR
  simp only [zb8a, simprocAttr, *]
 ·cases h; subst hR; simp only [zb8a, simprocAttr, *]
def zb8e := And.intro @kk <| And.intro @ke <| And.intro @kn <| And.intro @zbx4 <| @zbx6
theorem zb8f : ∀ (q N : Nat), 8 * q ≤ N → ∀ (a0 : (Sl Int)), ∀ (r : (Ow Int)), zld q a0 = some r → (orc T N).deep F.zld [(Sl.enc (V.int .u8)) a0] = some [(Ow.enc 1 (V.int .u8)) r] := by
 intro q N hM a0 r h
 rcases q with _ | q
 ·cases h
 obtain ⟨M, rfl⟩ : ∃ M, N = M + 8 := ⟨N - 8, by omega⟩
 generalize hR : some [(Ow.enc 1 (V.int .u8)) r] = R
 rw [zh4, zbq5, y4, zh2]
 rw [zld] at h
 replace h := bb h; rcases h with ⟨h1', h1, h⟩ | ⟨h1', h1, h⟩
 ·cases h; subst hR; simp only [zb8e, simprocAttr, *]
 ·replace h := bn h; obtain ⟨h2, h⟩ := h
  cases h; subst hR; simp only [zb8e, simprocAttr, *]
def zb8g := And.intro @kk <| And.intro @ke <| And.intro @kn <| And.intro @zbwj <| And.intro @zbwn <| And.intro @zbxe <| And.intro @zbxz <| And.intro @zbx2 <| And.intro @zbx5 <| @zbwl
theorem zb8h : ∀ (q N : Nat), 8 * q ≤ N → ∀ (a0 : (Sl Int)), ∀ (r : (Ow Int) × Int × Int), zle q a0 = some r → (orc T N).deep F.zle [(Sl.enc (V.int .u8)) a0] = some [(Ow.enc 1 (V.int .u8)) r.1, (V.int .i64) r.2.1, (V.int .i64) r.2.2] := by
 intro q N hM a0 r h
 rcases q with _ | q
 ·cases h
 obtain ⟨M, rfl⟩ : ∃ M, N = M + 8 := ⟨N - 8, by omega⟩
 generalize hR : some [(Ow.enc 1 (V.int .u8)) r.1, (V.int .i64) r.2.1, (V.int .i64) r.2.2] = R
 rw [zh4, zbqm, y4, zh2]
 rw [zle] at h
 replace h := ob h; obtain ⟨r1, h1, h⟩ := h
 replace h1 := zb71 q (M + 7) (by omega) _ _ h1
 try simp only [kf, simprocAttr] at h1
 replace h := bb h; rcases h with ⟨h2', h2, h⟩ | ⟨h2', h2, h⟩
 ·cases h; subst hR; simp only [zb8g, simprocAttr, *]
 ·replace h := ob h; obtain ⟨r2, h3, h⟩ := h
  replace h3 := zb78 q (M + 7) (by omega) _ _ h3
  try simp only [kf, simprocAttr] at h3
  replace h := br h; rcases h with ⟨h4, h⟩ | ⟨h4, h⟩
  ·cases h; subst hR; simp only [zb8g, simprocAttr, *]
  ·replace h := br h; rcases h with ⟨h5, h⟩ | ⟨h5, h⟩
   ·cases h; subst hR; simp only [zb8g, simprocAttr, *]
   ·replace h := br h; rcases h with ⟨h6, h⟩ | ⟨h6, h⟩
    ·cases h; subst hR; simp only [zb8g, simprocAttr, *]
    ·replace h := bn h; obtain ⟨h7, h⟩ := h
     replace h := bn h; obtain ⟨h8, h⟩ := h
     replace h := bn h; obtain ⟨h9, h⟩ := h
     replace h := bn h; obtain ⟨h10, h⟩ := h
     replace h := bn h; obtain ⟨h11, h⟩ := h
     replace h := bn h; obtain ⟨h12, h⟩ := h
     replace h := bn h; obtain ⟨h13, h⟩ := h
     replace h := bn h; obtain ⟨h14, h⟩ := h
     replace h := bn h; obtain ⟨h15, h⟩ := h
     replace h := ob h; obtain ⟨r3, h16, h⟩ := h
     replace h16 := zb5s q (M + 7) (by omega) _ _ _ h16
     try simp only [kf, simprocAttr] at h16
     replace h := ob h; obtain ⟨r4, h17, h⟩ := h
     replace h17 := zb8d q (M + 7) (by omega) _ _ _ h17
     try simp only [kf, simprocAttr] at h17
     replace h := bb h; rcases h with ⟨h18', h18, h⟩ | ⟨h18', h18, h⟩
     ·replace h := ob h; obtain ⟨r5, h19, h⟩ := h
      replace h19 := zb8f q (M + 7) (by omega) _ _ h19
      try simp only [kf, simprocAttr] at h19
      cases h; subst hR; simp only [zb8g, simprocAttr, *]
     ·cases h; subst hR; simp only [zb8g, simprocAttr, *]
def zb8i (q : Nat) : Prop := ∀ (M : Nat) (hM : 8 * q ≤ M) (j : Nat) (hj : q ≤ j) (v0z : Bool) (v0l : List Int) (v3 : Int) (h0z : Bool) (h0l : List (Sl Int)) (r : (Ow (Sl Int)) × Int × Int) (_ : zlf q v0z v0l v3 h0z h0l = some r) (R : Option (List V)) (_ : some [(Ow.enc 1 (Sl.enc (V.int .u8))) r.1, (V.int .i64) r.2.1, (V.int .i64) r.2.2] = R) (fr : Fr) (H : Hp) (_ : canon 0 [0, 2, 3] fr H = ([(0, (.sl v0z (List.map (V.int .u8) v0l))), (2, (.vw 0 0 0 h0l.length 1)), (3, (.int .i64 v3))], [(.row 0 h0z 1 (List.map (Sl.enc (V.int .u8)) h0l) true)])), fin zxg (unw T (orc T (M + 7)) (M + 7) 0 [.blk 0, .code zxd] (iter 0 [0, 2, 3] (exec T (orc T (M + 7)) (M + 7) 0 zxb) j fr H)) = R
def zb8j := And.intro @kk <| And.intro @ke <| And.intro @kn <| And.intro @zbu1 <| And.intro @zbwk <| @zbu3
theorem zb8k (q : Nat) (zb98 : zb8i q) : zb8i (q + 1) := by
 intro M hM j hj v0z v0l v3 h0z h0l r h R hR fr H hc
 obtain ⟨j, rfl⟩ : ∃ i, j = i + 1 := ⟨j - 1, by omega⟩
 rw [zhv, hc]; clear hc
 rw [zlf] at h
 replace h := br h; rcases h with ⟨h1, h⟩ | ⟨h1, h⟩
 ·replace h := bn h; obtain ⟨h2, h⟩ := h
  replace h := bn h; obtain ⟨h3, h⟩ := h
  replace h := ob h; obtain ⟨r1, h4, h⟩ := h
  replace h4 := zb8h q (M + 7) (by omega) _ _ h4
  try simp only [kf, simprocAttr] at h4
  replace h := br h; rcases h with ⟨h5, h⟩ | ⟨h5, h⟩
  ·replace h := bn h; obtain ⟨h6, h⟩ := h
   replace h := zb98 M (by omega) j (by omega) _ _ _ _ _ _ h R hR
   simp only [zb8j, simprocAttr, *]
  ·cases h; subst hR; simp only [zb8j, simprocAttr, *]
 ·cases h; subst hR; simp only [zb8j, simprocAttr, *]
theorem zb8l : ∀ q, zb8i q
 | 0 => by intro M hM j hj; intros; rename_i h _ _ _ _ _; cases h
 | q + 1 => by have i0 := zb8l q; exact zb8k q i0
theorem zb8m : ∀ (q N : Nat), 8 * q ≤ N → ∀ (a0 : (Sl Int)), ∀ (r : (Ow (Sl Int)) × Int × Int), zlg q a0 = some r → (orc T N).deep F.zlg [(Sl.enc (V.int .u8)) a0] = some [(Ow.enc 1 (Sl.enc (V.int .u8))) r.1, (V.int .i64) r.2.1, (V.int .i64) r.2.2] := by
 intro q N hM a0 r h
 rcases q with _ | q
 ·cases h
 obtain ⟨M, rfl⟩ : ∃ M, N = M + 8 := ⟨N - 8, by omega⟩
 have zb98 := (zb8l q)
 generalize hR : some [(Ow.enc 1 (Sl.enc (V.int .u8))) r.1, (V.int .i64) r.2.1, (V.int .i64) r.2.2] = R
 rw [zh4, zbp4, y4, zh2]
 rw [zlg] at h
 replace h := zb98 M (by omega) (M + 7) (by omega) _ _ _ _ _ _ h R hR
 simp only [zb8j, simprocAttr, *]
def zb8n := And.intro @kk <| And.intro @ke <| And.intro @kn <| And.intro @zbud <| And.intro @zbu2 <| @zbuf
theorem zb8o : ∀ (q N : Nat), 8 * q ≤ N → ∀ (a0 : (Sl Int)), ∀ (r : (Ow (Sl Int)) × Int), zlh q a0 = some r → (orc T N).deep F.zlh [(Sl.enc (V.int .u8)) a0] = some [(Ow.enc 1 (Sl.enc (V.int .u8))) r.1, (V.int .i64) r.2] := by
 intro q N hM a0 r h
 rcases q with _ | q
 ·cases h
 obtain ⟨M, rfl⟩ : ∃ M, N = M + 8 := ⟨N - 8, by omega⟩
 generalize hR : some [(Ow.enc 1 (Sl.enc (V.int .u8))) r.1, (V.int .i64) r.2] = R
 rw [zh4, zbpw, y4, zh2]
 rw [zlh] at h
 replace h := ob h; obtain ⟨r1, h1, h⟩ := h
 replace h1 := zb8m q (M + 7) (by omega) _ _ h1
 try simp only [kf, simprocAttr] at h1
 replace h := br h; rcases h with ⟨h2, h⟩ | ⟨h2, h⟩
 ·cases h; subst hR; simp only [zb8n, simprocAttr, *]
 ·cases h; subst hR; simp only [zb8n, simprocAttr, *]
def zb8p := And.intro @kk <| And.intro @ke <| And.intro @kn <| And.intro @zb0y <| @zb00
theorem zb8q : ∀ (q N : Nat), 8 * q ≤ N → ∀ (a0 r : Int), zli q a0 = some r → (orc T N).deep F.zli [(V.int .u64) a0] = some [(V.int .i64) r] := by
 intro q N hM a0 r h
 rcases q with _ | q
 ·cases h
 obtain ⟨M, rfl⟩ : ∃ M, N = M + 8 := ⟨N - 8, by omega⟩
 generalize hR : some [(V.int .i64) r] = R
 rw [zh4, zbr3, y4, zh2]
 rw [zli] at h
 cases h; subst hR; simp only [zb8p, simprocAttr, *]
def zb8r := And.intro @kk <| And.intro @ke <| And.intro @kn <| And.intro @zbz4 <| And.intro @zbx8 <| And.intro @zb0z <| @zbz6
theorem zb8s : ∀ (q N : Nat), 8 * q ≤ N → ∀ (a0 : (Sl Int)), ∀ (r : Int × Int), zlj q a0 = some r → (orc T N).deep F.zlj [(Sl.enc (V.int .u8)) a0] = some [(V.int .i64) r.1, (V.int .i64) r.2] := by
 intro q N hM a0 r h
 rcases q with _ | q
 ·cases h
 obtain ⟨M, rfl⟩ : ∃ M, N = M + 8 := ⟨N - 8, by omega⟩
 generalize hR : some [(V.int .i64) r.1, (V.int .i64) r.2] = R
 rw [zh4, zbrt, y4, zh2]
 rw [zlj] at h
 replace h := ob h; obtain ⟨r1, h1, h⟩ := h
 replace h1 := zb76 q (M + 7) (by omega) _ _ h1
 try simp only [kf, simprocAttr] at h1
 replace h := br h; rcases h with ⟨h2, h⟩ | ⟨h2, h⟩
 ·cases h; subst hR; simp only [zb8r, simprocAttr, *]
 ·replace h := ob h; obtain ⟨r2, h3, h⟩ := h
  replace h3 := zb8q q (M + 7) (by omega) _ _ h3
  cases h; subst hR; simp only [zb8r, simprocAttr, *]
def zb8t := And.intro @kk <| And.intro @ke <| And.intro @kn <| And.intro @zbz7 <| And.intro @zb01 <| And.intro @zb1j <| And.intro @zb1m <| And.intro @zb1p <| And.intro @zbwn <| And.intro @zbw5 <| And.intro @zbz5 <| And.intro @zb02 <| And.intro @zb03 <| And.intro @zb1k <| And.intro @zb1l <| And.intro @zb1n <| And.intro @zb1o <| And.intro @zb1q <| And.intro @zb1r <| @zbz9
theorem zb8u : ∀ (q N : Nat), 8 * q ≤ N → ∀ (a0 : (Sl Int)), ∀ (r : zjr × Int), zlk q a0 = some r → (orc T N).deep F.zlk [(Sl.enc (V.int .u8)) a0] = some [zjr.enc r.1, (V.int .i64) r.2] := by
 intro q N hM a0 r h
 rcases q with _ | q
 ·cases h
 obtain ⟨M, rfl⟩ : ∃ M, N = M + 8 := ⟨N - 8, by omega⟩
 generalize hR : some [zjr.enc r.1, (V.int .i64) r.2] = R
 rw [zh4, zbru, y4, zh2]
 rw [zlk] at h
 replace h := ob h; obtain ⟨r1, h1, h⟩ := h
 replace h1 := zb78 q (M + 6) (by omega) _ _ h1
 try simp only [kf, simprocAttr] at h1
 replace h := bn h; obtain ⟨h2, h⟩ := h
 replace h := bn h; obtain ⟨h3, h⟩ := h
 replace h := ob h; obtain ⟨r2, h4, h⟩ := h
 replace h4 := zb8s q (M + 6) (by omega) _ _ h4
 try simp only [kf, simprocAttr] at h4
 replace h := br h; rcases h with ⟨h5, h⟩ | ⟨h5, h⟩
 ·replace h := bn h; obtain ⟨h6, h⟩ := h
  replace h := bn h; obtain ⟨h7, h⟩ := h
  replace h := ob h; obtain ⟨r3, h8, h⟩ := h
  replace h8 := zb8s q (M + 6) (by omega) _ _ h8
  try simp only [kf, simprocAttr] at h8
  replace h := br h; rcases h with ⟨h9, h⟩ | ⟨h9, h⟩
  ·replace h := bn h; obtain ⟨h10, h⟩ := h
   replace h := bn h; obtain ⟨h11, h⟩ := h
   replace h := br h; rcases h with ⟨h12, h⟩ | ⟨h12, h⟩
   ·replace h := ob h; obtain ⟨r4, h13, h⟩ := h
    replace h13 := zb6d q (M + 7) (by omega) _ _ h13
    try simp only [kf, simprocAttr] at h13
    replace h := bb h; rcases h with ⟨h14', h14, h⟩ | ⟨h14', h14, h⟩
    ·cases h; subst hR; simp only [zb8t, simprocAttr, *]
    ·cases h; subst hR; simp only [zb8t, simprocAttr, *]
   ·cases h; subst hR; simp only [zb8t, simprocAttr, *]
  ·replace h := bn h; obtain ⟨h15, h⟩ := h
   replace h := bn h; obtain ⟨h16, h⟩ := h
   cases h; subst hR; simp only [zb8t, simprocAttr, *]
 ·replace h := bn h; obtain ⟨h17, h⟩ := h
  replace h := bn h; obtain ⟨h18, h⟩ := h
  replace h := ob h; obtain ⟨r5, h19, h⟩ := h
  replace h19 := zb8s q (M + 6) (by omega) _ _ h19
  try simp only [kf, simprocAttr] at h19
  replace h := bn h; obtain ⟨h20, h⟩ := h
  replace h := bn h; obtain ⟨h21, h⟩ := h
  cases h; subst hR; simp only [zb8t, simprocAttr, *]
def zb8v (q : Nat) : Prop := ∀ (M : Nat) (hM : 8 * q ≤ M) (j : Nat) (hj : q ≤ j) (v3 v47_0 v47_1 v47_2 v47_3 v48 h0_1 h0_2 h0_3 h0_4 h0_5 h0_6 : Int) (r : zjs × Int) (_ : zll q v3 v47_0 v47_1 v47_2 v47_3 v48 h0_1 h0_2 h0_3 h0_4 h0_5 h0_6 = some r) (R : Option (List V)) (_ : some [zjs.enc r.1, (V.int .i64) r.2] = R) (fr : Fr) (H : Hp) (_ : canon 0 [2, 3, 47, 48] fr H = ([(2, (.ptr 0 0)), (3, (.int .i64 v3)), (47, (.agg [(.int .i64 v47_0), (.int .i64 v47_1), (.int .i64 v47_2), (.int .i64 v47_3)])), (48, (.int .i64 v48))], [(.box [(.int .i64 0), (.int .i64 h0_1), (.int .i64 h0_2), (.int .i64 h0_3), (.int .i64 h0_4), (.int .i64 h0_5), (.int .i64 h0_6)])])), fin zbc9 (unw T (orc T (M + 7)) (M + 7) 0 [.blk 0, .code zbcy] (iter 0 [2, 3, 47, 48] (exec T (orc T (M + 7)) (M + 7) 0 zbcv) j fr H)) = R
def zb8w := And.intro @kk <| And.intro @ke <| And.intro @kn <| And.intro @zbya <| And.intro @zbwn <| And.intro @zbz5 <| And.intro @zbz8 <| @zbyc
theorem zb8x (q : Nat) (zb99 : zb8v q) : zb8v (q + 1) := by
 intro M hM j hj v3 v47_0 v47_1 v47_2 v47_3 v48 h0_1 h0_2 h0_3 h0_4 h0_5 h0_6 r h R hR fr H hc
 obtain ⟨j, rfl⟩ : ∃ i, j = i + 1 := ⟨j - 1, by omega⟩
 rw [zhv, hc]; clear hc
 rw [zll] at h
 replace h := br h; rcases h with ⟨h1, h⟩ | ⟨h1, h⟩
 ·replace h := bn h; obtain ⟨h2, h⟩ := h
  replace h := bn h; obtain ⟨h3, h⟩ := h
  replace h := bc h; rcases h with ⟨h4, h⟩ | ⟨h4, h⟩
  ·replace h := br h; rcases h with ⟨h5, h⟩ | ⟨h5, h⟩
   ·cases h; subst hR; simp only [zb8w, simprocAttr, *]
   ·replace h := zb99 M (by omega) j (by omega) _ _ _ _ _ _ _ _ _ _ _ _ _ h R hR
    simp only [zb8w, simprocAttr, *]
  ·replace h := bc h; rcases h with ⟨h6, h⟩ | ⟨h6, h⟩
   ·replace h := br h; rcases h with ⟨h7, h⟩ | ⟨h7, h⟩
    ·cases h; subst hR; simp only [zb8w, simprocAttr, *]
    ·replace h := zb99 M (by omega) j (by omega) _ _ _ _ _ _ _ _ _ _ _ _ _ h R hR
     simp only [zb8w, simprocAttr, *]
   ·replace h := bc h; rcases h with ⟨h8, h⟩ | ⟨h8, h⟩
    ·replace h := br h; rcases h with ⟨h9, h⟩ | ⟨h9, h⟩
     ·cases h; subst hR; simp only [zb8w, simprocAttr, *]
     ·replace h := zb99 M (by omega) j (by omega) _ _ _ _ _ _ _ _ _ _ _ _ _ h R hR
      simp only [zb8w, simprocAttr, *]
    ·replace h := bc h; rcases h with ⟨h10, h⟩ | ⟨h10, h⟩
     ·replace h := br h; rcases h with ⟨h11, h⟩ | ⟨h11, h⟩
      ·cases h; subst hR; simp only [zb8w, simprocAttr, *]
      ·replace h := zb99 M (by omega) j (by omega) _ _ _ _ _ _ _ _ _ _ _ _ _ h R hR
       simp only [zb8w, simprocAttr, *]
     ·cases h
 ·cases h; subst hR; simp only [zb8w, simprocAttr, *]
theorem zb8y : ∀ q, zb8v q
 | 0 => by intro M hM j hj; intros; rename_i h _ _ _ _ _; cases h
 | q + 1 => by have i0 := zb8y q; exact zb8x q i0
theorem zb8z : ∀ (q N : Nat), 8 * q ≤ N → ∀ (a0 : (Sl Int)), ∀ (r : zjs × Int), zlm q a0 = some r → (orc T N).deep F.zlm [(Sl.enc (V.int .u8)) a0] = some [zjs.enc r.1, (V.int .i64) r.2] := by
 intro q N hM a0 r h
 rcases q with _ | q
 ·cases h
 obtain ⟨M, rfl⟩ : ∃ M, N = M + 8 := ⟨N - 8, by omega⟩
 have zb99 := (zb8y q)
 generalize hR : some [zjs.enc r.1, (V.int .i64) r.2] = R
 rw [zh4, zbq7, y4, zh2]
 rw [zlm] at h
 replace h := ob h; obtain ⟨r1, h1, h⟩ := h
 replace h1 := zb78 q (M + 7) (by omega) _ _ h1
 try simp only [kf, simprocAttr] at h1
 replace h := bn h; obtain ⟨h2, h⟩ := h
 replace h := bn h; obtain ⟨h3, h⟩ := h
 replace h := ob h; obtain ⟨r2, h4, h⟩ := h
 replace h4 := zb8s q (M + 7) (by omega) _ _ h4
 try simp only [kf, simprocAttr] at h4
 replace h := bn h; obtain ⟨h5, h⟩ := h
 replace h := bn h; obtain ⟨h6, h⟩ := h
 replace h := ob h; obtain ⟨r3, h7, h⟩ := h
 replace h7 := zb8u q (M + 7) (by omega) _ _ h7
 try simp only [kf, simprocAttr] at h7
 replace h := bn h; obtain ⟨h8, h⟩ := h
 replace h := bn h; obtain ⟨h9, h⟩ := h
 replace h := ob h; obtain ⟨r4, h10, h⟩ := h
 replace h10 := zb8s q (M + 7) (by omega) _ _ h10
 try simp only [kf, simprocAttr] at h10
 replace h := zb99 M (by omega) (M + 7) (by omega) _ _ _ _ _ _ _ _ _ _ _ _ _ h R hR
 simp only [zb8w, simprocAttr, *]
def zb80 := And.intro @kk <| And.intro @ke <| And.intro @kn <| And.intro @zbuj <| @zbul
theorem zb81 : ∀ (q N : Nat), 8 * q ≤ N → ∀ (a0 a1 : (Sl Int)), ∀ (r : Bool), zln q a0 a1 = some r → (orc T N).deep F.zln [(Sl.enc (V.int .u8)) a0, (Sl.enc (V.int .u8)) a1] = some [V.bool r] := by
 intro q N hM a0 a1 r h
 rcases q with _ | q
 ·cases h
 obtain ⟨M, rfl⟩ : ∃ M, N = M + 8 := ⟨N - 8, by omega⟩
 generalize hR : some [V.bool r] = R
 rw [zh4, zbpy, y4, zh2]
 rw [zln] at h
 cases h; subst hR; simp only [zb80, simprocAttr, *]
def zb82 (q : Nat) : Prop := ∀ (M : Nat) (hM : 8 * q ≤ M) (j : Nat) (hj : q ≤ j) (v0z : Bool) (v0l : List Int) (v4 : Int) (v10z : Bool) (v10l : List Int) (v44 v45 : Int) (h0m : List (Int × Int)) (h1z : Bool) (h1l : List zjs) (r : (Ow zjs) × Int) (_ : zlo q v0z v0l v4 v10z v10l v44 v45 h0m h1z h1l = some r) (R : Option (List V)) (_ : some [(Ow.enc 7 zjs.enc) r.1, (V.int .i64) r.2] = R) (fr : Fr) (H : Hp) (_ : canon 0 [0, 4, 8, 9, 10, 44, 45] fr H = ([(0, (.sl v0z (List.map (V.int .u8) v0l))), (4, (.int .i64 v4)), (8, (.mp 0)), (9, (.vw 1 0 0 h1l.length 1)), (10, (.sl v10z (List.map (V.int .u8) v10l))), (44, (.int .i64 v44)), (45, (.int .i64 v45))], [(.map h0m), (.row 0 h1z 7 (List.map zjs.enc h1l) true)])), fin z4r (unw T (orc T (M + 7)) (M + 7) 0 [.blk 0, .code z4i] (iter 0 [0, 4, 8, 9, 10, 44, 45] (exec T (orc T (M + 7)) (M + 7) 0 z39) j fr H)) = R
def zb83 := And.intro @kk <| And.intro @ke <| And.intro @kn <| And.intro @zbwp <| And.intro @zbuk <| And.intro @zbwn <| And.intro @zbw8 <| And.intro @zbyb <| @zbwr
theorem zb84 (q : Nat) (zcaa : zb82 q) : zb82 (q + 1) := by
 intro M hM j hj v0z v0l v4 v10z v10l v44 v45 h0m h1z h1l r h R hR fr H hc
 obtain ⟨j, rfl⟩ : ∃ i, j = i + 1 := ⟨j - 1, by omega⟩
 rw [zhv, hc]; clear hc
 rw [zlo] at h
 replace h := br h; rcases h with ⟨h1, h⟩ | ⟨h1, h⟩
 ·replace h := ob h; obtain ⟨r3, h2, h⟩ := h
  replace h2 := zb8z q (M + 7) (by omega) _ _ h2
  try simp only [kf, simprocAttr] at h2
  replace h := br h; rcases h with ⟨h3, h⟩ | ⟨h3, h⟩
  ·cases h; subst hR; simp only [zb83, simprocAttr, *]
  ·replace h := bn h; obtain ⟨h4, h⟩ := h
   replace h := bn h; obtain ⟨h5, h⟩ := h
   replace h := bn h; obtain ⟨h6, h⟩ := h
   replace h := zcaa M (by omega) j (by omega) _ _ _ _ _ _ _ _ _ _ _ h R hR
   simp only [zb83, simprocAttr, *]
 ·replace h := ob h; obtain ⟨r4, h7, h⟩ := h
  replace h7 := zb60 q (M + 7) (by omega) _ _ h7
  try simp only [kf, simprocAttr] at h7
  replace h := br h; rcases h with ⟨h8, h⟩ | ⟨h8, h⟩
  ·replace h := ob h; obtain ⟨r5, h9, h⟩ := h
   replace h9 := zb81 q (M + 7) (by omega) _ _ _ h9
   try simp only [kf, simprocAttr] at h9
   replace h := bb h; rcases h with ⟨h10', h10, h⟩ | ⟨h10', h10, h⟩
   ·cases h; subst hR; simp only [zb83, simprocAttr, *]
   ·cases h; subst hR; simp only [zb83, simprocAttr, *]
  ·cases h; subst hR; simp only [zb83, simprocAttr, *]
theorem zb85 : ∀ q, zb82 q
 | 0 => by intro M hM j hj; intros; rename_i h _ _ _ _ _; cases h
 | q + 1 => by have i0 := zb85 q; exact zb84 q i0
theorem zb86 : ∀ (q N : Nat), 8 * q ≤ N → ∀ (a0 : (Sl Int)), ∀ (r : (Ow zjs) × Int), zlp q a0 = some r → (orc T N).deep F.zlp [(Sl.enc (V.int .u8)) a0] = some [(Ow.enc 7 zjs.enc) r.1, (V.int .i64) r.2] := by
 intro q N hM a0 r h
 rcases q with _ | q
 ·cases h
 obtain ⟨M, rfl⟩ : ∃ M, N = M + 8 := ⟨N - 8, by omega⟩
 have zcaa := (zb85 q)
 generalize hR : some [(Ow.enc 7 zjs.enc) r.1, (V.int .i64) r.2] = R
 rw [zh4, zbqo, y4, zh2]
 rw [zlp] at h
 replace h := ob h; obtain ⟨r1, h1, h⟩ := h
 replace h1 := zb78 q (M + 7) (by omega) _ _ h1
 try simp only [kf, simprocAttr] at h1
 replace h := bn h; obtain ⟨h2, h⟩ := h
 replace h := bn h; obtain ⟨h3, h⟩ := h
 replace h := ob h; obtain ⟨r2, h4, h⟩ := h
 replace h4 := zb78 q (M + 7) (by omega) _ _ h4
 try simp only [kf, simprocAttr] at h4
 replace h := br h; rcases h with ⟨h5, h⟩ | ⟨h5, h⟩
 ·cases h; subst hR; simp only [zb83, simprocAttr, *]
 ·replace h := br h; rcases h with ⟨h6, h⟩ | ⟨h6, h⟩
  ·cases h; subst hR; simp only [zb83, simprocAttr, *]
  ·replace h := br h; rcases h with ⟨h7, h⟩ | ⟨h7, h⟩
   ·cases h; subst hR; simp only [zb83, simprocAttr, *]
   ·replace h := bn h; obtain ⟨h8, h⟩ := h
    replace h := bn h; obtain ⟨h9, h⟩ := h
    replace h := zcaa M (by omega) (M + 7) (by omega) _ _ _ _ _ _ _ _ _ _ _ h R hR
    simp only [zb83, simprocAttr, *]
def zb87 := And.intro @kk <| And.intro @ke <| And.intro @kn <| And.intro @zb04 <| @zb06
theorem zb88 : ∀ (q N : Nat), 8 * q ≤ N → ∀ (a0 : (Sl Int)), ∀ (r : (Ow Int)), zlq q a0 = some r → (orc T N).deep F.zlq [(Sl.enc (V.int .i64)) a0] = some [(Ow.enc 1 (V.int .i64)) r] := by
 intro q N hM a0 r h
 rcases q with _ | q
 ·cases h
 obtain ⟨M, rfl⟩ : ∃ M, N = M + 8 := ⟨N - 8, by omega⟩
 generalize hR : some [(Ow.enc 1 (V.int .i64)) r] = R
 rw [zh4, zbr5, y4, zh2]
 rw [zlq] at h
 replace h := bb h; rcases h with ⟨h1', h1, h⟩ | ⟨h1', h1, h⟩
 ·cases h; subst hR; simp only [zb87, simprocAttr, *]
 ·replace h := bn h; obtain ⟨h2, h⟩ := h
  cases h; subst hR; simp only [zb87, simprocAttr, *]
def zb89 (q : Nat) : Prop := ∀ (M : Nat) (hM : 8 * q ≤ M) (j : Nat) (hj : q ≤ j) (v0z : Bool) (v0l : List Int) (v1 v7 v8 r : Int) (_ : zlr q v0z v0l v1 v7 v8 = some r) (R : Option (List V)) (_ : some [(V.int .i64) r] = R) (fr : Fr) (H : Hp) (_ : canon 0 [0, 1, 7, 8] fr H = ([(0, (.sl v0z (List.map (V.int .i64) v0l))), (1, (.int .i64 v1)), (7, (.int .i64 v7)), (8, (.int .i64 v8))], [])), fin zbm7 (unw T (orc T (M + 7)) (M + 7) 0 [.blk 0, .code zbm4] (iter 0 [0, 1, 7, 8] (exec T (orc T (M + 7)) (M + 7) 0 zbm1) j fr H)) = R
def zb9a := And.intro @kk <| And.intro @ke <| And.intro @kn <| And.intro @zb07 <| @zb09
theorem zb9b (q : Nat) (zcab : zb89 q) : zb89 (q + 1) := by
 intro M hM j hj v0z v0l v1 v7 v8 r h R hR fr H hc
 obtain ⟨j, rfl⟩ : ∃ i, j = i + 1 := ⟨j - 1, by omega⟩
 rw [zhv, hc]; clear hc
 rw [zlr] at h
 replace h := br h; rcases h with ⟨h1, h⟩ | ⟨h1, h⟩
 ·replace h := bn h; obtain ⟨h2, h⟩ := h
  replace h := ob h; obtain ⟨e1, h3, h⟩ := h
  replace h := br h; rcases h with ⟨h4, h⟩ | ⟨h4, h⟩
  ·cases h; subst hR; simp only [zb9a, simprocAttr, *]
  ·replace h := zcab M (by omega) j (by omega) _ _ _ _ _ _ h R hR
   simp only [zb9a, simprocAttr, *]
 ·cases h; subst hR; simp only [zb9a, simprocAttr, *]
theorem zb9c : ∀ q, zb89 q
 | 0 => by intro M hM j hj; intros; rename_i h _ _ _ _ _; cases h
 | q + 1 => by have i0 := zb9c q; exact zb9b q i0
theorem zb9d : ∀ (q N : Nat), 8 * q ≤ N → ∀ (a0 : (Sl Int)) (a1 : Int), ∀ (r : Int), zls q a0 a1 = some r → (orc T N).deep F.zls [(Sl.enc (V.int .i64)) a0, (V.int .i64) a1] = some [(V.int .i64) r] := by
 intro q N hM a0 a1 r h
 rcases q with _ | q
 ·cases h
 obtain ⟨M, rfl⟩ : ∃ M, N = M + 8 := ⟨N - 8, by omega⟩
 have zcab := (zb9c q)
 generalize hR : some [(V.int .i64) r] = R
 rw [zh4, zbr6, y4, zh2]
 rw [zls] at h
 replace h := zcab M (by omega) (M + 7) (by omega) _ _ _ _ _ _ h R hR
 simp only [zb9a, simprocAttr, *]
def zb9e := And.intro @kk <| And.intro @ke <| And.intro @kn <| And.intro @zb1a <| @zb1c
theorem zb9f : ∀ (q N : Nat), 8 * q ≤ N → ∀ (a0 : (Ow Int)) (a1 a2 : Int), ∀ (r : (Ow Int)), zlt q a0 a1 a2 = some r → (orc T N).deep F.zlt [(Ow.enc 1 (V.int .i64)) a0, (V.int .i64) a1, (V.int .i64) a2] = some [(Ow.enc 1 (V.int .i64)) r] := by
 intro q N hM a0 a1 a2 r h
 rcases q with _ | q
 ·cases h
 obtain ⟨M, rfl⟩ : ∃ M, N = M + 8 := ⟨N - 8, by omega⟩
 generalize hR : some [(Ow.enc 1 (V.int .i64)) r] = R
 rw [zh4, zbr7, y4, zh2]
 rw [zlt] at h
 replace h := bn h; obtain ⟨h1, h⟩ := h
 replace h := bn h; obtain ⟨h2, h⟩ := h
 replace h := bn h; obtain ⟨h3, h⟩ := h
 replace h := br h; rcases h with ⟨h4, h⟩ | ⟨h4, h⟩
 ·cases h; subst hR; simp only [zb9e, simprocAttr, *]
 ·replace h := bn h; obtain ⟨h5, h⟩ := h
  replace h := bb h; rcases h with ⟨h6', h6, h⟩ | ⟨h6', h6, h⟩
  ·replace h := bn h; obtain ⟨h7, h⟩ := h
   replace h := bn h; obtain ⟨h8, h⟩ := h
   replace h := bn h; obtain ⟨h9, h⟩ := h
   replace h := bn h; obtain ⟨h10, h⟩ := h
   replace h := bn h; obtain ⟨h11, h⟩ := h
   replace h := bm h; obtain ⟨h12, h⟩ := h
   replace h := bb h; rcases h with ⟨h13', h13, h⟩ | ⟨h13', h13, h⟩
   ·cases h; subst hR; simp only [zb9e, simprocAttr, *]
   ·cases h
  ·replace h := bn h; obtain ⟨h14, h⟩ := h
   replace h := bn h; obtain ⟨h15, h⟩ := h
   replace h := bn h; obtain ⟨h16, h⟩ := h
   replace h := bb h; rcases h with ⟨h17', h17, h⟩ | ⟨h17', h17, h⟩
   ·replace h := bn h; obtain ⟨h18, h⟩ := h
    replace h := bn h; obtain ⟨h19, h⟩ := h
    cases h; subst hR; simp only [zb9e, simprocAttr, *]
   ·cases h
def zb9g := And.intro @kk <| And.intro @ke <| And.intro @kn <| And.intro @zb1g <| And.intro @zbwn <| @zb1i
theorem zb9h : ∀ (q N : Nat), 8 * q ≤ N → ∀ (a0 : (Sl Int)), ∀ (r : Int), zlu q a0 = some r → (orc T N).deep F.zlu [(Sl.enc (V.int .u8)) a0] = some [(V.int .i64) r] := by
 intro q N hM a0 r h
 rcases q with _ | q
 ·cases h
 obtain ⟨M, rfl⟩ : ∃ M, N = M + 8 := ⟨N - 8, by omega⟩
 generalize hR : some [(V.int .i64) r] = R
 rw [zh4, zbr9, y4, zh2]
 rw [zlu] at h
 replace h := ob h; obtain ⟨r1, h1, h⟩ := h
 replace h1 := zb78 q (M + 7) (by omega) _ _ h1
 try simp only [kf, simprocAttr] at h1
 replace h := br h; rcases h with ⟨h2, h⟩ | ⟨h2, h⟩
 ·cases h; subst hR; simp only [zb9g, simprocAttr, *]
 ·replace h := br h; rcases h with ⟨h3, h⟩ | ⟨h3, h⟩
  ·cases h; subst hR; simp only [zb9g, simprocAttr, *]
  ·cases h; subst hR; simp only [zb9g, simprocAttr, *]
def zb9i (q : Nat) : Prop := ∀ (M : Nat) (hM : 8 * q ≤ M) (j : Nat) (hj : q ≤ j) (v0 : Int) (v1z : Bool) (v1l : List Int) (v7 h0_0 h0_1 h0_2 h0_3 h0_4 h0_5 h0_6 : Int) (h1z : Bool) (h1l : List Int) (h1x : Bool) (r : zjs × Int) (_ : zlv q v0 v1z v1l v7 h0_0 h0_1 h0_2 h0_3 h0_4 h0_5 h0_6 h1z h1l h1x = some r) (R : Option (List V)) (_ : some [zjs.enc r.1, (V.int .i64) r.2] = R) (fr : Fr) (H : Hp) (_ : canon 0 [0, 1, 4, 6, 7] fr H = ([(0, (.int .i64 v0)), (1, (.sl v1z (List.map (V.int .u8) v1l))), (4, (.ptr 0 0)), (6, (.vw 1 0 0 h1l.length 1)), (7, (.int .i64 v7))], [(.box [(.int .i64 h0_0), (.int .i64 h0_1), (.int .i64 h0_2), (.int .i64 h0_3), (.int .i64 h0_4), (.int .i64 h0_5), (.int .i64 h0_6)]), (.row 0 h1z 1 (List.map (V.int .i64) h1l) h1x)])), fin zbi2 (unw T (orc T (M + 7)) (M + 7) 0 [.blk 0, .code zbiy] (iter 0 [0, 1, 4, 6, 7] (exec T (orc T (M + 7)) (M + 7) 0 zbio) j fr H)) = R
def zb9j := And.intro @kk <| And.intro @ke <| And.intro @kn <| And.intro @zb0a <| And.intro @zb1d <| And.intro @zbvk <| And.intro @zbwn <| And.intro @zbyt <| And.intro @zbz5 <| And.intro @zbz8 <| And.intro @zb05 <| And.intro @zb08 <| And.intro @zb1b <| And.intro @zb1h <| And.intro @zb1e <| And.intro @zb1f <| @zb0c
theorem zb9k (q : Nat) (zcac : zb9i q) : zb9i (q + 1) := by
 intro M hM j hj v0 v1z v1l v7 h0_0 h0_1 h0_2 h0_3 h0_4 h0_5 h0_6 h1z h1l h1x r h R hR fr H hc
 obtain ⟨j, rfl⟩ : ∃ i, j = i + 1 := ⟨j - 1, by omega⟩
 rw [zhv, hc]; clear hc
 rw [zlv] at h
 replace h := br h; rcases h with ⟨h1, h⟩ | ⟨h1, h⟩
 ·replace h := ob h; obtain ⟨r3, h2, h⟩ := h
  replace h2 := zb78 q (M + 7) (by omega) _ _ h2
  try simp only [kf, simprocAttr] at h2
  replace h := br h; rcases h with ⟨h3, h⟩ | ⟨h3, h⟩
  ·cases h; subst hR; simp only [zb9j, simprocAttr, *]
  ·replace h := br h; rcases h with ⟨h4, h⟩ | ⟨h4, h⟩
   ·cases h; subst hR; simp only [zb9j, simprocAttr, *]
   ·replace h := bn h; obtain ⟨h5, h⟩ := h
    replace h := bn h; obtain ⟨h6, h⟩ := h
    replace h := ob h; obtain ⟨r4, h7, h⟩ := h
    replace h7 := zb9d q (M + 7) (by omega) _ _ _ h7
    try simp only [kf, simprocAttr] at h7
    replace h := br h; rcases h with ⟨h8, h⟩ | ⟨h8, h⟩
    ·replace h := ob h; obtain ⟨r5, h9, h⟩ := h
     replace h9 := zb9f q (M + 7) (by omega) _ _ _ _ h9
     try simp only [kf, simprocAttr] at h9
     replace h := br h; rcases h with ⟨h10, h⟩ | ⟨h10, h⟩
     ·replace h := ob h; obtain ⟨r6, h11, h⟩ := h
      replace h11 := zb78 q (M + 6) (by omega) _ _ h11
      try simp only [kf, simprocAttr] at h11
      replace h := br h; rcases h with ⟨h12, h⟩ | ⟨h12, h⟩
      ·cases h; subst hR; simp only [zb9j, simprocAttr, *]
      ·replace h := bn h; obtain ⟨h13, h⟩ := h
       replace h := bn h; obtain ⟨h14, h⟩ := h
       replace h := zcac M (by omega) j (by omega) _ _ _ _ _ _ _ _ _ _ _ _ _ _ _ h R hR
       simp only [zb9j, simprocAttr, *]
     ·replace h := br h; rcases h with ⟨h15, h⟩ | ⟨h15, h⟩
      ·replace h := ob h; obtain ⟨r7, h16, h⟩ := h
       replace h16 := zb78 q (M + 6) (by omega) _ _ h16
       try simp only [kf, simprocAttr] at h16
       replace h := br h; rcases h with ⟨h17, h⟩ | ⟨h17, h⟩
       ·cases h; subst hR; simp only [zb9j, simprocAttr, *]
       ·replace h := bn h; obtain ⟨h18, h⟩ := h
        replace h := bn h; obtain ⟨h19, h⟩ := h
        replace h := zcac M (by omega) j (by omega) _ _ _ _ _ _ _ _ _ _ _ _ _ _ _ h R hR
        simp only [zb9j, simprocAttr, *]
      ·replace h := br h; rcases h with ⟨h20, h⟩ | ⟨h20, h⟩
       ·replace h := ob h; obtain ⟨r8, h21, h⟩ := h
        replace h21 := zb78 q (M + 6) (by omega) _ _ h21
        try simp only [kf, simprocAttr] at h21
        replace h := br h; rcases h with ⟨h22, h⟩ | ⟨h22, h⟩
        ·cases h; subst hR; simp only [zb9j, simprocAttr, *]
        ·replace h := bn h; obtain ⟨h23, h⟩ := h
         replace h := bn h; obtain ⟨h24, h⟩ := h
         replace h := zcac M (by omega) j (by omega) _ _ _ _ _ _ _ _ _ _ _ _ _ _ _ h R hR
         simp only [zb9j, simprocAttr, *]
       ·replace h := br h; rcases h with ⟨h25, h⟩ | ⟨h25, h⟩
        ·replace h := ob h; obtain ⟨r9, h26, h⟩ := h
         replace h26 := zb8u q (M + 6) (by omega) _ _ h26
         try simp only [kf, simprocAttr] at h26
         replace h := br h; rcases h with ⟨h27, h⟩ | ⟨h27, h⟩
         ·cases h; subst hR; simp only [zb9j, simprocAttr, *]
         ·replace h := bn h; obtain ⟨h28, h⟩ := h
          replace h := bn h; obtain ⟨h29, h⟩ := h
          replace h := zcac M (by omega) j (by omega) _ _ _ _ _ _ _ _ _ _ _ _ _ _ _ h R hR
          simp only [zb9j, simprocAttr, *]
        ·replace h := br h; rcases h with ⟨h30, h⟩ | ⟨h30, h⟩
         ·replace h := ob h; obtain ⟨r10, h31, h⟩ := h
          replace h31 := zb8s q (M + 6) (by omega) _ _ h31
          try simp only [kf, simprocAttr] at h31
          replace h := br h; rcases h with ⟨h32, h⟩ | ⟨h32, h⟩
          ·cases h; subst hR; simp only [zb9j, simprocAttr, *]
          ·replace h := bn h; obtain ⟨h33, h⟩ := h
           replace h := bn h; obtain ⟨h34, h⟩ := h
           replace h := zcac M (by omega) j (by omega) _ _ _ _ _ _ _ _ _ _ _ _ _ _ _ h R hR
           simp only [zb9j, simprocAttr, *]
         ·cases h; subst hR; simp only [zb9j, simprocAttr, *]
    ·replace h := br h; rcases h with ⟨h35, h⟩ | ⟨h35, h⟩
     ·cases h; subst hR; simp only [zb9j, simprocAttr, *]
     ·replace h := br h; rcases h with ⟨h36, h⟩ | ⟨h36, h⟩
      ·cases h; subst hR; simp only [zb9j, simprocAttr, *]
      ·replace h := ob h; obtain ⟨r11, h37, h⟩ := h
       replace h37 := zb9h q (M + 7) (by omega) _ _ h37
       try simp only [kf, simprocAttr] at h37
       replace h := br h; rcases h with ⟨h38, h⟩ | ⟨h38, h⟩
       ·cases h; subst hR; simp only [zb9j, simprocAttr, *]
       ·replace h := bn h; obtain ⟨h39, h⟩ := h
        replace h := bn h; obtain ⟨h40, h⟩ := h
        replace h := zcac M (by omega) j (by omega) _ _ _ _ _ _ _ _ _ _ _ _ _ _ _ h R hR
        simp only [zb9j, simprocAttr, *]
 ·replace h := br h; rcases h with ⟨h41, h⟩ | ⟨h41, h⟩
  ·cases h; subst hR; simp only [zb9j, simprocAttr, *]
  ·replace h := ob h; obtain ⟨r12, h42, h⟩ := h
   replace h42 := zb6f q (M + 7) (by omega) _ _ h42
   try simp only [kf, simprocAttr] at h42
   replace h := bb h; rcases h with ⟨h43', h43, h⟩ | ⟨h43', h43, h⟩
   ·cases h; subst hR; simp only [zb9j, simprocAttr, *]
   ·cases h; subst hR; simp only [zb9j, simprocAttr, *]
theorem zb9l : ∀ q, zb9i q
 | 0 => by intro M hM j hj; intros; rename_i h _ _ _ _ _; cases h
 | q + 1 => by have i0 := zb9l q; exact zb9k q i0
theorem zb9m : ∀ (q N : Nat), 8 * q ≤ N → ∀ (a0 : Int) (a1 : (Sl Int)), ∀ (r : zjs × Int), zlw q a0 a1 = some r → (orc T N).deep F.zlw [(V.int .i64) a0, (Sl.enc (V.int .u8)) a1] = some [zjs.enc r.1, (V.int .i64) r.2] := by
 intro q N hM a0 a1 r h
 rcases q with _ | q
 ·cases h
 obtain ⟨M, rfl⟩ : ∃ M, N = M + 8 := ⟨N - 8, by omega⟩
 have zcac := (zb9l q)
 generalize hR : some [zjs.enc r.1, (V.int .i64) r.2] = R
 rw [zh4, zbrv, y4, zh2]
 rw [zlw] at h
 replace h := ob h; obtain ⟨r1, h1, h⟩ := h
 replace h1 := zb62 q (M + 7) (by omega) _ _ h1
 try simp only [kf, simprocAttr] at h1
 replace h := ob h; obtain ⟨r2, h2, h⟩ := h
 replace h2 := zb88 q (M + 7) (by omega) _ _ h2
 try simp only [kf, simprocAttr] at h2
 replace h := zcac M (by omega) (M + 7) (by omega) _ _ _ _ _ _ _ _ _ _ _ _ _ _ _ h R hR
 simp only [zb9j, simprocAttr, *]
def zb9n := And.intro @kk <| And.intro @ke <| And.intro @kn <| And.intro @zbyd <| And.intro @zbwn <| And.intro @zbyt <| And.intro @zb0b <| @zbyf
theorem zb9o : ∀ (q N : Nat), 8 * q ≤ N → ∀ (a0 : (Sl Int)), ∀ (r : zjs × Int), zlx q a0 = some r → (orc T N).deep F.zlx [(Sl.enc (V.int .u8)) a0] = some [zjs.enc r.1, (V.int .i64) r.2] := by
 intro q N hM a0 r h
 rcases q with _ | q
 ·cases h
 obtain ⟨M, rfl⟩ : ∃ M, N = M + 8 := ⟨N - 8, by omega⟩
 generalize hR : some [zjs.enc r.1, (V.int .i64) r.2] = R
 rw [zh4, zbq8, y4, zh2]
 rw [zlx] at h
 replace h := br h; rcases h with ⟨h1, h⟩ | ⟨h1, h⟩
 ·cases h; subst hR; simp only [zb9n, simprocAttr, *]
 ·replace h := ob h; obtain ⟨r1, h2, h⟩ := h
  replace h2 := zb78 q (M + 7) (by omega) _ _ h2
  try simp only [kf, simprocAttr] at h2
  replace h := br h; rcases h with ⟨h3, h⟩ | ⟨h3, h⟩
  ·cases h; subst hR; simp only [zb9n, simprocAttr, *]
  ·replace h := ob h; obtain ⟨r2, h4, h⟩ := h
   replace h4 := zb62 q (M + 7) (by omega) _ _ h4
   try simp only [kf, simprocAttr] at h4
   replace h := bb h; rcases h with ⟨h5', h5, h⟩ | ⟨h5', h5, h⟩
   ·cases h; subst hR; simp only [zb9n, simprocAttr, *]
   ·replace h := bn h; obtain ⟨h6, h⟩ := h
    replace h := bn h; obtain ⟨h7, h⟩ := h
    replace h := ob h; obtain ⟨r3, h8, h⟩ := h
    replace h8 := zb9m q (M + 7) (by omega) _ _ _ h8
    try simp only [kf, simprocAttr] at h8
    replace h := br h; rcases h with ⟨h9, h⟩ | ⟨h9, h⟩
    ·cases h; subst hR; simp only [zb9n, simprocAttr, *]
    ·cases h; subst hR; simp only [zb9n, simprocAttr, *]
end Go.Dvm.C
