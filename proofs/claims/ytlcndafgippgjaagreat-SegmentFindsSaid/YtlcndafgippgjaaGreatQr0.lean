/- The machine comes to these answers: part 1. -/
import Derived.Test.YtlcndafgippgjaaGreatQl0
set_option linter.all false
set_option maxRecDepth 100000
set_option maxHeartbeats 4000000
namespace Go.Dvm.C
open Go Go.Dvm Go.Dvm.I
def zb2j := And.intro @kk <| And.intro @ke <| And.intro @kn <| And.intro @zbs7 <| @zbs9
theorem zb2k : ∀ (q N : Nat), 8 * q ≤ N → ∀ (a0 : Int), ∀ (r : Bool), zju q a0 = some r → (orc T N).deep F.zju [(V.int .i64) a0] = some [V.bool r] := by
 intro q N hM a0 r h
 rcases q with _ | q
 ·cases h
 obtain ⟨M, rfl⟩ : ∃ M, N = M + 8 := ⟨N - 8, by omega⟩
 generalize hR : some [V.bool r] = R
 rw [zh3, zbof, y4, zh1]
 rw [zju] at h
 replace h := br h; rcases h with ⟨h1, h⟩ | ⟨h1, h⟩
 ·cases h; subst hR; simp only [zb2j, simprocAttr, *]
 ·cases h; subst hR; simp only [zb2j, simprocAttr, *]
def zb2l (q : Nat) : Prop := ∀ (M : Nat) (hM : 8 * q ≤ M) (j : Nat) (hj : q ≤ j) (w0 : Nat) (v1 : Int) (h0z : Bool) (h0l : List Int) (h0x : Bool) (r : (Ow Int)) (_ : zjv q v1 h0z h0l h0x = some r) (R : Option (List V)) (_ : some [(Ow.enc 1 (V.int .u8)) r] = R) (fr : Fr) (H : Hp) (_ : canon 1 [0, 1] fr H = ([(0, (.vw 0 w0 0 h0l.length 1)), (1, (.int .u64 v1))], [(.row w0 h0z 1 (List.map (V.int .u8) h0l) h0x)])), fin z3m (unw T (orc T (M + 7)) (M + 7) 1 [.blk 0, .code z3j] (iter 1 [0, 1] (exec T (orc T (M + 7)) (M + 7) 1 c_60_8) j fr H)) = R
def zb2m := And.intro @kk <| And.intro @ke <| And.intro @kn <| And.intro @zbum <| @zbuo
theorem zb2n (q : Nat) (zb7b : zb2l q) : zb2l (q + 1) := by
 intro M hM j hj w0 v1 h0z h0l h0x r h R hR fr H hc
 obtain ⟨j, rfl⟩ : ∃ i, j = i + 1 := ⟨j - 1, by omega⟩
 rw [zhu, hc]; clear hc
 rw [zjv] at h
 replace h := br h; rcases h with ⟨h1, h⟩ | ⟨h1, h⟩
 ·replace h := bn h; obtain ⟨h2, h⟩ := h
  replace h := zb7b M (by omega) j (by omega) (w0 + 1) _ _ _ _ _ h R hR
  simp only [zb2m, simprocAttr, *]
 ·replace h := bn h; obtain ⟨h3, h⟩ := h
  cases h; subst hR; simp only [zb2m, simprocAttr, *]
theorem zb2o : ∀ q, zb2l q
 | 0 => by intro M hM j hj; intros; rename_i h _ _ _ _ _; cases h
 | q + 1 => by have i0 := zb2o q; exact zb2n q i0
theorem zb2p : ∀ (q N : Nat), 8 * q ≤ N → ∀ (a0 : (Ow Int)) (a1 : Int), ∀ (r : (Ow Int)), zjw q a0 a1 = some r → (orc T N).deep F.zjw [(Ow.enc 1 (V.int .u8)) a0, (V.int .u64) a1] = some [(Ow.enc 1 (V.int .u8)) r] := by
 intro q N hM a0 a1 r h
 rcases q with _ | q
 ·cases h
 obtain ⟨M, rfl⟩ : ∃ M, N = M + 8 := ⟨N - 8, by omega⟩
 have zb7b := (zb2o q)
 generalize hR : some [(Ow.enc 1 (V.int .u8)) r] = R
 rw [zh3, zbow, y4, zh1]
 rw [zjw] at h
 replace h := zb7b M (by omega) (M + 7) (by omega) 0 _ _ _ _ _ h R hR
 simp only [zb2m, simprocAttr, *]
def zb2q := And.intro @kk <| And.intro @ke <| And.intro @kn <| And.intro @zbs1 <| And.intro @zbun <| @zbs3
theorem zb2r : ∀ (q N : Nat), 8 * q ≤ N → ∀ (a0 : (Ow Int)) (a1 : Int), ∀ (r : (Ow Int)), zjx q a0 a1 = some r → (orc T N).deep F.zjx [(Ow.enc 1 (V.int .u8)) a0, (V.int .i64) a1] = some [(Ow.enc 1 (V.int .u8)) r] := by
 intro q N hM a0 a1 r h
 rcases q with _ | q
 ·cases h
 obtain ⟨M, rfl⟩ : ∃ M, N = M + 8 := ⟨N - 8, by omega⟩
 generalize hR : some [(Ow.enc 1 (V.int .u8)) r] = R
 rw [zh3, zbod, y4, zh1]
 rw [zjx] at h
 replace h := br h; rcases h with ⟨h1, h⟩ | ⟨h1, h⟩
 ·cases h; subst hR; simp only [zb2q, simprocAttr, *]
 ·replace h := br h; rcases h with ⟨h2, h⟩ | ⟨h2, h⟩
  ·cases h; subst hR; simp only [zb2q, simprocAttr, *]
  ·replace h := ob h; obtain ⟨r1, h3, h⟩ := h
   replace h3 := zb2p q (M + 7) (by omega) _ _ _ h3
   try simp only [kf, simprocAttr] at h3
   cases h; subst hR; simp only [zb2q, simprocAttr, *]
def zb2s (q : Nat) : Prop := ∀ (M : Nat) (hM : 8 * q ≤ M) (j : Nat) (hj : q ≤ j) (v5 : Int) (h0_0 h1_0 : List Int) (r : (List Int)) (_ : zjy q v5 h0_0 h1_0 = some r) (R : Option (List V)) (_ : some [(arrEnc (V.int .u32)) r] = R) (fr : Fr) (H : Hp) (_ : canon 0 [0, 1, 5] fr H = ([(0, (.ptr 0 0)), (1, (.ptr 1 0)), (5, (.int .i64 v5))], [(.box (List.map (V.int .u32) h0_0)), (.box (List.map (V.int .u32) h1_0))])), fin zbiy (unw T (orc T (M + 7)) (M + 7) 0 [.blk 0, .code zbiu] (iter 0 [0, 1, 5] (exec T (orc T (M + 7)) (M + 7) 0 zbir) j fr H)) = R
def zb2t (q : Nat) : Prop := ∀ (M : Nat) (hM : 8 * q ≤ M) (j : Nat) (hj : q ≤ j) (j1 : Nat) (hj1 : q ≤ j1) (v2 v3 v5 v10 : Int) (h0_0 h1_0 : List Int) (r : (List Int)) (_ : zjz q v2 v3 v5 v10 h0_0 h1_0 = some r) (R : Option (List V)) (_ : some [(arrEnc (V.int .u32)) r] = R) (fr : Fr) (H : Hp) (_ : canon 0 [0, 1, 2, 3, 5, 10] fr H = ([(0, (.ptr 0 0)), (1, (.ptr 1 0)), (2, (.int .i64 v2)), (3, (.int .u32 v3)), (5, (.int .i64 v5)), (10, (.int .i64 v10))], [(.box (List.map (V.int .u32) h0_0)), (.box (List.map (V.int .u32) h1_0))])), fin zbiy (unw T (orc T (M + 7)) (M + 7) 0 [.blk 2, .code zbik, .blk 1, .code zbio, .rounds [0, 1, 5] zbir j1, .blk 0, .code zbiu] (iter 0 [0, 1, 2, 3, 5, 10] (exec T (orc T (M + 7)) (M + 7) 0 zbih) j fr H)) = R
def zb2u := And.intro @kk <| And.intro @ke <| And.intro @kn <| And.intro @zbya <| @zbyc
theorem zb2v (q : Nat) (zb7c : zb2t q) : zb2s (q + 1) := by
 intro M hM j hj v5 h0_0 h1_0 r h R hR fr H hc
 obtain ⟨j, rfl⟩ : ∃ i, j = i + 1 := ⟨j - 1, by omega⟩
 rw [zhu, hc]; clear hc
 rw [zjy] at h
 replace h := br h; rcases h with ⟨h1, h⟩ | ⟨h1, h⟩
 ·replace h := zb7c M (by omega) (M + 7) (by omega) j (by omega) _ _ _ _ _ _ _ h R hR
  simp (maxDischargeDepth := 12) only [zb2u, simprocAttr, arrEnc, *]
 ·replace h := bn h; obtain ⟨h2, h⟩ := h
  replace h := bc h; rcases h with ⟨h3, h⟩ | ⟨h3, h⟩
  ·replace h := bn h; obtain ⟨h4, h⟩ := h
   replace h := bn h; obtain ⟨h5, h⟩ := h
   cases h; subst hR; simp (maxDischargeDepth := 12) only [zb2u, simprocAttr, arrEnc, *]
  ·cases h
theorem zb2w (q : Nat) (zb7d : zb2s q) (zb7c : zb2t q) : zb2t (q + 1) := by
 intro M hM j hj j1 hj1 v2 v3 v5 v10 h0_0 h1_0 r h R hR fr H hc
 obtain ⟨j, rfl⟩ : ∃ i, j = i + 1 := ⟨j - 1, by omega⟩
 rw [zhu, hc]; clear hc
 rw [zjz] at h
 replace h := br h; rcases h with ⟨h1, h⟩ | ⟨h1, h⟩
 ·replace h := zb7c M (by omega) j (by omega) j1 (by omega) _ _ _ _ _ _ _ h R hR
  simp (maxDischargeDepth := 12) only [zb2u, simprocAttr, arrEnc, *]
 ·replace h := bn h; obtain ⟨h2, h⟩ := h
  replace h := bn h; obtain ⟨h3, h⟩ := h
  replace h := bn h; obtain ⟨h4, h⟩ := h
  replace h := zb7d M (by omega) j1 (by omega) _ _ _ _ h R hR
  simp (maxDischargeDepth := 12) only [zb2u, simprocAttr, arrEnc, *]
theorem zb2x : ∀ q, zb2s q ∧ zb2t q
 | 0 => by refine ⟨?_, ?_⟩ <;> (intro M hM j hj; intros; rename_i h _ _ _ _ _; cases h)
 | q + 1 => by have ⟨i0, i1⟩ := zb2x q; exact ⟨zb2v q i1, zb2w q i0 i1⟩
theorem zb2y : ∀ (q N : Nat), 8 * q ≤ N → ∀ (r : (List Int)), zj0 q = some r → (orc T N).deep F.zj0 [] = some [(arrEnc (V.int .u32)) r] := by
 intro q N hM r h
 rcases q with _ | q
 ·cases h
 obtain ⟨M, rfl⟩ : ∃ M, N = M + 8 := ⟨N - 8, by omega⟩
 have zb7d := (zb2x q).1
 generalize hR : some [(arrEnc (V.int .u32)) r] = R
 rw [zh3, zbp4, y4, zh1]
 rw [zj0] at h
 replace h := zb7d M (by omega) (M + 7) (by omega) _ _ _ _ h R hR
 simp (maxDischargeDepth := 12) only [zb2u, simprocAttr, arrEnc, *]
def zb2z (q : Nat) : Prop := ∀ (M : Nat) (hM : 8 * q ≤ M) (j : Nat) (hj : q ≤ j) (v6 : Int) (v12z : Bool) (v12l : List Int) (v13 v14 : Int) (h0_0 : List Int) (r : Int) (_ : zj1 q v6 v12z v12l v13 v14 h0_0 = some r) (R : Option (List V)) (_ : some [(V.int .u32) r] = R) (fr : Fr) (H : Hp) (_ : canon 0 [5, 6, 12, 13, 14] fr H = ([(5, (.ptr 0 0)), (6, (.int .u32 v6)), (12, (.sl v12z (List.map (V.int .u8) v12l))), (13, (.int .i64 v13)), (14, (.int .i64 v14))], [(.box (List.map (V.int .u32) h0_0))])), fin zbda (unw T (orc T (M + 7)) (M + 7) 0 [.blk 0, .code zbc5] (iter 0 [5, 6, 12, 13, 14] (exec T (orc T (M + 7)) (M + 7) 0 zbc2) j fr H)) = R
def zb20 := And.intro @kk <| And.intro @ke <| And.intro @kn <| And.intro @zbws <| And.intro @zbyb <| @zbwu
theorem zb21 (q : Nat) (zb7e : zb2z q) : zb2z (q + 1) := by
 intro M hM j hj v6 v12z v12l v13 v14 h0_0 r h R hR fr H hc
 obtain ⟨j, rfl⟩ : ∃ i, j = i + 1 := ⟨j - 1, by omega⟩
 rw [zhu, hc]; clear hc
 rw [zj1] at h
 replace h := br h; rcases h with ⟨h1, h⟩ | ⟨h1, h⟩
 ·replace h := bn h; obtain ⟨h2, h⟩ := h
  replace h := ob h; obtain ⟨e2, h3, h⟩ := h
  replace h := bn h; obtain ⟨h4, h⟩ := h
  replace h := bn h; obtain ⟨h5, h⟩ := h
  replace h := ob h; obtain ⟨e3, h6, h⟩ := h
  replace h := zb7e M (by omega) j (by omega) _ _ _ _ _ _ _ h R hR
  simp only [zb20, simprocAttr, arrEnc, *]
 ·cases h; subst hR; simp only [zb20, simprocAttr, arrEnc, *]
theorem zb22 : ∀ q, zb2z q
 | 0 => by intro M hM j hj; intros; rename_i h _ _ _ _ _; cases h
 | q + 1 => by have i0 := zb22 q; exact zb21 q i0
theorem zb23 : ∀ (q N : Nat), 8 * q ≤ N → ∀ (a0 : Int) (a1 : (Sl Int)), ∀ (r : Int), zj2 q a0 a1 = some r → (orc T N).deep F.zj2 [(V.int .u32) a0, (Sl.enc (V.int .u8)) a1] = some [(V.int .u32) r] := by
 intro q N hM a0 a1 r h
 rcases q with _ | q
 ·cases h
 obtain ⟨M, rfl⟩ : ∃ M, N = M + 8 := ⟨N - 8, by omega⟩
 have zb7e := (zb22 q)
 generalize hR : some [(V.int .u32) r] = R
 rw [zh3, zbpm, y4, zh1]
 rw [zj2] at h
 replace h := ob h; obtain ⟨r1, h1, h⟩ := h
 replace h1 := zb2y q (M + 7) (by omega)  _ h1
 try simp only [kf, simprocAttr] at h1
 replace h := bc h; rcases h with ⟨h2, h⟩ | ⟨h2, h⟩
 ·replace h := zb7e M (by omega) (M + 7) (by omega) _ _ _ _ _ _ _ h R hR
  simp only [zb20, simprocAttr, arrEnc, *]
 ·cases h
def zb24 := And.intro @kk <| And.intro @ke <| And.intro @kn <| And.intro @zbwv <| And.intro @zbwt <| @zbwx
theorem zb25 : ∀ (q N : Nat), 8 * q ≤ N → ∀ (a0 : (Sl Int)), ∀ (r : Int), zj3 q a0 = some r → (orc T N).deep F.zj3 [(Sl.enc (V.int .u8)) a0] = some [(V.int .u32) r] := by
 intro q N hM a0 r h
 rcases q with _ | q
 ·cases h
 obtain ⟨M, rfl⟩ : ∃ M, N = M + 8 := ⟨N - 8, by omega⟩
 generalize hR : some [(V.int .u32) r] = R
 rw [zh3, zbpn, y4, zh1]
 rw [zj3] at h
 replace h := ob h; obtain ⟨r1, h1, h⟩ := h
 replace h1 := zb23 q (M + 7) (by omega) _ _ _ h1
 try simp only [kf, simprocAttr] at h1
 cases h; subst hR; simp only [zb24, simprocAttr, *]
def zb26 (q : Nat) : Prop := ∀ (M : Nat) (hM : 8 * q ≤ M) (j : Nat) (hj : q ≤ j) (v0 v7 v8 : Int) (h0z : Bool) (h0l : List Int) (r : (Ow Int)) (_ : zj4 q v0 v7 v8 h0z h0l = some r) (R : Option (List V)) (_ : some [(Ow.enc 1 (V.int .u8)) r] = R) (fr : Fr) (H : Hp) (_ : canon 0 [0, 5, 7, 8] fr H = ([(0, (.int .u64 v0)), (5, (.vw 0 0 0 h0l.length 1)), (7, (.int .i64 v7)), (8, (.int .i64 v8))], [(.row 0 h0z 1 (List.map (V.int .u8) h0l) true)])), fin zbh1 (unw T (orc T (M + 7)) (M + 7) 0 [.blk 0, .code zbhx] (iter 0 [0, 5, 7, 8] (exec T (orc T (M + 7)) (M + 7) 0 zbhu) j fr H)) = R
def zb27 := And.intro @kk <| And.intro @ke <| And.intro @kn <| And.intro @zbx7 <| @zbx9
theorem zb28 (q : Nat) (zb7f : zb26 q) : zb26 (q + 1) := by
 intro M hM j hj v0 v7 v8 h0z h0l r h R hR fr H hc
 obtain ⟨j, rfl⟩ : ∃ i, j = i + 1 := ⟨j - 1, by omega⟩
 rw [zhu, hc]; clear hc
 rw [zj4] at h
 replace h := br h; rcases h with ⟨h1, h⟩ | ⟨h1, h⟩
 ·replace h := bm h; obtain ⟨h2, h⟩ := h
  replace h := bn h; obtain ⟨h3, h⟩ := h
  replace h := zb7f M (by omega) j (by omega) _ _ _ _ _ _ h R hR
  simp only [zb27, simprocAttr, *]
 ·cases h; subst hR; simp only [zb27, simprocAttr, *]
theorem zb29 : ∀ q, zb26 q
 | 0 => by intro M hM j hj; intros; rename_i h _ _ _ _ _; cases h
 | q + 1 => by have i0 := zb29 q; exact zb28 q i0
theorem zb3a : ∀ (q N : Nat), 8 * q ≤ N → ∀ (a0 a1 : Int), ∀ (r : (Ow Int)), zj5 q a0 a1 = some r → (orc T N).deep F.zj5 [(V.int .u64) a0, (V.int .i64) a1] = some [(Ow.enc 1 (V.int .u8)) r] := by
 intro q N hM a0 a1 r h
 rcases q with _ | q
 ·cases h
 obtain ⟨M, rfl⟩ : ∃ M, N = M + 8 := ⟨N - 8, by omega⟩
 have zb7f := (zb29 q)
 generalize hR : some [(Ow.enc 1 (V.int .u8)) r] = R
 rw [zh3, zbp3, y4, zh1]
 rw [zj5] at h
 replace h := zb7f M (by omega) (M + 7) (by omega) _ _ _ _ _ _ h R hR
 simp only [zb27, simprocAttr, *]
def zb3b := And.intro @kk <| And.intro @ke <| And.intro @kn <| And.intro @zbwp <| And.intro @zbx8 <| @zbwr
theorem zb3c : ∀ (q N : Nat), 8 * q ≤ N → ∀ (a0 : Int), ∀ (r : (Ow Int)), zj6 q a0 = some r → (orc T N).deep F.zj6 [(V.int .u32) a0] = some [(Ow.enc 1 (V.int .u8)) r] := by
 intro q N hM a0 r h
 rcases q with _ | q
 ·cases h
 obtain ⟨M, rfl⟩ : ∃ M, N = M + 8 := ⟨N - 8, by omega⟩
 generalize hR : some [(Ow.enc 1 (V.int .u8)) r] = R
 rw [zh3, zbpl, y4, zh1]
 rw [zj6] at h
 replace h := ob h; obtain ⟨r1, h1, h⟩ := h
 replace h1 := zb3a q (M + 7) (by omega) _ _ _ h1
 try simp only [kf, simprocAttr] at h1
 cases h; subst hR; simp only [zb3b, simprocAttr, *]
def zb3d := And.intro @kk <| And.intro @ke <| And.intro @kn <| And.intro @zbu4 <| And.intro @zbwq <| And.intro @zbwt <| And.intro @zbww <| @zbu6
theorem zb3e : ∀ (q N : Nat), 8 * q ≤ N → ∀ (a0 a1 : (Sl Int)), ∀ (r : (Ow Int)), zj7 q a0 a1 = some r → (orc T N).deep F.zj7 [(Sl.enc (V.int .u8)) a0, (Sl.enc (V.int .u8)) a1] = some [(Ow.enc 1 (V.int .u8)) r] := by
 intro q N hM a0 a1 r h
 rcases q with _ | q
 ·cases h
 obtain ⟨M, rfl⟩ : ∃ M, N = M + 8 := ⟨N - 8, by omega⟩
 generalize hR : some [(Ow.enc 1 (V.int .u8)) r] = R
 rw [zh3, zbo2, y4, zh1]
 rw [zj7] at h
 replace h := ob h; obtain ⟨r1, h1, h⟩ := h
 replace h1 := zb25 q (M + 7) (by omega) _ _ h1
 try simp only [kf, simprocAttr] at h1
 replace h := ob h; obtain ⟨r2, h2, h⟩ := h
 replace h2 := zb23 q (M + 7) (by omega) _ _ _ h2
 try simp only [kf, simprocAttr] at h2
 replace h := ob h; obtain ⟨r3, h3, h⟩ := h
 replace h3 := zb3c q (M + 7) (by omega) _ _ h3
 try simp only [kf, simprocAttr] at h3
 cases h; subst hR; simp only [zb3d, simprocAttr, *]
def zb3f (q : Nat) : Prop := ∀ (M : Nat) (hM : 8 * q ≤ M) (j : Nat) (hj : q ≤ j) (v0z : Bool) (v0l : List (Sl Int)) (v3 : Int) (v9z : Bool) (v9l : List (Sl Int)) (v10 v11 : Int) (r : (Ow Int)) (_ : zkb q v0z v0l v3 v9z v9l v10 v11 = some r) (R : Option (List V)) (_ : some [(Ow.enc 1 (V.int .u8)) r] = R) (fr : Fr) (H : Hp) (_ : canon 0 [0, 3, 9, 10, 11] fr H = ([(0, (.sl v0z (List.map (Sl.enc (V.int .u8)) v0l))), (3, (.int .i64 v3)), (9, (.sl v9z (List.map (Sl.enc (V.int .u8)) v9l))), (10, (.int .i64 v10)), (11, (.int .i64 v11))], [])), fin ztc (unw T (orc T (M + 7)) (M + 7) 0 [.blk 0, .code zs8] (iter 0 [0, 3, 9, 10, 11] (exec T (orc T (M + 7)) (M + 7) 0 zsr) j fr H)) = R
def zb3g (q : Nat) : Prop := ∀ (M : Nat) (hM : 8 * q ≤ M) (j : Nat) (hj : q ≤ j) (v6len : Nat) (v25z : Bool) (v25l : List (Sl Int)) (v26 v27 : Int) (h0z : Bool) (h0l : List Int) (r : (Ow Int)) (_ : zj8 q v6len v25z v25l v26 v27 h0z h0l = some r) (R : Option (List V)) (_ : some [(Ow.enc 1 (V.int .u8)) r] = R) (fr : Fr) (H : Hp) (_ : canon 0 [6, 25, 26, 27] fr H = ([(6, (.vw 0 0 0 v6len 0)), (25, (.sl v25z (List.map (Sl.enc (V.int .u8)) v25l))), (26, (.int .i64 v26)), (27, (.int .i64 v27))], [(.row 0 h0z 1 (List.map (V.int .u8) h0l) true)])), fin ztc (unw T (orc T (M + 7)) (M + 7) 0 [.blk 2, .code zs6] (iter 0 [6, 25, 26, 27] (exec T (orc T (M + 7)) (M + 7) 0 zs3) j fr H)) = R
def zb3h (q : Nat) : Prop := ∀ (M : Nat) (hM : 8 * q ≤ M) (j : Nat) (hj : q ≤ j) (v25z : Bool) (v25l : List (Sl Int)) (v26 : Int) (r : (Ow Int)) (_ : zka q v25z v25l v26 = some r) (R : Option (List V)) (_ : some [(Ow.enc 1 (V.int .u8)) r] = R) (fr : Fr) (H : Hp) (_ : canon 0 [6, 25, 26, 27] fr H = ([(6, (.sl true [])), (25, (.sl v25z (List.map (Sl.enc (V.int .u8)) v25l))), (26, (.int .i64 v26)), (27, (.int .i64 0))], [])), fin ztc (unw T (orc T (M + 7)) (M + 7) 0 [.blk 2, .code zs6] (iter 0 [6, 25, 26, 27] (exec T (orc T (M + 7)) (M + 7) 0 zs3) j fr H)) = R
def zb3i (q : Nat) : Prop := ∀ (M : Nat) (hM : 8 * q ≤ M) (j : Nat) (hj : q ≤ j) (v25z : Bool) (v25l : List (Sl Int)) (v26 v27 : Int) (h0z : Bool) (h0l : List Int) (r : (Ow Int)) (_ : zj9 q v25z v25l v26 v27 h0z h0l = some r) (R : Option (List V)) (_ : some [(Ow.enc 1 (V.int .u8)) r] = R) (fr : Fr) (H : Hp) (_ : canon 0 [6, 25, 26, 27] fr H = ([(6, (.vw 0 0 0 h0l.length 1)), (25, (.sl v25z (List.map (Sl.enc (V.int .u8)) v25l))), (26, (.int .i64 v26)), (27, (.int .i64 v27))], [(.row 0 h0z 1 (List.map (V.int .u8) h0l) true)])), fin ztc (unw T (orc T (M + 7)) (M + 7) 0 [.blk 2, .code zs6] (iter 0 [6, 25, 26, 27] (exec T (orc T (M + 7)) (M + 7) 0 zs3) j fr H)) = R
def zb3j := And.intro @kk <| And.intro @ke <| And.intro @kn <| And.intro @zbry <| And.intro @zbtg <| And.intro @zbth <| And.intro @zbti <| @zbr0
theorem zb3k (q : Nat) (zb7g : zb3f q) (zb7h : zb3g q) (zb7i : zb3h q) : zb3f (q + 1) := by
 intro M hM j hj v0z v0l v3 v9z v9l v10 v11 r h R hR fr H hc
 obtain ⟨j, rfl⟩ : ∃ i, j = i + 1 := ⟨j - 1, by omega⟩
 rw [zhu, hc]; clear hc
 rw [zkb] at h
 replace h := br h; rcases h with ⟨h1, h⟩ | ⟨h1, h⟩
 ·replace h := bn h; obtain ⟨h2, h⟩ := h
  replace h := ob h; obtain ⟨e1, h3, h⟩ := h
  replace h := bm h; obtain ⟨h4, h⟩ := h
  replace h := zb7g M (by omega) j (by omega) _ _ _ _ _ _ _ _ h R hR
  simp only [zb3j, simprocAttr, *]
 ·replace h := bm h; obtain ⟨h5, h⟩ := h
  replace h := br h; rcases h with ⟨h6, h⟩ | ⟨h6, h⟩
  ·replace h := bn h; obtain ⟨h7, h⟩ := h
   replace h := bn h; obtain ⟨h8, h⟩ := h
   replace h := bm h; obtain ⟨h9, h⟩ := h
   replace h := zb7h M (by omega) (M + 7) (by omega) _ _ _ _ _ _ _ _ h R hR
   simp only [zb3j, simprocAttr, *]
  ·replace h := zb7i M (by omega) (M + 7) (by omega) _ _ _ _ h R hR
   simp only [zb3j, simprocAttr, *]
theorem zb3l (q : Nat) (zb7h : zb3g q) : zb3g (q + 1) := by
 intro M hM j hj v6len v25z v25l v26 v27 h0z h0l r h R hR fr H hc
 obtain ⟨j, rfl⟩ : ∃ i, j = i + 1 := ⟨j - 1, by omega⟩
 rw [zhu, hc]; clear hc
 rw [zj8] at h
 replace h := br h; rcases h with ⟨h1, h⟩ | ⟨h1, h⟩
 ·replace h := bn h; obtain ⟨h2, h⟩ := h
  replace h := ob h; obtain ⟨e2, h3, h⟩ := h
  replace h := bn h; obtain ⟨h4, h⟩ := h
  replace h := zb7h M (by omega) j (by omega) _ _ _ _ _ _ _ _ h R hR
  simp only [zb3j, simprocAttr, *]
 ·cases h; subst hR; simp only [zb3j, simprocAttr, *]
theorem zb3m (q : Nat) (zb7j : zb3i q) : zb3h (q + 1) := by
 intro M hM j hj v25z v25l v26 r h R hR fr H hc
 obtain ⟨j, rfl⟩ : ∃ i, j = i + 1 := ⟨j - 1, by omega⟩
 rw [zhu, hc]; clear hc
 rw [zka] at h
 replace h := br h; rcases h with ⟨h1, h⟩ | ⟨h1, h⟩
 ·replace h := ob h; obtain ⟨e3, h2, h⟩ := h
  replace h := bn h; obtain ⟨h3, h⟩ := h
  replace h := zb7j M (by omega) j (by omega) _ _ _ _ _ _ _ h R hR
  simp only [zb3j, simprocAttr, *]
 ·cases h; subst hR; simp only [zb3j, simprocAttr, *]
theorem zb3n (q : Nat) (zb7j : zb3i q) : zb3i (q + 1) := by
 intro M hM j hj v25z v25l v26 v27 h0z h0l r h R hR fr H hc
 obtain ⟨j, rfl⟩ : ∃ i, j = i + 1 := ⟨j - 1, by omega⟩
 rw [zhu, hc]; clear hc
 rw [zj9] at h
 replace h := br h; rcases h with ⟨h1, h⟩ | ⟨h1, h⟩
 ·replace h := bn h; obtain ⟨h2, h⟩ := h
  replace h := ob h; obtain ⟨e4, h3, h⟩ := h
  replace h := bn h; obtain ⟨h4, h⟩ := h
  replace h := zb7j M (by omega) j (by omega) _ _ _ _ _ _ _ h R hR
  simp only [zb3j, simprocAttr, *]
 ·cases h; subst hR; simp only [zb3j, simprocAttr, *]
theorem zb3o : ∀ q, zb3f q ∧ zb3g q ∧ zb3h q ∧ zb3i q
 | 0 => by refine ⟨?_, ?_, ?_, ?_⟩ <;> (intro M hM j hj; intros; rename_i h _ _ _ _ _; cases h)
 | q + 1 => by have ⟨i0, i1, i2, i3⟩ := zb3o q; exact ⟨zb3k q i0 i1 i2, zb3l q i1, zb3m q i3, zb3n q i3⟩
theorem zb3p : ∀ (q N : Nat), 8 * q ≤ N → ∀ (a0 : (Sl (Sl Int))), ∀ (r : (Ow Int)), zkc q a0 = some r → (orc T N).deep F.zkc [(Sl.enc (Sl.enc (V.int .u8))) a0] = some [(Ow.enc 1 (V.int .u8)) r] := by
 intro q N hM a0 r h
 rcases q with _ | q
 ·cases h
 obtain ⟨M, rfl⟩ : ∃ M, N = M + 8 := ⟨N - 8, by omega⟩
 have zb7g := (zb3o q).1
 generalize hR : some [(Ow.enc 1 (V.int .u8)) r] = R
 rw [zh3, zbn0, y4, zh1]
 rw [zkc] at h
 replace h := zb7g M (by omega) (M + 7) (by omega) _ _ _ _ _ _ _ _ h R hR
 simp only [zb3j, simprocAttr, *]
def zb3q := And.intro @kk <| And.intro @ke <| And.intro @kn <| And.intro @zbtj <| And.intro @zbrz <| And.intro @zbs2 <| And.intro @zbu5 <| @zbtl
theorem zb3r : ∀ (q N : Nat), 8 * q ≤ N → ∀ (a0 : (Sl Int)), ∀ (r : (Ow Int) × Int), zkd q a0 = some r → (orc T N).deep F.zkd [(Sl.enc (V.int .u8)) a0] = some [(Ow.enc 1 (V.int .u8)) r.1, (V.int .i64) r.2] := by
 intro q N hM a0 r h
 rcases q with _ | q
 ·cases h
 obtain ⟨M, rfl⟩ : ∃ M, N = M + 8 := ⟨N - 8, by omega⟩
 generalize hR : some [(Ow.enc 1 (V.int .u8)) r.1, (V.int .i64) r.2] = R
 rw [zh3, zboj, y4, zh1]
 rw [zkd] at h
 replace h := br h; rcases h with ⟨h1, h⟩ | ⟨h1, h⟩
 ·cases h; subst hR; simp only [zb3q, simprocAttr, *]
 ·replace h := ob h; obtain ⟨r1, h2, h⟩ := h
  replace h2 := zb2r q (M + 7) (by omega) _ _ _ h2
  try simp only [kf, simprocAttr] at h2
  replace h := ob h; obtain ⟨r2, h3, h⟩ := h
  replace h3 := zb3e q (M + 7) (by omega) _ _ _ h3
  try simp only [kf, simprocAttr] at h3
  replace h := ob h; obtain ⟨r3, h4, h⟩ := h
  replace h4 := zb3p q (M + 7) (by omega) _ _ h4
  try simp only [kf, simprocAttr] at h4
  cases h; subst hR; simp only [zb3q, simprocAttr, *]
def zb3s := And.intro @kk <| And.intro @ke <| And.intro @kn <| And.intro @zbsd <| And.intro @zbtk <| @zbsf
theorem zb3t : ∀ (q N : Nat), 8 * q ≤ N → ∀ (a0 : (Sl Int)), ∀ (r : (Ow Int)), zke q a0 = some r → (orc T N).deep F.zke [(Sl.enc (V.int .u8)) a0] = some [(Ow.enc 1 (V.int .u8)) r] := by
 intro q N hM a0 r h
 rcases q with _ | q
 ·cases h
 obtain ⟨M, rfl⟩ : ∃ M, N = M + 8 := ⟨N - 8, by omega⟩
 generalize hR : some [(Ow.enc 1 (V.int .u8)) r] = R
 rw [zh3, zbn5, y4, zh1]
 rw [zke] at h
 replace h := ob h; obtain ⟨r1, h1, h⟩ := h
 replace h1 := zb3r q (M + 7) (by omega) _ _ h1
 try simp only [kf, simprocAttr] at h1
 cases h; subst hR; simp only [zb3s, simprocAttr, *]
def zb3u := And.intro @kk <| And.intro @ke <| And.intro @kn <| And.intro @zbrp <| And.intro @zbse <| And.intro @zbs2 <| And.intro @zbs8 <| @zbrr
theorem zb3v : ∀ (q N : Nat), 8 * q ≤ N → ∀ (a0 a1 a2 : Int), ∀ (r : (Ow Int) × Int), zkf q a0 a1 a2 = some r → (orc T N).deep F.zkf [(V.int .i64) a0, (V.int .i64) a1, (V.int .i64) a2] = some [(Ow.enc 1 (V.int .u8)) r.1, (V.int .i64) r.2] := by
 intro q N hM a0 a1 a2 r h
 rcases q with _ | q
 ·cases h
 obtain ⟨M, rfl⟩ : ∃ M, N = M + 8 := ⟨N - 8, by omega⟩
 generalize hR : some [(Ow.enc 1 (V.int .u8)) r.1, (V.int .i64) r.2] = R
 rw [zh3, zbnx, y4, zh1]
 rw [zkf] at h
 replace h := ob h; obtain ⟨r1, h1, h⟩ := h
 replace h1 := zb2k q (M + 7) (by omega) _ _ h1
 replace h := bb h; rcases h with ⟨h2', h2, h⟩ | ⟨h2', h2, h⟩
 ·replace h := br h; rcases h with ⟨h3, h⟩ | ⟨h3, h⟩
  ·cases h; subst hR; simp only [zb3u, simprocAttr, *]
  ·replace h := br h; rcases h with ⟨h4, h⟩ | ⟨h4, h⟩
   ·cases h; subst hR; simp only [zb3u, simprocAttr, *]
   ·replace h := br h; rcases h with ⟨h5, h⟩ | ⟨h5, h⟩
    ·cases h; subst hR; simp only [zb3u, simprocAttr, *]
    ·replace h := br h; rcases h with ⟨h6, h⟩ | ⟨h6, h⟩
     ·cases h; subst hR; simp only [zb3u, simprocAttr, *]
     ·replace h := ob h; obtain ⟨r2, h7, h⟩ := h
      replace h7 := zb2r q (M + 7) (by omega) _ _ _ h7
      try simp only [kf, simprocAttr] at h7
      replace h := ob h; obtain ⟨r3, h8, h⟩ := h
      replace h8 := zb2r q (M + 7) (by omega) _ _ _ h8
      try simp only [kf, simprocAttr] at h8
      replace h := ob h; obtain ⟨r4, h9, h⟩ := h
      replace h9 := zb2r q (M + 7) (by omega) _ _ _ h9
      try simp only [kf, simprocAttr] at h9
      replace h := ob h; obtain ⟨r5, h10, h⟩ := h
      replace h10 := zb3t q (M + 7) (by omega) _ _ h10
      try simp only [kf, simprocAttr] at h10
      cases h; subst hR; simp only [zb3u, simprocAttr, *]
 ·cases h; subst hR; simp only [zb3u, simprocAttr, *]
def zb3w := And.intro @kk <| And.intro @ke <| And.intro @kn <| And.intro @zbv7 <| @zbv9
theorem zb3x : ∀ (q N : Nat), 8 * q ≤ N → ∀ (a0 r : Int), zkg q a0 = some r → (orc T N).deep F.zkg [(V.int .i64) a0] = some [(V.int .i64) r] := by
 intro q N hM a0 r h
 rcases q with _ | q
 ·cases h
 obtain ⟨M, rfl⟩ : ∃ M, N = M + 8 := ⟨N - 8, by omega⟩
 generalize hR : some [(V.int .i64) r] = R
 rw [zh3, zbpf, y4, zh1]
 rw [zkg] at h
 cases h; subst hR; simp only [zb3w, simprocAttr, *]
def zb3y := And.intro @kk <| And.intro @ke <| And.intro @kn <| And.intro @zbuv <| And.intro @zbv8 <| @zbux
theorem zb3z : ∀ (q N : Nat), 8 * q ≤ N → ∀ (a0 : zjr), ∀ (r : Bool), zkh q a0 = some r → (orc T N).deep F.zkh [zjr.enc a0] = some [V.bool r] := by
 intro q N hM a0 r h
 rcases q with _ | q
 ·cases h
 obtain ⟨M, rfl⟩ : ∃ M, N = M + 8 := ⟨N - 8, by omega⟩
 generalize hR : some [V.bool r] = R
 rw [zh3, zboz, y4, zh1]
 rw [zkh] at h
 replace h := br h; rcases h with ⟨h1, h⟩ | ⟨h1, h⟩
 ·replace h := br h; rcases h with ⟨h2, h⟩ | ⟨h2, h⟩
  ·replace h := ob h; obtain ⟨r1, h3, h⟩ := h
   replace h3 := zb3x q (M + 7) (by omega) _ _ h3
   replace h := br h; rcases h with ⟨h4, h⟩ | ⟨h4, h⟩
   ·replace h := ob h; obtain ⟨r2, h5, h⟩ := h
    replace h5 := zb3x q (M + 7) (by omega) _ _ h5
    cases h; subst hR; simp only [zb3y, simprocAttr, *]
   ·cases h; subst hR; simp only [zb3y, simprocAttr, *]
  ·cases h; subst hR; simp only [zb3y, simprocAttr, *]
 ·cases h; subst hR; simp only [zb3y, simprocAttr, *]
def zb30 := And.intro @kk <| And.intro @ke <| And.intro @kn <| And.intro @zbta <| And.intro @zbuw <| @zbtc
theorem zb31 : ∀ (q N : Nat), 8 * q ≤ N → ∀ (a0 : zjs), ∀ (r : Bool), zki q a0 = some r → (orc T N).deep F.zki [zjs.enc a0] = some [V.bool r] := by
 intro q N hM a0 r h
 rcases q with _ | q
 ·cases h
 obtain ⟨M, rfl⟩ : ∃ M, N = M + 8 := ⟨N - 8, by omega⟩
 generalize hR : some [V.bool r] = R
 rw [zh3, zbog, y4, zh1]
 rw [zki] at h
 replace h := br h; rcases h with ⟨h1, h⟩ | ⟨h1, h⟩
 ·replace h := br h; rcases h with ⟨h2, h⟩ | ⟨h2, h⟩
  ·replace h := br h; rcases h with ⟨h3, h⟩ | ⟨h3, h⟩
   ·replace h := br h; rcases h with ⟨h4, h⟩ | ⟨h4, h⟩
    ·replace h := br h; rcases h with ⟨h5, h⟩ | ⟨h5, h⟩
     ·replace h := br h; rcases h with ⟨h6, h⟩ | ⟨h6, h⟩
      ·replace h := ob h; obtain ⟨r1, h7, h⟩ := h
       replace h7 := zb3z q (M + 7) (by omega) _ _ h7
       try simp only [kf, simprocAttr] at h7
       replace h := bb h; rcases h with ⟨h8', h8, h⟩ | ⟨h8', h8, h⟩
       ·replace h := br h; rcases h with ⟨h9, h⟩ | ⟨h9, h⟩
        ·cases h; subst hR; simp only [zb30, simprocAttr, *]
        ·cases h; subst hR; simp only [zb30, simprocAttr, *]
       ·cases h; subst hR; simp only [zb30, simprocAttr, *]
      ·cases h; subst hR; simp only [zb30, simprocAttr, *]
     ·cases h; subst hR; simp only [zb30, simprocAttr, *]
    ·cases h; subst hR; simp only [zb30, simprocAttr, *]
   ·cases h; subst hR; simp only [zb30, simprocAttr, *]
  ·cases h; subst hR; simp only [zb30, simprocAttr, *]
 ·cases h; subst hR; simp only [zb30, simprocAttr, *]
def zb32 (q : Nat) : Prop := ∀ (M : Nat) (hM : 8 * q ≤ M) (j : Nat) (hj : q ≤ j) (v0z : Bool) (v0l : List zjs) (v1 : Int) (v7z : Bool) (v7l : List zjs) (v8 v9 : Int) (r : Bool) (_ : zkj q v0z v0l v1 v7z v7l v8 v9 = some r) (R : Option (List V)) (_ : some [V.bool r] = R) (fr : Fr) (H : Hp) (_ : canon 0 [0, 1, 7, 8, 9] fr H = ([(0, (.sl v0z (List.map zjs.enc v0l))), (1, (.int .i64 v1)), (7, (.sl v7z (List.map zjs.enc v7l))), (8, (.int .i64 v8)), (9, (.int .i64 v9))], [])), fin zsd (unw T (orc T (M + 7)) (M + 7) 0 [.blk 0, .code zsa] (iter 0 [0, 1, 7, 8, 9] (exec T (orc T (M + 7)) (M + 7) 0 zr7) j fr H)) = R
def zb33 := And.intro @kk <| And.intro @ke <| And.intro @kn <| And.intro @zbrs <| And.intro @zbtb <| @zbru
theorem zb34 (q : Nat) (zb7k : zb32 q) : zb32 (q + 1) := by
 intro M hM j hj v0z v0l v1 v7z v7l v8 v9 r h R hR fr H hc
 obtain ⟨j, rfl⟩ : ∃ i, j = i + 1 := ⟨j - 1, by omega⟩
 rw [zhu, hc]; clear hc
 rw [zkj] at h
 replace h := br h; rcases h with ⟨h1, h⟩ | ⟨h1, h⟩
 ·replace h := bn h; obtain ⟨h2, h⟩ := h
  replace h := ob h; obtain ⟨e1, h3, h⟩ := h
  replace h := ob h; obtain ⟨r2, h4, h⟩ := h
  replace h4 := zb31 q (M + 7) (by omega) _ _ h4
  try simp only [kf, simprocAttr] at h4
  replace h := bb h; rcases h with ⟨h5', h5, h⟩ | ⟨h5', h5, h⟩
  ·replace h := br h; rcases h with ⟨h6, h⟩ | ⟨h6, h⟩
   ·replace h := zb7k M (by omega) j (by omega) _ _ _ _ _ _ _ _ h R hR
    simp only [zb33, simprocAttr, *]
   ·cases h; subst hR; simp only [zb33, simprocAttr, *]
  ·cases h; subst hR; simp only [zb33, simprocAttr, *]
 ·cases h; subst hR; simp only [zb33, simprocAttr, *]
theorem zb35 : ∀ q, zb32 q
 | 0 => by intro M hM j hj; intros; rename_i h _ _ _ _ _; cases h
 | q + 1 => by have i0 := zb35 q; exact zb34 q i0
theorem zb36 : ∀ (q N : Nat), 8 * q ≤ N → ∀ (a0 : (Sl zjs)) (a1 : Int), ∀ (r : Bool), zkk q a0 a1 = some r → (orc T N).deep F.zkk [(Sl.enc zjs.enc) a0, (V.int .i64) a1] = some [V.bool r] := by
 intro q N hM a0 a1 r h
 rcases q with _ | q
 ·cases h
 obtain ⟨M, rfl⟩ : ∃ M, N = M + 8 := ⟨N - 8, by omega⟩
 have zb7k := (zb35 q)
 generalize hR : some [V.bool r] = R
 rw [zh3, zbny, y4, zh1]
 rw [zkk] at h
 replace h := zb7k M (by omega) (M + 7) (by omega) _ _ _ _ _ _ _ _ h R hR
 simp only [zb33, simprocAttr, *]
def zb37 (q : Nat) : Prop := ∀ (M : Nat) (hM : 8 * q ≤ M) (j : Nat) (hj : q ≤ j) (v0z : Bool) (v0l : List zjs) (v5z : Bool) (v5l : List zjs) (v6 v7 : Int) (r : Bool) (_ : zkl q v0z v0l v5z v5l v6 v7 = some r) (R : Option (List V)) (_ : some [V.bool r] = R) (fr : Fr) (H : Hp) (_ : canon 0 [0, 5, 6, 7] fr H = ([(0, (.sl v0z (List.map zjs.enc v0l))), (5, (.sl v5z (List.map zjs.enc v5l))), (6, (.int .i64 v6)), (7, (.int .i64 v7))], [])), fin zbcb (unw T (orc T (M + 7)) (M + 7) 0 [.blk 0, .code zbb8] (iter 0 [0, 5, 6, 7] (exec T (orc T (M + 7)) (M + 7) 0 zbb5) j fr H)) = R
def zb38 := And.intro @kk <| And.intro @ke <| And.intro @kn <| And.intro @zbwa <| And.intro @zbtb <| @zbwc
theorem zb39 (q : Nat) (zb7l : zb37 q) : zb37 (q + 1) := by
 intro M hM j hj v0z v0l v5z v5l v6 v7 r h R hR fr H hc
 obtain ⟨j, rfl⟩ : ∃ i, j = i + 1 := ⟨j - 1, by omega⟩
 rw [zhu, hc]; clear hc
 rw [zkl] at h
 replace h := br h; rcases h with ⟨h1, h⟩ | ⟨h1, h⟩
 ·replace h := bn h; obtain ⟨h2, h⟩ := h
  replace h := ob h; obtain ⟨e1, h3, h⟩ := h
  replace h := ob h; obtain ⟨r2, h4, h⟩ := h
  replace h4 := zb31 q (M + 7) (by omega) _ _ h4
  try simp only [kf, simprocAttr] at h4
  replace h := bb h; rcases h with ⟨h5', h5, h⟩ | ⟨h5', h5, h⟩
  ·replace h := ob h; obtain ⟨e3, h6, h⟩ := h
   replace h := br h; rcases h with ⟨h7, h⟩ | ⟨h7, h⟩
   ·replace h := zb7l M (by omega) j (by omega) _ _ _ _ _ _ _ h R hR
    simp only [zb38, simprocAttr, *]
   ·cases h; subst hR; simp only [zb38, simprocAttr, *]
  ·cases h; subst hR; simp only [zb38, simprocAttr, *]
 ·replace h := br h; rcases h with ⟨h8, h⟩ | ⟨h8, h⟩
  ·cases h; subst hR; simp only [zb38, simprocAttr, *]
  ·cases h; subst hR; simp only [zb38, simprocAttr, *]
theorem zb4a : ∀ q, zb37 q
 | 0 => by intro M hM j hj; intros; rename_i h _ _ _ _ _; cases h
 | q + 1 => by have i0 := zb4a q; exact zb39 q i0
theorem zb4b : ∀ (q N : Nat), 8 * q ≤ N → ∀ (a0 : (Sl zjs)), ∀ (r : Bool), zkm q a0 = some r → (orc T N).deep F.zkm [(Sl.enc zjs.enc) a0] = some [V.bool r] := by
 intro q N hM a0 r h
 rcases q with _ | q
 ·cases h
 obtain ⟨M, rfl⟩ : ∃ M, N = M + 8 := ⟨N - 8, by omega⟩
 have zb7l := (zb4a q)
 generalize hR : some [V.bool r] = R
 rw [zh3, zbpg, y4, zh1]
 rw [zkm] at h
 replace h := zb7l M (by omega) (M + 7) (by omega) _ _ _ _ _ _ _ h R hR
 simp only [zb38, simprocAttr, *]
def zb4c := And.intro @kk <| And.intro @ke <| And.intro @kn <| And.intro @zbx4 <| @zbx6
theorem zb4d : ∀ (q N : Nat), 8 * q ≤ N → ∀ (a0 r : Int), zkn q a0 = some r → (orc T N).deep F.zkn [(V.int .i64) a0] = some [(V.int .u64) r] := by
 intro q N hM a0 r h
 rcases q with _ | q
 ·cases h
 obtain ⟨M, rfl⟩ : ∃ M, N = M + 8 := ⟨N - 8, by omega⟩
 generalize hR : some [(V.int .u64) r] = R
 rw [zh3, zbp2, y4, zh1]
 rw [zkn] at h
 cases h; subst hR; simp only [zb4c, simprocAttr, *]
def zb4e := And.intro @kk <| And.intro @ke <| And.intro @kn <| And.intro @zbwd <| And.intro @zbun <| And.intro @zbx5 <| @zbwf
theorem zb4f : ∀ (q N : Nat), 8 * q ≤ N → ∀ (a0 : (Ow Int)) (a1 : Int), ∀ (r : (Ow Int)), zko q a0 a1 = some r → (orc T N).deep F.zko [(Ow.enc 1 (V.int .u8)) a0, (V.int .i64) a1] = some [(Ow.enc 1 (V.int .u8)) r] := by
 intro q N hM a0 a1 r h
 rcases q with _ | q
 ·cases h
 obtain ⟨M, rfl⟩ : ∃ M, N = M + 8 := ⟨N - 8, by omega⟩
 generalize hR : some [(Ow.enc 1 (V.int .u8)) r] = R
 rw [zh3, zbph, y4, zh1]
 rw [zko] at h
 replace h := ob h; obtain ⟨r1, h1, h⟩ := h
 replace h1 := zb4d q (M + 7) (by omega) _ _ h1
 replace h := ob h; obtain ⟨r2, h2, h⟩ := h
 replace h2 := zb2p q (M + 7) (by omega) _ _ _ h2
 try simp only [kf, simprocAttr] at h2
 cases h; subst hR; simp only [zb4e, simprocAttr, *]
def zb4g := And.intro @kk <| And.intro @ke <| And.intro @kn <| And.intro @zbwg <| And.intro @zbs2 <| And.intro @zbuw <| And.intro @zbwe <| @zbwi
theorem zb4h : ∀ (q N : Nat), 8 * q ≤ N → ∀ (a0 : (Ow Int)) (a1 : zjr), ∀ (r : (Ow Int) × Int), zkp q a0 a1 = some r → (orc T N).deep F.zkp [(Ow.enc 1 (V.int .u8)) a0, zjr.enc a1] = some [(Ow.enc 1 (V.int .u8)) r.1, (V.int .i64) r.2] := by
 intro q N hM a0 a1 r h
 rcases q with _ | q
 ·cases h
 obtain ⟨M, rfl⟩ : ∃ M, N = M + 8 := ⟨N - 8, by omega⟩
 generalize hR : some [(Ow.enc 1 (V.int .u8)) r.1, (V.int .i64) r.2] = R
 rw [zh3, zbpi, y4, zh1]
 rw [zkp] at h
 replace h := ob h; obtain ⟨r1, h1, h⟩ := h
 replace h1 := zb3z q (M + 7) (by omega) _ _ h1
 try simp only [kf, simprocAttr] at h1
 replace h := bb h; rcases h with ⟨h2', h2, h⟩ | ⟨h2', h2, h⟩
 ·replace h := ob h; obtain ⟨r2, h3, h⟩ := h
  replace h3 := zb2r q (M + 7) (by omega) _ _ _ h3
  try simp only [kf, simprocAttr] at h3
  replace h := ob h; obtain ⟨r3, h4, h⟩ := h
  replace h4 := zb4f q (M + 7) (by omega) _ _ _ h4
  try simp only [kf, simprocAttr] at h4
  replace h := ob h; obtain ⟨r4, h5, h⟩ := h
  replace h5 := zb4f q (M + 7) (by omega) _ _ _ h5
  try simp only [kf, simprocAttr] at h5
  cases h; subst hR; simp only [zb4g, simprocAttr, *]
 ·cases h; subst hR; simp only [zb4g, simprocAttr, *]
def zb4i (q : Nat) : Prop := ∀ (M : Nat) (hM : 8 * q ≤ M) (j : Nat) (hj : q ≤ j) (v20z : Bool) (v20l : List zjs) (v21 v22 : Int) (h0m : List (Int × Int)) (h1z : Bool) (h1l : List Int) (h1x : Bool) (r : (Ow Int) × Int) (_ : zkq q v20z v20l v21 v22 h0m h1z h1l h1x = some r) (R : Option (List V)) (_ : some [(Ow.enc 1 (V.int .u8)) r.1, (V.int .i64) r.2] = R) (fr : Fr) (H : Hp) (_ : canon 0 [4, 5, 20, 21, 22] fr H = ([(4, (.mp 0)), (5, (.vw 1 0 0 h1l.length 1)), (20, (.sl v20z (List.map zjs.enc v20l))), (21, (.int .i64 v21)), (22, (.int .i64 v22))], [(.map h0m), (.row 0 h1z 1 (List.map (V.int .u8) h1l) h1x)])), fin z4s (unw T (orc T (M + 7)) (M + 7) 0 [.blk 0, .code z4m] (iter 0 [4, 5, 20, 21, 22] (exec T (orc T (M + 7)) (M + 7) 0 z4j) j fr H)) = R
def zb4j := And.intro @kk <| And.intro @ke <| And.intro @kn <| And.intro @zbuy <| And.intro @zbs2 <| And.intro @zbwb <| And.intro @zbwe <| And.intro @zbwh <| @zbu0
theorem zb4k (q : Nat) (zb7m : zb4i q) : zb4i (q + 1) := by
 intro M hM j hj v20z v20l v21 v22 h0m h1z h1l h1x r h R hR fr H hc
 obtain ⟨j, rfl⟩ : ∃ i, j = i + 1 := ⟨j - 1, by omega⟩
 rw [zhu, hc]; clear hc
 rw [zkq] at h
 replace h := br h; rcases h with ⟨h1, h⟩ | ⟨h1, h⟩
 ·replace h := bn h; obtain ⟨h2, h⟩ := h
  replace h := ob h; obtain ⟨e5, h3, h⟩ := h
  replace h := ob h; obtain ⟨r6, h4, h⟩ := h
  replace h4 := zb2r q (M + 7) (by omega) _ _ _ h4
  try simp only [kf, simprocAttr] at h4
  replace h := ob h; obtain ⟨r7, h5, h⟩ := h
  replace h5 := zb4f q (M + 7) (by omega) _ _ _ h5
  try simp only [kf, simprocAttr] at h5
  replace h := ob h; obtain ⟨r8, h6, h⟩ := h
  replace h6 := zb4h q (M + 7) (by omega) _ _ _ h6
  try simp only [kf, simprocAttr] at h6
  replace h := ob h; obtain ⟨r9, h7, h⟩ := h
  replace h7 := zb4f q (M + 7) (by omega) _ _ _ h7
  try simp only [kf, simprocAttr] at h7
  replace h := zb7m M (by omega) j (by omega) _ _ _ _ _ _ _ _ _ h R hR
  simp only [zb4j, simprocAttr, *]
 ·cases h; subst hR; simp only [zb4j, simprocAttr, *]
theorem zb4l : ∀ q, zb4i q
 | 0 => by intro M hM j hj; intros; rename_i h _ _ _ _ _; cases h
 | q + 1 => by have i0 := zb4l q; exact zb4k q i0
theorem zb4m : ∀ (q N : Nat), 8 * q ≤ N → ∀ (a0 : (Sl zjs)), ∀ (r : (Ow Int) × Int), zkr q a0 = some r → (orc T N).deep F.zkr [(Sl.enc zjs.enc) a0] = some [(Ow.enc 1 (V.int .u8)) r.1, (V.int .i64) r.2] := by
 intro q N hM a0 r h
 rcases q with _ | q
 ·cases h
 obtain ⟨M, rfl⟩ : ∃ M, N = M + 8 := ⟨N - 8, by omega⟩
 have zb7m := (zb4l q)
 generalize hR : some [(Ow.enc 1 (V.int .u8)) r.1, (V.int .i64) r.2] = R
 rw [zh3, zbo0, y4, zh1]
 rw [zkr] at h
 replace h := ob h; obtain ⟨r1, h1, h⟩ := h
 replace h1 := zb4b q (M + 7) (by omega) _ _ h1
 try simp only [kf, simprocAttr] at h1
 replace h := bb h; rcases h with ⟨h2', h2, h⟩ | ⟨h2', h2, h⟩
 ·replace h := ob h; obtain ⟨e2, h3, h⟩ := h
  replace h := ob h; obtain ⟨r3, h4, h⟩ := h
  replace h4 := zb2r q (M + 7) (by omega) _ _ _ h4
  try simp only [kf, simprocAttr] at h4
  replace h := ob h; obtain ⟨r4, h5, h⟩ := h
  replace h5 := zb2r q (M + 7) (by omega) _ _ _ h5
  try simp only [kf, simprocAttr] at h5
  replace h := zb7m M (by omega) (M + 7) (by omega) _ _ _ _ _ _ _ _ _ h R hR
  simp only [zb4j, simprocAttr, *]
 ·cases h; subst hR; simp only [zb4j, simprocAttr, *]
def zb4n := And.intro @kk <| And.intro @ke <| And.intro @kn <| And.intro @zbwj <| @zbwl
theorem zb4o : ∀ (q N : Nat), 8 * q ≤ N → ∀ (a0 : Int), ∀ (r : (Ow Int)), zks q a0 = some r → (orc T N).deep F.zks [(V.int .i64) a0] = some [(Ow.enc 1 (V.int .i64)) r] := by
 intro q N hM a0 r h
 rcases q with _ | q
 ·cases h
 obtain ⟨M, rfl⟩ : ∃ M, N = M + 8 := ⟨N - 8, by omega⟩
 generalize hR : some [(Ow.enc 1 (V.int .i64)) r] = R
 rw [zh3, zbpj, y4, zh1]
 rw [zks] at h
 replace h := br h; rcases h with ⟨h1, h⟩ | ⟨h1, h⟩
 ·cases h; subst hR; simp only [zb4n, simprocAttr, *]
 ·replace h := br h; rcases h with ⟨h2, h⟩ | ⟨h2, h⟩
  ·cases h; subst hR; simp only [zb4n, simprocAttr, *]
  ·replace h := bn h; obtain ⟨h3, h⟩ := h
   replace h := bn h; obtain ⟨h4, h⟩ := h
   replace h := bc h; rcases h with ⟨h5, h⟩ | ⟨h5, h⟩
   ·cases h; subst hR; simp only [zb4n, simprocAttr, *]
   ·replace h := bc h; rcases h with ⟨h6, h⟩ | ⟨h6, h⟩
    ·cases h; subst hR; simp only [zb4n, simprocAttr, *]
    ·replace h := bc h; rcases h with ⟨h7, h⟩ | ⟨h7, h⟩
     ·cases h; subst hR; simp only [zb4n, simprocAttr, *]
     ·replace h := bc h; rcases h with ⟨h8, h⟩ | ⟨h8, h⟩
      ·cases h; subst hR; simp only [zb4n, simprocAttr, *]
      ·cases h
def zb4p := And.intro @kk <| And.intro @ke <| And.intro @kn <| And.intro @zbwm <| And.intro @zbs2 <| And.intro @zbwe <| And.intro @zbwh <| @zbwo
theorem zb4q : ∀ (q N : Nat), 8 * q ≤ N → ∀ (a0 : (Ow Int)) (a1 : Int) (a2 : zjs), ∀ (r : (Ow Int)), zkt q a0 a1 a2 = some r → (orc T N).deep F.zkt [(Ow.enc 1 (V.int .u8)) a0, (V.int .i64) a1, zjs.enc a2] = some [(Ow.enc 1 (V.int .u8)) r] := by
 intro q N hM a0 a1 a2 r h
 rcases q with _ | q
 ·cases h
 obtain ⟨M, rfl⟩ : ∃ M, N = M + 8 := ⟨N - 8, by omega⟩
 generalize hR : some [(Ow.enc 1 (V.int .u8)) r] = R
 rw [zh3, zbpk, y4, zh1]
 rw [zkt] at h
 replace h := ob h; obtain ⟨r1, h1, h⟩ := h
 replace h1 := zb2r q (M + 7) (by omega) _ _ _ h1
 try simp only [kf, simprocAttr] at h1
 replace h := br h; rcases h with ⟨h2, h⟩ | ⟨h2, h⟩
 ·replace h := ob h; obtain ⟨r2, h3, h⟩ := h
  replace h3 := zb2r q (M + 7) (by omega) _ _ _ h3
  try simp only [kf, simprocAttr] at h3
  cases h; subst hR; simp only [zb4p, simprocAttr, *]
 ·replace h := br h; rcases h with ⟨h4, h⟩ | ⟨h4, h⟩
  ·replace h := ob h; obtain ⟨r3, h5, h⟩ := h
   replace h5 := zb2r q (M + 7) (by omega) _ _ _ h5
   try simp only [kf, simprocAttr] at h5
   cases h; subst hR; simp only [zb4p, simprocAttr, *]
  ·replace h := br h; rcases h with ⟨h6, h⟩ | ⟨h6, h⟩
   ·replace h := ob h; obtain ⟨r4, h7, h⟩ := h
    replace h7 := zb2r q (M + 7) (by omega) _ _ _ h7
    try simp only [kf, simprocAttr] at h7
    cases h; subst hR; simp only [zb4p, simprocAttr, *]
   ·replace h := br h; rcases h with ⟨h8, h⟩ | ⟨h8, h⟩
    ·replace h := ob h; obtain ⟨r5, h9, h⟩ := h
     replace h9 := zb4h q (M + 7) (by omega) _ _ _ h9
     try simp only [kf, simprocAttr] at h9
     cases h; subst hR; simp only [zb4p, simprocAttr, *]
    ·replace h := ob h; obtain ⟨r6, h10, h⟩ := h
     replace h10 := zb4f q (M + 7) (by omega) _ _ _ h10
     try simp only [kf, simprocAttr] at h10
     cases h; subst hR; simp only [zb4p, simprocAttr, *]
def zb4r (q : Nat) : Prop := ∀ (M : Nat) (hM : 8 * q ≤ M) (j : Nat) (hj : q ≤ j) (v22 v23 h0_0 h0_1 h0_2 h0_3 h0_4 h0_5 h0_6 : Int) (h1z : Bool) (h1l : List Int) (h1x h2z : Bool) (h2l : List Int) (h2x : Bool) (r : (Ow Int) × Int) (_ : zku q v22 v23 h0_0 h0_1 h0_2 h0_3 h0_4 h0_5 h0_6 h1z h1l h1x h2z h2l h2x = some r) (R : Option (List V)) (_ : some [(Ow.enc 1 (V.int .u8)) r.1, (V.int .i64) r.2] = R) (fr : Fr) (H : Hp) (_ : canon 0 [3, 7, 21, 22, 23] fr H = ([(3, (.ptr 0 0)), (7, (.vw 1 0 0 h1l.length 1)), (21, (.vw 2 0 0 h2l.length 1)), (22, (.int .i64 v22)), (23, (.int .i64 v23))], [(.box [(.int .i64 h0_0), (.int .i64 h0_1), (.int .i64 h0_2), (.int .i64 h0_3), (.int .i64 h0_4), (.int .i64 h0_5), (.int .i64 h0_6)]), (.row 0 h1z 1 (List.map (V.int .u8) h1l) h1x), (.row 0 h2z 1 (List.map (V.int .i64) h2l) h2x)])), fin z5b (unw T (orc T (M + 7)) (M + 7) 0 [.blk 1, .code z45] (iter 0 [3, 7, 21, 22, 23] (exec T (orc T (M + 7)) (M + 7) 0 z42) j fr H)) = R
def zb4s := And.intro @kk <| And.intro @ke <| And.intro @kn <| And.intro @zbu1 <| And.intro @zbs2 <| And.intro @zbtb <| And.intro @zbwk <| And.intro @zbwn <| @zbu3
theorem zb4t (q : Nat) (zb7n : zb4r q) : zb4r (q + 1) := by
 intro M hM j hj v22 v23 h0_0 h0_1 h0_2 h0_3 h0_4 h0_5 h0_6 h1z h1l h1x h2z h2l h2x r h R hR fr H hc
 obtain ⟨j, rfl⟩ : ∃ i, j = i + 1 := ⟨j - 1, by omega⟩
 rw [zhu, hc]; clear hc
 rw [zku] at h
 replace h := br h; rcases h with ⟨h1, h⟩ | ⟨h1, h⟩
 ·replace h := bn h; obtain ⟨h2, h⟩ := h
  replace h := bn h; obtain ⟨h3, h⟩ := h
  replace h := ob h; obtain ⟨e4, h4, h⟩ := h
  replace h := ob h; obtain ⟨r5, h5, h⟩ := h
  replace h5 := zb4q q (M + 7) (by omega) _ _ _ _ h5
  try simp only [kf, simprocAttr] at h5
  replace h := zb7n M (by omega) j (by omega) _ _ _ _ _ _ _ _ _ _ _ _ _ _ _ _ h R hR
  simp only [zb4s, simprocAttr, *]
 ·cases h; subst hR; simp only [zb4s, simprocAttr, *]
theorem zb4u : ∀ q, zb4r q
 | 0 => by intro M hM j hj; intros; rename_i h _ _ _ _ _; cases h
 | q + 1 => by have i0 := zb4u q; exact zb4t q i0
theorem zb4v : ∀ (q N : Nat), 8 * q ≤ N → ∀ (a0 : Int) (a1 : zjs), ∀ (r : (Ow Int) × Int), zkv q a0 a1 = some r → (orc T N).deep F.zkv [(V.int .i64) a0, zjs.enc a1] = some [(Ow.enc 1 (V.int .u8)) r.1, (V.int .i64) r.2] := by
 intro q N hM a0 a1 r h
 rcases q with _ | q
 ·cases h
 obtain ⟨M, rfl⟩ : ∃ M, N = M + 8 := ⟨N - 8, by omega⟩
 have zb7n := (zb4u q)
 generalize hR : some [(Ow.enc 1 (V.int .u8)) r.1, (V.int .i64) r.2] = R
 rw [zh3, zbo1, y4, zh1]
 rw [zkv] at h
 replace h := ob h; obtain ⟨r1, h1, h⟩ := h
 replace h1 := zb4o q (M + 7) (by omega) _ _ h1
 try simp only [kf, simprocAttr] at h1
 replace h := bb h; rcases h with ⟨h2', h2, h⟩ | ⟨h2', h2, h⟩
 ·cases h; subst hR; simp only [zb4s, simprocAttr, *]
 ·replace h := ob h; obtain ⟨r2, h3, h⟩ := h
  replace h3 := zb31 q (M + 7) (by omega) _ _ h3
  try simp only [kf, simprocAttr] at h3
  replace h := bb h; rcases h with ⟨h4', h4, h⟩ | ⟨h4', h4, h⟩
  ·replace h := ob h; obtain ⟨r3, h5, h⟩ := h
   replace h5 := zb2r q (M + 7) (by omega) _ _ _ h5
   try simp only [kf, simprocAttr] at h5
   replace h := zb7n M (by omega) (M + 7) (by omega) _ _ _ _ _ _ _ _ _ _ _ _ _ _ _ _ h R hR
   simp only [zb4s, simprocAttr, *]
  ·cases h; subst hR; simp only [zb4s, simprocAttr, *]
def zb4w (q : Nat) : Prop := ∀ (M : Nat) (hM : 8 * q ≤ M) (j : Nat) (hj : q ≤ j) (v0 : Int) (v20z : Bool) (v20l : List zjs) (v21 v22 : Int) (h0z : Bool) (h0l : List Int) (h0x : Bool) (r : (Ow Int)) (_ : zkw q v0 v20z v20l v21 v22 h0z h0l h0x = some r) (R : Option (List V)) (_ : some [(Ow.enc 1 (V.int .u8)) r] = R) (fr : Fr) (H : Hp) (_ : canon 0 [0, 7, 20, 21, 22] fr H = ([(0, (.int .i64 v0)), (7, (.vw 0 0 0 h0l.length 1)), (20, (.sl v20z (List.map zjs.enc v20l))), (21, (.int .i64 v21)), (22, (.int .i64 v22))], [(.row 0 h0z 1 (List.map (V.int .u8) h0l) h0x)])), fin zyl (unw T (orc T (M + 7)) (M + 7) 0 [.blk 0, .code zyg] (iter 0 [0, 7, 20, 21, 22] (exec T (orc T (M + 7)) (M + 7) 0 zyd) j fr H)) = R
def zb4x := And.intro @kk <| And.intro @ke <| And.intro @kn <| And.intro @zbtd <| And.intro @zbs2 <| And.intro @zbuz <| And.intro @zbu2 <| @zbtf
theorem zb4y (q : Nat) (zb7o : zb4w q) : zb4w (q + 1) := by
 intro M hM j hj v0 v20z v20l v21 v22 h0z h0l h0x r h R hR fr H hc
 obtain ⟨j, rfl⟩ : ∃ i, j = i + 1 := ⟨j - 1, by omega⟩
 rw [zhu, hc]; clear hc
 rw [zkw] at h
 replace h := br h; rcases h with ⟨h1, h⟩ | ⟨h1, h⟩
 ·replace h := bn h; obtain ⟨h2, h⟩ := h
  replace h := ob h; obtain ⟨e2, h3, h⟩ := h
  replace h := ob h; obtain ⟨r3, h4, h⟩ := h
  replace h4 := zb4v q (M + 7) (by omega) _ _ _ h4
  try simp only [kf, simprocAttr] at h4
  replace h := ob h; obtain ⟨r4, h5, h⟩ := h
  replace h5 := zb2r q (M + 7) (by omega) _ _ _ h5
  try simp only [kf, simprocAttr] at h5
  replace h := bn h; obtain ⟨h6, h⟩ := h
  replace h := zb7o M (by omega) j (by omega) _ _ _ _ _ _ _ _ _ h R hR
  simp only [zb4x, simprocAttr, *]
 ·cases h; subst hR; simp only [zb4x, simprocAttr, *]
theorem zb4z : ∀ q, zb4w q
 | 0 => by intro M hM j hj; intros; rename_i h _ _ _ _ _; cases h
 | q + 1 => by have i0 := zb4z q; exact zb4y q i0
theorem zb40 : ∀ (q N : Nat), 8 * q ≤ N → ∀ (a0 : Int) (a1 : (Sl zjs)), ∀ (r : (Ow Int)), zkx q a0 a1 = some r → (orc T N).deep F.zkx [(V.int .i64) a0, (Sl.enc zjs.enc) a1] = some [(Ow.enc 1 (V.int .u8)) r] := by
 intro q N hM a0 a1 r h
 rcases q with _ | q
 ·cases h
 obtain ⟨M, rfl⟩ : ∃ M, N = M + 8 := ⟨N - 8, by omega⟩
 have zb7o := (zb4z q)
 generalize hR : some [(Ow.enc 1 (V.int .u8)) r] = R
 rw [zh3, zboh, y4, zh1]
 rw [zkx] at h
 replace h := br h; rcases h with ⟨h1, h⟩ | ⟨h1, h⟩
 ·replace h := ob h; obtain ⟨r1, h2, h⟩ := h
  replace h2 := zb4m q (M + 7) (by omega) _ _ h2
  try simp only [kf, simprocAttr] at h2
  cases h; subst hR; simp only [zb4x, simprocAttr, *]
 ·replace h := zb7o M (by omega) (M + 7) (by omega) _ _ _ _ _ _ _ _ _ h R hR
  simp only [zb4x, simprocAttr, *]
def zb41 (q : Nat) : Prop := ∀ (M : Nat) (hM : 8 * q ≤ M) (j : Nat) (hj : q ≤ j) (v0 : Int) (v1z : Bool) (v1l : List zjs) (h0z : Bool) (h0l : List (Sl Int)) (r : (Ow (Sl Int))) (_ : zky q v0 v1z v1l h0z h0l = some r) (R : Option (List V)) (_ : some [(Ow.enc 1 (Sl.enc (V.int .u8))) r] = R) (fr : Fr) (H : Hp) (_ : canon 0 [0, 1, 5] fr H = ([(0, (.int .i64 v0)), (1, (.sl v1z (List.map zjs.enc v1l))), (5, (.vw 0 0 0 h0l.length 1))], [(.row 0 h0z 1 (List.map (Sl.enc (V.int .u8)) h0l) true)])), fin zsl (unw T (orc T (M + 7)) (M + 7) 0 [.blk 0, .code zsh] (iter 0 [0, 1, 5] (exec T (orc T (M + 7)) (M + 7) 0 zsf) j fr H)) = R
def zb42 := And.intro @kk <| And.intro @ke <| And.intro @kn <| And.intro @zbrv <| And.intro @zbse <| And.intro @zbte <| @zbrx
theorem zb43 (q : Nat) (zb7p : zb41 q) : zb41 (q + 1) := by
 intro M hM j hj v0 v1z v1l h0z h0l r h R hR fr H hc
 obtain ⟨j, rfl⟩ : ∃ i, j = i + 1 := ⟨j - 1, by omega⟩
 rw [zhu, hc]; clear hc
 rw [zky] at h
 replace h := br h; rcases h with ⟨h1, h⟩ | ⟨h1, h⟩
 ·replace h := bn h; obtain ⟨h2, h⟩ := h
  replace h := bn h; obtain ⟨h3, h⟩ := h
  replace h := bn h; obtain ⟨h4, h⟩ := h
  replace h := ob h; obtain ⟨r1, h5, h⟩ := h
  replace h5 := zb40 q (M + 7) (by omega) _ _ _ h5
  try simp only [kf, simprocAttr] at h5
  replace h := ob h; obtain ⟨r2, h6, h⟩ := h
  replace h6 := zb3t q (M + 7) (by omega) _ _ h6
  try simp only [kf, simprocAttr] at h6
  replace h := bn h; obtain ⟨h7, h⟩ := h
  replace h := bn h; obtain ⟨h8, h⟩ := h
  replace h := zb7p M (by omega) j (by omega) _ _ _ _ _ _ h R hR
  simp only [zb42, simprocAttr, *]
 ·cases h; subst hR; simp only [zb42, simprocAttr, *]
theorem zb44 : ∀ q, zb41 q
 | 0 => by intro M hM j hj; intros; rename_i h _ _ _ _ _; cases h
 | q + 1 => by have i0 := zb44 q; exact zb43 q i0
theorem zb45 : ∀ (q N : Nat), 8 * q ≤ N → ∀ (a0 : Int) (a1 : (Sl zjs)), ∀ (r : (Ow (Sl Int))), zkz q a0 a1 = some r → (orc T N).deep F.zkz [(V.int .i64) a0, (Sl.enc zjs.enc) a1] = some [(Ow.enc 1 (Sl.enc (V.int .u8))) r] := by
 intro q N hM a0 a1 r h
 rcases q with _ | q
 ·cases h
 obtain ⟨M, rfl⟩ : ∃ M, N = M + 8 := ⟨N - 8, by omega⟩
 have zb7p := (zb44 q)
 generalize hR : some [(Ow.enc 1 (Sl.enc (V.int .u8))) r] = R
 rw [zh3, zbnz, y4, zh1]
 rw [zkz] at h
 replace h := zb7p M (by omega) (M + 7) (by omega) _ _ _ _ _ _ h R hR
 simp only [zb42, simprocAttr, *]
def zb46 (q : Nat) : Prop := ∀ (M : Nat) (hM : 8 * q ≤ M) (j : Nat) (hj : q ≤ j) (v14z : Bool) (v14l : List (Sl Int)) (v15 v16 : Int) (h0z : Bool) (h0l : List Int) (h0x : Bool) (r : (Ow Int)) (_ : zk0 q v14z v14l v15 v16 h0z h0l h0x = some r) (R : Option (List V)) (_ : some [(Ow.enc 1 (V.int .u8)) r] = R) (fr : Fr) (H : Hp) (_ : canon 0 [3, 14, 15, 16] fr H = ([(3, (.vw 0 0 0 h0l.length 1)), (14, (.sl v14z (List.map (Sl.enc (V.int .u8)) v14l))), (15, (.int .i64 v15)), (16, (.int .i64 v16))], [(.row 0 h0z 1 (List.map (V.int .u8) h0l) h0x)])), fin ztm (unw T (orc T (M + 7)) (M + 7) 0 [.blk 0, .code zti] (iter 0 [3, 14, 15, 16] (exec T (orc T (M + 7)) (M + 7) 0 ztf) j fr H)) = R
def zb47 := And.intro @kk <| And.intro @ke <| And.intro @kn <| And.intro @zbr1 <| And.intro @zbse <| And.intro @zbs2 <| @zbr3
theorem zb48 (q : Nat) (zb7q : zb46 q) : zb46 (q + 1) := by
 intro M hM j hj v14z v14l v15 v16 h0z h0l h0x r h R hR fr H hc
 obtain ⟨j, rfl⟩ : ∃ i, j = i + 1 := ⟨j - 1, by omega⟩
 rw [zhu, hc]; clear hc
 rw [zk0] at h
 replace h := br h; rcases h with ⟨h1, h⟩ | ⟨h1, h⟩
 ·replace h := bn h; obtain ⟨h2, h⟩ := h
  replace h := ob h; obtain ⟨e2, h3, h⟩ := h
  replace h := ob h; obtain ⟨r3, h4, h⟩ := h
  replace h4 := zb2r q (M + 7) (by omega) _ _ _ h4
  try simp only [kf, simprocAttr] at h4
  replace h := zb7q M (by omega) j (by omega) _ _ _ _ _ _ _ _ h R hR
  simp only [zb47, simprocAttr, *]
 ·replace h := ob h; obtain ⟨r4, h5, h⟩ := h
  replace h5 := zb3t q (M + 7) (by omega) _ _ h5
  try simp only [kf, simprocAttr] at h5
  cases h; subst hR; simp only [zb47, simprocAttr, *]
theorem zb49 : ∀ q, zb46 q
 | 0 => by intro M hM j hj; intros; rename_i h _ _ _ _ _; cases h
 | q + 1 => by have i0 := zb49 q; exact zb48 q i0
theorem zb5a : ∀ (q N : Nat), 8 * q ≤ N → ∀ (a0 : (Sl (Sl Int))), ∀ (r : (Ow Int)), zk1 q a0 = some r → (orc T N).deep F.zk1 [(Sl.enc (Sl.enc (V.int .u8))) a0] = some [(Ow.enc 1 (V.int .u8)) r] := by
 intro q N hM a0 r h
 rcases q with _ | q
 ·cases h
 obtain ⟨M, rfl⟩ : ∃ M, N = M + 8 := ⟨N - 8, by omega⟩
 have zb7q := (zb49 q)
 generalize hR : some [(Ow.enc 1 (V.int .u8)) r] = R
 rw [zh3, zbn1, y4, zh1]
 rw [zk1] at h
 replace h := ob h; obtain ⟨r1, h1, h⟩ := h
 replace h1 := zb2r q (M + 7) (by omega) _ _ _ h1
 try simp only [kf, simprocAttr] at h1
 replace h := bn h; obtain ⟨h2, h⟩ := h
 replace h := bn h; obtain ⟨h3, h⟩ := h
 replace h := zb7q M (by omega) (M + 7) (by omega) _ _ _ _ _ _ _ _ h R hR
 simp only [zb47, simprocAttr, *]
def zb5b := And.intro @kk <| And.intro @ke <| And.intro @kn <| And.intro @zbqy <| And.intro @zbrq <| And.intro @zbrt <| And.intro @zbrw <| And.intro @zbrz <| And.intro @zbr2 <| @zbq0
theorem zb5c : ∀ (q N : Nat), 8 * q ≤ N → ∀ (a0 : Int) (a1 : zjt), ∀ (r : (Ow Int) × Int), zk2 q a0 a1 = some r → (orc T N).deep F.zk2 [(V.int .i64) a0, zjt.enc a1] = some [(Ow.enc 1 (V.int .u8)) r.1, (V.int .i64) r.2] := by
 intro q N hM a0 a1 r h
 rcases q with _ | q
 ·cases h
 obtain ⟨M, rfl⟩ : ∃ M, N = M + 8 := ⟨N - 8, by omega⟩
 generalize hR : some [(Ow.enc 1 (V.int .u8)) r.1, (V.int .i64) r.2] = R
 rw [zh3, zbno, y4, zh1]
 rw [zk2] at h
 replace h := ob h; obtain ⟨r1, h1, h⟩ := h
 replace h1 := zb3v q (M + 7) (by omega) _ _ _ _ h1
 try simp only [kf, simprocAttr] at h1
 replace h := br h; rcases h with ⟨h2, h⟩ | ⟨h2, h⟩
 ·replace h := ob h; obtain ⟨r2, h3, h⟩ := h
  replace h3 := zb36 q (M + 7) (by omega) _ _ _ h3
  try simp only [kf, simprocAttr] at h3
  replace h := bb h; rcases h with ⟨h4', h4, h⟩ | ⟨h4', h4, h⟩
  ·replace h := ob h; obtain ⟨r3, h5, h⟩ := h
   replace h5 := zb45 q (M + 7) (by omega) _ _ _ h5
   try simp only [kf, simprocAttr] at h5
   replace h := bn h; obtain ⟨h6, h⟩ := h
   replace h := ob h; obtain ⟨r4, h7, h⟩ := h
   replace h7 := zb3p q (M + 7) (by omega) _ _ h7
   try simp only [kf, simprocAttr] at h7
   replace h := ob h; obtain ⟨r5, h8, h⟩ := h
   replace h8 := zb5a q (M + 7) (by omega) _ _ h8
   try simp only [kf, simprocAttr] at h8
   replace h := bn h; obtain ⟨h9, h⟩ := h
   cases h; subst hR; simp only [zb5b, simprocAttr, *]
  ·cases h; subst hR; simp only [zb5b, simprocAttr, *]
 ·cases h; subst hR; simp only [zb5b, simprocAttr, *]
def zb5d := And.intro @kk <| And.intro @ke <| And.intro @kn <| And.intro @zbqm <| And.intro @zbqz <| @zbqo
theorem zb5e : ∀ (q N : Nat), 8 * q ≤ N → ∀ (r : Bool), zk3 q = some r → (orc T N).deep F.zk3 [] = some [V.bool r] := by
 intro q N hM r h
 rcases q with _ | q
 ·cases h
 obtain ⟨M, rfl⟩ : ∃ M, N = M + 8 := ⟨N - 8, by omega⟩
 generalize hR : some [V.bool r] = R
 rw [zh3, zbnk, y4, zh1]
 rw [zk3] at h
 replace h := ob h; obtain ⟨r1, h1, h⟩ := h
 replace h1 := zb5c q (M + 7) (by omega) _ _ _ h1
 try simp only [kf, simprocAttr] at h1
 replace h := br h; rcases h with ⟨h2, h⟩ | ⟨h2, h⟩
 ·replace h := br h; rcases h with ⟨h3, h⟩ | ⟨h3, h⟩
  ·replace h := bn h; obtain ⟨h4, h⟩ := h
   replace h := bb h; rcases h with ⟨h5', h5, h⟩ | ⟨h5', h5, h⟩
   ·replace h := br h; rcases h with ⟨h6, h⟩ | ⟨h6, h⟩
    ·replace h := bn h; obtain ⟨h7, h⟩ := h
     cases h; subst hR; simp only [zb5d, simprocAttr, *]
    ·cases h; subst hR; simp only [zb5d, simprocAttr, *]
   ·replace h := br h; rcases h with ⟨h8, h⟩ | ⟨h8, h⟩
    ·replace h := bn h; obtain ⟨h9, h⟩ := h
     cases h; subst hR; simp only [zb5d, simprocAttr, *]
    ·cases h; subst hR; simp only [zb5d, simprocAttr, *]
  ·cases h; subst hR; simp only [zb5d, simprocAttr, *]
 ·cases h; subst hR; simp only [zb5d, simprocAttr, *]
def zb5f := And.intro @kk <| And.intro @ke <| And.intro @kn <| And.intro @zbxs <| @zbxu
theorem zb5g : ∀ (q N : Nat), 8 * q ≤ N → ∀ (a0 : Int), ∀ (r : Bool), zk4 q a0 = some r → (orc T N).deep F.zk4 [(V.int .u8) a0] = some [V.bool r] := by
 intro q N hM a0 r h
 rcases q with _ | q
 ·cases h
 obtain ⟨M, rfl⟩ : ∃ M, N = M + 8 := ⟨N - 8, by omega⟩
 generalize hR : some [V.bool r] = R
 rw [zh3, zbpy, y4, zh1]
 rw [zk4] at h
 cases h; subst hR; simp only [zb5f, simprocAttr, *]
def zb5h (q : Nat) : Prop := ∀ (M : Nat) (hM : 8 * q ≤ M) (j : Nat) (hj : q ≤ j) (v0z : Bool) (v0l : List Int) (v7 v8 r : Int) (_ : zk5 q v0z v0l v7 v8 = some r) (R : Option (List V × Hp)) (_ : (some ([(.int .i64 r)], []) : Option (List V × Hp)) = R) (fr : Fr) (H : Hp) (_ : canon 0 [0, 1, 7, 8] fr H = ([(0, (.sl v0z (List.map (V.int .u8) v0l))), (1, (.fn F.zk4 [])), (7, (.int .i64 v7)), (8, (.int .i64 v8))], [])), finI 0 false [.tmp 4] (unw T (orc T (M + 5)) (M + 5) 0 [.blk 0, .code zbj9] (iter 0 [0, 1, 7, 8] (exec T (orc T (M + 5)) (M + 5) 0 zbj6) j fr H)) = R
def zb5i := And.intro @kk <| And.intro @ke <| And.intro @kn <| And.intro @zbym <| @zbxt
theorem zb5j (q : Nat) (zb7r : zb5h q) : zb5h (q + 1) := by
 intro M hM j hj v0z v0l v7 v8 r h R hR fr H hc
 obtain ⟨j, rfl⟩ : ∃ i, j = i + 1 := ⟨j - 1, by omega⟩
 rw [zhu, hc]; clear hc
 rw [zk5] at h
 replace h := br h; rcases h with ⟨h1, h⟩ | ⟨h1, h⟩
 ·replace h := bn h; obtain ⟨h2, h⟩ := h
  replace h := ob h; obtain ⟨e1, h3, h⟩ := h
  replace h := ob h; obtain ⟨r2, h4, h⟩ := h
  replace h4 := zb5g q (M + 5) (by omega) _ _ h4
  replace h := bb h; rcases h with ⟨h5', h5, h⟩ | ⟨h5', h5, h⟩
  ·cases h; subst hR; simp only [zb5i, simprocAttr, *]
  ·replace h := zb7r M (by omega) j (by omega) _ _ _ _ _ h R hR
   simp only [zb5i, simprocAttr, *]
 ·cases h; subst hR; simp only [zb5i, simprocAttr, *]
theorem zb5k : ∀ q, zb5h q
 | 0 => by intro M hM j hj; intros; rename_i h _ _ _ _ _; cases h
 | q + 1 => by have i0 := zb5k q; exact zb5j q i0
theorem zb5l : ∀ (q M : Nat), 8 * q ≤ M → ∀ (v0z : Bool), ∀ (v0l : List Int), ∀ (r : Int), zk6 q v0z v0l = some r → (orc T (M + 6)).inl F.zob [(.sl v0z (List.map (V.int .u8) v0l)), (.fn F.zk4 [])] [] = (some ([(.int .i64 r)], []) : Option (List V × Hp)) := by
 intro q M hM v0z v0l r h
 rcases q with _ | q
 ·cases h
 have zb7r := (zb5k q)
 generalize hR : (some ([(.int .i64 r)], []) : Option (List V × Hp)) = R
 rw [zbyo (n := M + 5)]
 rw [zk6] at h
 replace h := zb7r M (by omega) (M + 5) (by omega) _ _ _ _ _ h R hR
 simp only [zb5i, simprocAttr, *]
def zb5m := And.intro @kk <| And.intro @ke <| And.intro @kn <| And.intro @zbvp <| And.intro @zbxp <| And.intro @zbyn <| And.intro @zbxq <| And.intro @zbxr <| @zbvr
theorem zb5n : ∀ (q N : Nat), 8 * q ≤ N → ∀ (a0 : (Sl Int)), ∀ (r : Bool), zk7 q a0 = some r → (orc T N).deep F.zk7 [(Sl.enc (V.int .u8)) a0] = some [V.bool r] := by
 intro q N hM a0 r h
 rcases q with _ | q
 ·cases h
 obtain ⟨M, rfl⟩ : ∃ M, N = M + 8 := ⟨N - 8, by omega⟩
 generalize hR : some [V.bool r] = R
 rw [zh3, zbo9, y4, zh1]
 rw [zk7] at h
 replace h := br h; rcases h with ⟨h1, h⟩ | ⟨h1, h⟩
 ·replace h := ob h; obtain ⟨r1, h2, h⟩ := h
  replace h2 := zb5l q M (by omega) _ _ _ h2
  try simp only [kf, simprocAttr] at h2
  cases h; subst hR; simp only [zb5m, simprocAttr, *]
 ·cases h; subst hR; simp only [zb5m, simprocAttr, *]
def zb5o (q : Nat) : Prop := ∀ (M : Nat) (hM : 8 * q ≤ M) (j : Nat) (hj : q ≤ j) (v0z : Bool) (v0l : List Int) (v4 v9 v10 : Int) (r : Int × Int) (_ : zk8 q v0z v0l v4 v9 v10 = some r) (R : Option (List V)) (_ : some [(V.int .u64) r.1, (V.int .i64) r.2] = R) (fr : Fr) (H : Hp) (_ : canon 0 [0, 4, 9, 10] fr H = ([(0, (.sl v0z (List.map (V.int .u8) v0l))), (4, (.int .u64 v4)), (9, (.int .i64 v9)), (10, (.int .i64 v10))], [])), fin zbas (unw T (orc T (M + 7)) (M + 7) 0 [.blk 0, .code zbao] (iter 0 [0, 4, 9, 10] (exec T (orc T (M + 7)) (M + 7) 0 zbal) j fr H)) = R
def zb5p := And.intro @kk <| And.intro @ke <| And.intro @kn <| And.intro @zbvy <| @zbv0
theorem zb5q (q : Nat) (zb7s : zb5o q) : zb5o (q + 1) := by
 intro M hM j hj v0z v0l v4 v9 v10 r h R hR fr H hc
 obtain ⟨j, rfl⟩ : ∃ i, j = i + 1 := ⟨j - 1, by omega⟩
 rw [zhu, hc]; clear hc
 rw [zk8] at h
 replace h := br h; rcases h with ⟨h1, h⟩ | ⟨h1, h⟩
 ·replace h := bn h; obtain ⟨h2, h⟩ := h
  replace h := ob h; obtain ⟨e1, h3, h⟩ := h
  replace h := bm h; obtain ⟨h4, h⟩ := h
  replace h := br h; rcases h with ⟨h5, h⟩ | ⟨h5, h⟩
  ·replace h := br h; rcases h with ⟨h6, h⟩ | ⟨h6, h⟩
   ·cases h; subst hR; simp only [zb5p, simprocAttr, *]
   ·replace h := br h; rcases h with ⟨h7, h⟩ | ⟨h7, h⟩
    ·replace h := br h; rcases h with ⟨h8, h⟩ | ⟨h8, h⟩
     ·cases h; subst hR; simp only [zb5p, simprocAttr, *]
     ·replace h := br h; rcases h with ⟨h9, h⟩ | ⟨h9, h⟩
      ·cases h; subst hR; simp only [zb5p, simprocAttr, *]
      ·replace h := zb7s M (by omega) j (by omega) _ _ _ _ _ _ h R hR
       simp only [zb5p, simprocAttr, *]
    ·replace h := br h; rcases h with ⟨h10, h⟩ | ⟨h10, h⟩
     ·cases h; subst hR; simp only [zb5p, simprocAttr, *]
     ·replace h := zb7s M (by omega) j (by omega) _ _ _ _ _ _ h R hR
      simp only [zb5p, simprocAttr, *]
  ·replace h := br h; rcases h with ⟨h11, h⟩ | ⟨h11, h⟩
   ·replace h := br h; rcases h with ⟨h12, h⟩ | ⟨h12, h⟩
    ·cases h; subst hR; simp only [zb5p, simprocAttr, *]
    ·replace h := br h; rcases h with ⟨h13, h⟩ | ⟨h13, h⟩
     ·cases h; subst hR; simp only [zb5p, simprocAttr, *]
     ·replace h := zb7s M (by omega) j (by omega) _ _ _ _ _ _ h R hR
      simp only [zb5p, simprocAttr, *]
   ·replace h := br h; rcases h with ⟨h14, h⟩ | ⟨h14, h⟩
    ·cases h; subst hR; simp only [zb5p, simprocAttr, *]
    ·replace h := zb7s M (by omega) j (by omega) _ _ _ _ _ _ h R hR
     simp only [zb5p, simprocAttr, *]
 ·cases h; subst hR; simp only [zb5p, simprocAttr, *]
theorem zb5r : ∀ q, zb5o q
 | 0 => by intro M hM j hj; intros; rename_i h _ _ _ _ _; cases h
 | q + 1 => by have i0 := zb5r q; exact zb5q q i0
theorem zb5s : ∀ (q N : Nat), 8 * q ≤ N → ∀ (a0 : (Sl Int)), ∀ (r : Int × Int), zk9 q a0 = some r → (orc T N).deep F.zk9 [(Sl.enc (V.int .u8)) a0] = some [(V.int .u64) r.1, (V.int .i64) r.2] := by
 intro q N hM a0 r h
 rcases q with _ | q
 ·cases h
 obtain ⟨M, rfl⟩ : ∃ M, N = M + 8 := ⟨N - 8, by omega⟩
 have zb7s := (zb5r q)
 generalize hR : some [(V.int .u64) r.1, (V.int .i64) r.2] = R
 rw [zh3, zbpc, y4, zh1]
 rw [zk9] at h
 replace h := zb7s M (by omega) (M + 7) (by omega) _ _ _ _ _ _ h R hR
 simp only [zb5p, simprocAttr, *]
def zb5t := And.intro @kk <| And.intro @ke <| And.intro @kn <| And.intro @zbud <| And.intro @zbvz <| @zbuf
theorem zb5u : ∀ (q N : Nat), 8 * q ≤ N → ∀ (a0 : (Sl Int)), ∀ (r : Int × Int), zla q a0 = some r → (orc T N).deep F.zla [(Sl.enc (V.int .u8)) a0] = some [(V.int .i64) r.1, (V.int .i64) r.2] := by
 intro q N hM a0 r h
 rcases q with _ | q
 ·cases h
 obtain ⟨M, rfl⟩ : ∃ M, N = M + 8 := ⟨N - 8, by omega⟩
 generalize hR : some [(V.int .i64) r.1, (V.int .i64) r.2] = R
 rw [zh3, zbot, y4, zh1]
 rw [zla] at h
 replace h := ob h; obtain ⟨r1, h1, h⟩ := h
 replace h1 := zb5s q (M + 7) (by omega) _ _ h1
 try simp only [kf, simprocAttr] at h1
 replace h := br h; rcases h with ⟨h2, h⟩ | ⟨h2, h⟩
 ·cases h; subst hR; simp only [zb5t, simprocAttr, *]
 ·cases h; subst hR; simp only [zb5t, simprocAttr, *]
def zb5v (q : Nat) : Prop := ∀ (M : Nat) (hM : 8 * q ≤ M) (j : Nat) (hj : q ≤ j) (v0z : Bool) (v0l : List Int) (v1z : Bool) (v1l : List Int) (v12 v13 : Int) (r : Bool) (_ : zlb q v0z v0l v1z v1l v12 v13 = some r) (R : Option (List V)) (_ : some [V.bool r] = R) (fr : Fr) (H : Hp) (_ : canon 0 [0, 1, 12, 13] fr H = ([(0, (.sl v0z (List.map (V.int .u8) v0l))), (1, (.sl v1z (List.map (V.int .u8) v1l))), (12, (.int .i64 v12)), (13, (.int .i64 v13))], [])), fin z91 (unw T (orc T (M + 7)) (M + 7) 0 [.blk 0, .code z9x] (iter 0 [0, 1, 12, 13] (exec T (orc T (M + 7)) (M + 7) 0 z9u) j fr H)) = R
def zb5w := And.intro @kk <| And.intro @ke <| And.intro @kn <| And.intro @zbvs <| @zbvu
theorem zb5x (q : Nat) (zb7t : zb5v q) : zb5v (q + 1) := by
 intro M hM j hj v0z v0l v1z v1l v12 v13 r h R hR fr H hc
 obtain ⟨j, rfl⟩ : ∃ i, j = i + 1 := ⟨j - 1, by omega⟩
 rw [zhu, hc]; clear hc
 rw [zlb] at h
 replace h := br h; rcases h with ⟨h1, h⟩ | ⟨h1, h⟩
 ·replace h := bn h; obtain ⟨h2, h⟩ := h
  replace h := ob h; obtain ⟨e1, h3, h⟩ := h
  replace h := ob h; obtain ⟨e2, h4, h⟩ := h
  replace h := br h; rcases h with ⟨h5, h⟩ | ⟨h5, h⟩
  ·replace h := zb7t M (by omega) j (by omega) _ _ _ _ _ _ _ h R hR
   simp only [zb5w, simprocAttr, *]
  ·cases h; subst hR; simp only [zb5w, simprocAttr, *]
 ·cases h; subst hR; simp only [zb5w, simprocAttr, *]
theorem zb5y : ∀ q, zb5v q
 | 0 => by intro M hM j hj; intros; rename_i h _ _ _ _ _; cases h
 | q + 1 => by have i0 := zb5y q; exact zb5x q i0
theorem zb5z : ∀ (q N : Nat), 8 * q ≤ N → ∀ (a0 a1 : (Sl Int)), ∀ (r : Bool), zlc q a0 a1 = some r → (orc T N).deep F.zlc [(Sl.enc (V.int .u8)) a0, (Sl.enc (V.int .u8)) a1] = some [V.bool r] := by
 intro q N hM a0 a1 r h
 rcases q with _ | q
 ·cases h
 obtain ⟨M, rfl⟩ : ∃ M, N = M + 8 := ⟨N - 8, by omega⟩
 have zb7t := (zb5y q)
 generalize hR : some [V.bool r] = R
 rw [zh3, zbpa, y4, zh1]
 rw [zlc] at h
 replace h := br h; rcases h with ⟨h1, h⟩ | ⟨h1, h⟩
 ·replace h := zb7t M (by omega) (M + 7) (by omega) _ _ _ _ _ _ _ h R hR
  simp only [zb5w, simprocAttr, *]
 ·cases h; subst hR; simp only [zb5w, simprocAttr, *]
def zb50 := And.intro @kk <| And.intro @ke <| And.intro @kn <| And.intro @zbvv <| @zbvx
theorem zb51 : ∀ (q N : Nat), 8 * q ≤ N → ∀ (a0 : (Sl Int)), ∀ (r : (Ow Int)), zld q a0 = some r → (orc T N).deep F.zld [(Sl.enc (V.int .u8)) a0] = some [(Ow.enc 1 (V.int .u8)) r] := by
 intro q N hM a0 r h
 rcases q with _ | q
 ·cases h
 obtain ⟨M, rfl⟩ : ∃ M, N = M + 8 := ⟨N - 8, by omega⟩
 generalize hR : some [(Ow.enc 1 (V.int .u8)) r] = R
 rw [zh3, zbpb, y4, zh1]
 rw [zld] at h
 replace h := bb h; rcases h with ⟨h1', h1, h⟩ | ⟨h1', h1, h⟩
 ·cases h; subst hR; simp only [zb50, simprocAttr, *]
 ·replace h := bn h; obtain ⟨h2, h⟩ := h
  cases h; subst hR; simp only [zb50, simprocAttr, *]
def zb52 := And.intro @kk <| And.intro @ke <| And.intro @kn <| And.intro @zbua <| And.intro @zbue <| And.intro @zbu5 <| And.intro @zbvq <| And.intro @zbvt <| And.intro @zbvw <| @zbuc
theorem zb53 : ∀ (q N : Nat), 8 * q ≤ N → ∀ (a0 : (Sl Int)), ∀ (r : (Ow Int) × Int × Int), zle q a0 = some r → (orc T N).deep F.zle [(Sl.enc (V.int .u8)) a0] = some [(Ow.enc 1 (V.int .u8)) r.1, (V.int .i64) r.2.1, (V.int .i64) r.2.2] := by
 intro q N hM a0 r h
 rcases q with _ | q
 ·cases h
 obtain ⟨M, rfl⟩ : ∃ M, N = M + 8 := ⟨N - 8, by omega⟩
 generalize hR : some [(Ow.enc 1 (V.int .u8)) r.1, (V.int .i64) r.2.1, (V.int .i64) r.2.2] = R
 rw [zh3, zbos, y4, zh1]
 rw [zle] at h
 replace h := ob h; obtain ⟨r1, h1, h⟩ := h
 replace h1 := zb5n q (M + 7) (by omega) _ _ h1
 try simp only [kf, simprocAttr] at h1
 replace h := bb h; rcases h with ⟨h2', h2, h⟩ | ⟨h2', h2, h⟩
 ·cases h; subst hR; simp only [zb52, simprocAttr, *]
 ·replace h := ob h; obtain ⟨r2, h3, h⟩ := h
  replace h3 := zb5u q (M + 7) (by omega) _ _ h3
  try simp only [kf, simprocAttr] at h3
  replace h := br h; rcases h with ⟨h4, h⟩ | ⟨h4, h⟩
  ·cases h; subst hR; simp only [zb52, simprocAttr, *]
  ·replace h := br h; rcases h with ⟨h5, h⟩ | ⟨h5, h⟩
   ·cases h; subst hR; simp only [zb52, simprocAttr, *]
   ·replace h := br h; rcases h with ⟨h6, h⟩ | ⟨h6, h⟩
    ·cases h; subst hR; simp only [zb52, simprocAttr, *]
    ·replace h := bn h; obtain ⟨h7, h⟩ := h
     replace h := bn h; obtain ⟨h8, h⟩ := h
     replace h := bn h; obtain ⟨h9, h⟩ := h
     replace h := bn h; obtain ⟨h10, h⟩ := h
     replace h := bn h; obtain ⟨h11, h⟩ := h
     replace h := bn h; obtain ⟨h12, h⟩ := h
     replace h := bn h; obtain ⟨h13, h⟩ := h
     replace h := bn h; obtain ⟨h14, h⟩ := h
     replace h := bn h; obtain ⟨h15, h⟩ := h
     replace h := ob h; obtain ⟨r3, h16, h⟩ := h
     replace h16 := zb3e q (M + 7) (by omega) _ _ _ h16
     try simp only [kf, simprocAttr] at h16
     replace h := ob h; obtain ⟨r4, h17, h⟩ := h
     replace h17 := zb5z q (M + 7) (by omega) _ _ _ h17
     try simp only [kf, simprocAttr] at h17
     replace h := bb h; rcases h with ⟨h18', h18, h⟩ | ⟨h18', h18, h⟩
     ·replace h := ob h; obtain ⟨r5, h19, h⟩ := h
      replace h19 := zb51 q (M + 7) (by omega) _ _ h19
      try simp only [kf, simprocAttr] at h19
      cases h; subst hR; simp only [zb52, simprocAttr, *]
     ·cases h; subst hR; simp only [zb52, simprocAttr, *]
def zb54 (q : Nat) : Prop := ∀ (M : Nat) (hM : 8 * q ≤ M) (j : Nat) (hj : q ≤ j) (v0z : Bool) (v0l : List Int) (v3 : Int) (h0z : Bool) (h0l : List (Sl Int)) (r : (Ow (Sl Int)) × Int × Int) (_ : zlf q v0z v0l v3 h0z h0l = some r) (R : Option (List V)) (_ : some [(Ow.enc 1 (Sl.enc (V.int .u8))) r.1, (V.int .i64) r.2.1, (V.int .i64) r.2.2] = R) (fr : Fr) (H : Hp) (_ : canon 0 [0, 2, 3] fr H = ([(0, (.sl v0z (List.map (V.int .u8) v0l))), (2, (.vw 0 0 0 h0l.length 1)), (3, (.int .i64 v3))], [(.row 0 h0z 1 (List.map (Sl.enc (V.int .u8)) h0l) true)])), fin zvr (unw T (orc T (M + 7)) (M + 7) 0 [.blk 0, .code zvo] (iter 0 [0, 2, 3] (exec T (orc T (M + 7)) (M + 7) 0 zvm) j fr H)) = R
def zb55 := And.intro @kk <| And.intro @ke <| And.intro @kn <| And.intro @zbss <| And.intro @zbub <| @zbsu
theorem zb56 (q : Nat) (zb7u : zb54 q) : zb54 (q + 1) := by
 intro M hM j hj v0z v0l v3 h0z h0l r h R hR fr H hc
 obtain ⟨j, rfl⟩ : ∃ i, j = i + 1 := ⟨j - 1, by omega⟩
 rw [zhu, hc]; clear hc
 rw [zlf] at h
 replace h := br h; rcases h with ⟨h1, h⟩ | ⟨h1, h⟩
 ·replace h := bn h; obtain ⟨h2, h⟩ := h
  replace h := bn h; obtain ⟨h3, h⟩ := h
  replace h := ob h; obtain ⟨r1, h4, h⟩ := h
  replace h4 := zb53 q (M + 7) (by omega) _ _ h4
  try simp only [kf, simprocAttr] at h4
  replace h := br h; rcases h with ⟨h5, h⟩ | ⟨h5, h⟩
  ·replace h := bn h; obtain ⟨h6, h⟩ := h
   replace h := zb7u M (by omega) j (by omega) _ _ _ _ _ _ h R hR
   simp only [zb55, simprocAttr, *]
  ·cases h; subst hR; simp only [zb55, simprocAttr, *]
 ·cases h; subst hR; simp only [zb55, simprocAttr, *]
theorem zb57 : ∀ q, zb54 q
 | 0 => by intro M hM j hj; intros; rename_i h _ _ _ _ _; cases h
 | q + 1 => by have i0 := zb57 q; exact zb56 q i0
theorem zb58 : ∀ (q N : Nat), 8 * q ≤ N → ∀ (a0 : (Sl Int)), ∀ (r : (Ow (Sl Int)) × Int × Int), zlg q a0 = some r → (orc T N).deep F.zlg [(Sl.enc (V.int .u8)) a0] = some [(Ow.enc 1 (Sl.enc (V.int .u8))) r.1, (V.int .i64) r.2.1, (V.int .i64) r.2.2] := by
 intro q N hM a0 r h
 rcases q with _ | q
 ·cases h
 obtain ⟨M, rfl⟩ : ∃ M, N = M + 8 := ⟨N - 8, by omega⟩
 have zb7u := (zb57 q)
 generalize hR : some [(Ow.enc 1 (Sl.enc (V.int .u8))) r.1, (V.int .i64) r.2.1, (V.int .i64) r.2.2] = R
 rw [zh3, zboa, y4, zh1]
 rw [zlg] at h
 replace h := zb7u M (by omega) (M + 7) (by omega) _ _ _ _ _ _ h R hR
 simp only [zb55, simprocAttr, *]
def zb59 := And.intro @kk <| And.intro @ke <| And.intro @kn <| And.intro @zbr4 <| And.intro @zbst <| @zbr6
theorem zb6a : ∀ (q N : Nat), 8 * q ≤ N → ∀ (a0 : (Sl Int)), ∀ (r : (Ow (Sl Int)) × Int), zlh q a0 = some r → (orc T N).deep F.zlh [(Sl.enc (V.int .u8)) a0] = some [(Ow.enc 1 (Sl.enc (V.int .u8))) r.1, (V.int .i64) r.2] := by
 intro q N hM a0 r h
 rcases q with _ | q
 ·cases h
 obtain ⟨M, rfl⟩ : ∃ M, N = M + 8 := ⟨N - 8, by omega⟩
 generalize hR : some [(Ow.enc 1 (Sl.enc (V.int .u8))) r.1, (V.int .i64) r.2] = R
 rw [zh3, zbn2, y4, zh1]
 rw [zlh] at h
 replace h := ob h; obtain ⟨r1, h1, h⟩ := h
 replace h1 := zb58 q (M + 7) (by omega) _ _ h1
 try simp only [kf, simprocAttr] at h1
 replace h := br h; rcases h with ⟨h2, h⟩ | ⟨h2, h⟩
 ·cases h; subst hR; simp only [zb59, simprocAttr, *]
 ·cases h; subst hR; simp only [zb59, simprocAttr, *]
def zb6b := And.intro @kk <| And.intro @ke <| And.intro @kn <| And.intro @zbyp <| @zbyr
theorem zb6c : ∀ (q N : Nat), 8 * q ≤ N → ∀ (a0 r : Int), zli q a0 = some r → (orc T N).deep F.zli [(V.int .u64) a0] = some [(V.int .i64) r] := by
 intro q N hM a0 r h
 rcases q with _ | q
 ·cases h
 obtain ⟨M, rfl⟩ : ∃ M, N = M + 8 := ⟨N - 8, by omega⟩
 generalize hR : some [(V.int .i64) r] = R
 rw [zh3, zbp9, y4, zh1]
 rw [zli] at h
 cases h; subst hR; simp only [zb6b, simprocAttr, *]
def zb6d := And.intro @kk <| And.intro @ke <| And.intro @kn <| And.intro @zbxv <| And.intro @zbvz <| And.intro @zbyq <| @zbxx
theorem zb6e : ∀ (q N : Nat), 8 * q ≤ N → ∀ (a0 : (Sl Int)), ∀ (r : Int × Int), zlj q a0 = some r → (orc T N).deep F.zlj [(Sl.enc (V.int .u8)) a0] = some [(V.int .i64) r.1, (V.int .i64) r.2] := by
 intro q N hM a0 r h
 rcases q with _ | q
 ·cases h
 obtain ⟨M, rfl⟩ : ∃ M, N = M + 8 := ⟨N - 8, by omega⟩
 generalize hR : some [(V.int .i64) r.1, (V.int .i64) r.2] = R
 rw [zh3, zbpz, y4, zh1]
 rw [zlj] at h
 replace h := ob h; obtain ⟨r1, h1, h⟩ := h
 replace h1 := zb5s q (M + 7) (by omega) _ _ h1
 try simp only [kf, simprocAttr] at h1
 replace h := br h; rcases h with ⟨h2, h⟩ | ⟨h2, h⟩
 ·cases h; subst hR; simp only [zb6d, simprocAttr, *]
 ·replace h := ob h; obtain ⟨r2, h3, h⟩ := h
  replace h3 := zb6c q (M + 7) (by omega) _ _ h3
  cases h; subst hR; simp only [zb6d, simprocAttr, *]
def zb6f := And.intro @kk <| And.intro @ke <| And.intro @kn <| And.intro @zbxy <| And.intro @zbys <| And.intro @zbza <| And.intro @zbzd <| And.intro @zbzg <| And.intro @zbue <| And.intro @zbuw <| And.intro @zbxw <| And.intro @zbyt <| And.intro @zbyu <| And.intro @zbzb <| And.intro @zbzc <| And.intro @zbze <| And.intro @zbzf <| And.intro @zbzh <| And.intro @zbzi <| @zbx0
theorem zb6g : ∀ (q N : Nat), 8 * q ≤ N → ∀ (a0 : (Sl Int)), ∀ (r : zjr × Int), zlk q a0 = some r → (orc T N).deep F.zlk [(Sl.enc (V.int .u8)) a0] = some [zjr.enc r.1, (V.int .i64) r.2] := by
 intro q N hM a0 r h
 rcases q with _ | q
 ·cases h
 obtain ⟨M, rfl⟩ : ∃ M, N = M + 8 := ⟨N - 8, by omega⟩
 generalize hR : some [zjr.enc r.1, (V.int .i64) r.2] = R
 rw [zh3, zbp0, y4, zh1]
 rw [zlk] at h
 replace h := ob h; obtain ⟨r1, h1, h⟩ := h
 replace h1 := zb5u q (M + 6) (by omega) _ _ h1
 try simp only [kf, simprocAttr] at h1
 replace h := bn h; obtain ⟨h2, h⟩ := h
 replace h := bn h; obtain ⟨h3, h⟩ := h
 replace h := ob h; obtain ⟨r2, h4, h⟩ := h
 replace h4 := zb6e q (M + 6) (by omega) _ _ h4
 try simp only [kf, simprocAttr] at h4
 replace h := br h; rcases h with ⟨h5, h⟩ | ⟨h5, h⟩
 ·replace h := bn h; obtain ⟨h6, h⟩ := h
  replace h := bn h; obtain ⟨h7, h⟩ := h
  replace h := ob h; obtain ⟨r3, h8, h⟩ := h
  replace h8 := zb6e q (M + 6) (by omega) _ _ h8
  try simp only [kf, simprocAttr] at h8
  replace h := br h; rcases h with ⟨h9, h⟩ | ⟨h9, h⟩
  ·replace h := bn h; obtain ⟨h10, h⟩ := h
   replace h := bn h; obtain ⟨h11, h⟩ := h
   replace h := br h; rcases h with ⟨h12, h⟩ | ⟨h12, h⟩
   ·replace h := ob h; obtain ⟨r4, h13, h⟩ := h
    replace h13 := zb3z q (M + 7) (by omega) _ _ h13
    try simp only [kf, simprocAttr] at h13
    replace h := bb h; rcases h with ⟨h14', h14, h⟩ | ⟨h14', h14, h⟩
    ·cases h; subst hR; simp only [zb6f, simprocAttr, *]
    ·cases h; subst hR; simp only [zb6f, simprocAttr, *]
   ·cases h; subst hR; simp only [zb6f, simprocAttr, *]
  ·replace h := bn h; obtain ⟨h15, h⟩ := h
   replace h := bn h; obtain ⟨h16, h⟩ := h
   cases h; subst hR; simp only [zb6f, simprocAttr, *]
 ·replace h := bn h; obtain ⟨h17, h⟩ := h
  replace h := bn h; obtain ⟨h18, h⟩ := h
  replace h := ob h; obtain ⟨r5, h19, h⟩ := h
  replace h19 := zb6e q (M + 6) (by omega) _ _ h19
  try simp only [kf, simprocAttr] at h19
  replace h := bn h; obtain ⟨h20, h⟩ := h
  replace h := bn h; obtain ⟨h21, h⟩ := h
  cases h; subst hR; simp only [zb6f, simprocAttr, *]
def zb6h (q : Nat) : Prop := ∀ (M : Nat) (hM : 8 * q ≤ M) (j : Nat) (hj : q ≤ j) (v3 v47_0 v47_1 v47_2 v47_3 v48 h0_1 h0_2 h0_3 h0_4 h0_5 h0_6 : Int) (r : zjs × Int) (_ : zll q v3 v47_0 v47_1 v47_2 v47_3 v48 h0_1 h0_2 h0_3 h0_4 h0_5 h0_6 = some r) (R : Option (List V)) (_ : some [zjs.enc r.1, (V.int .i64) r.2] = R) (fr : Fr) (H : Hp) (_ : canon 0 [2, 3, 47, 48] fr H = ([(2, (.ptr 0 0)), (3, (.int .i64 v3)), (47, (.agg [(.int .i64 v47_0), (.int .i64 v47_1), (.int .i64 v47_2), (.int .i64 v47_3)])), (48, (.int .i64 v48))], [(.box [(.int .i64 0), (.int .i64 h0_1), (.int .i64 h0_2), (.int .i64 h0_3), (.int .i64 h0_4), (.int .i64 h0_5), (.int .i64 h0_6)])])), fin zbbk (unw T (orc T (M + 7)) (M + 7) 0 [.blk 0, .code zba9] (iter 0 [2, 3, 47, 48] (exec T (orc T (M + 7)) (M + 7) 0 zba6) j fr H)) = R
def zb6i := And.intro @kk <| And.intro @ke <| And.intro @kn <| And.intro @zbv1 <| And.intro @zbue <| And.intro @zbxw <| And.intro @zbxz <| @zbv3
theorem zb6j (q : Nat) (zb7v : zb6h q) : zb6h (q + 1) := by
 intro M hM j hj v3 v47_0 v47_1 v47_2 v47_3 v48 h0_1 h0_2 h0_3 h0_4 h0_5 h0_6 r h R hR fr H hc
 obtain ⟨j, rfl⟩ : ∃ i, j = i + 1 := ⟨j - 1, by omega⟩
 rw [zhu, hc]; clear hc
 rw [zll] at h
 replace h := br h; rcases h with ⟨h1, h⟩ | ⟨h1, h⟩
 ·replace h := bn h; obtain ⟨h2, h⟩ := h
  replace h := bn h; obtain ⟨h3, h⟩ := h
  replace h := bc h; rcases h with ⟨h4, h⟩ | ⟨h4, h⟩
  ·replace h := br h; rcases h with ⟨h5, h⟩ | ⟨h5, h⟩
   ·cases h; subst hR; simp only [zb6i, simprocAttr, *]
   ·replace h := zb7v M (by omega) j (by omega) _ _ _ _ _ _ _ _ _ _ _ _ _ h R hR
    simp only [zb6i, simprocAttr, *]
  ·replace h := bc h; rcases h with ⟨h6, h⟩ | ⟨h6, h⟩
   ·replace h := br h; rcases h with ⟨h7, h⟩ | ⟨h7, h⟩
    ·cases h; subst hR; simp only [zb6i, simprocAttr, *]
    ·replace h := zb7v M (by omega) j (by omega) _ _ _ _ _ _ _ _ _ _ _ _ _ h R hR
     simp only [zb6i, simprocAttr, *]
   ·replace h := bc h; rcases h with ⟨h8, h⟩ | ⟨h8, h⟩
    ·replace h := br h; rcases h with ⟨h9, h⟩ | ⟨h9, h⟩
     ·cases h; subst hR; simp only [zb6i, simprocAttr, *]
     ·replace h := zb7v M (by omega) j (by omega) _ _ _ _ _ _ _ _ _ _ _ _ _ h R hR
      simp only [zb6i, simprocAttr, *]
    ·replace h := bc h; rcases h with ⟨h10, h⟩ | ⟨h10, h⟩
     ·replace h := br h; rcases h with ⟨h11, h⟩ | ⟨h11, h⟩
      ·cases h; subst hR; simp only [zb6i, simprocAttr, *]
      ·replace h := zb7v M (by omega) j (by omega) _ _ _ _ _ _ _ _ _ _ _ _ _ h R hR
       simp only [zb6i, simprocAttr, *]
     ·cases h
 ·cases h; subst hR; simp only [zb6i, simprocAttr, *]
theorem zb6k : ∀ q, zb6h q
 | 0 => by intro M hM j hj; intros; rename_i h _ _ _ _ _; cases h
 | q + 1 => by have i0 := zb6k q; exact zb6j q i0
theorem zb6l : ∀ (q N : Nat), 8 * q ≤ N → ∀ (a0 : (Sl Int)), ∀ (r : zjs × Int), zlm q a0 = some r → (orc T N).deep F.zlm [(Sl.enc (V.int .u8)) a0] = some [zjs.enc r.1, (V.int .i64) r.2] := by
 intro q N hM a0 r h
 rcases q with _ | q
 ·cases h
 obtain ⟨M, rfl⟩ : ∃ M, N = M + 8 := ⟨N - 8, by omega⟩
 have zb7v := (zb6k q)
 generalize hR : some [zjs.enc r.1, (V.int .i64) r.2] = R
 rw [zh3, zbpd, y4, zh1]
 rw [zlm] at h
 replace h := ob h; obtain ⟨r1, h1, h⟩ := h
 replace h1 := zb5u q (M + 7) (by omega) _ _ h1
 try simp only [kf, simprocAttr] at h1
 replace h := bn h; obtain ⟨h2, h⟩ := h
 replace h := bn h; obtain ⟨h3, h⟩ := h
 replace h := ob h; obtain ⟨r2, h4, h⟩ := h
 replace h4 := zb6e q (M + 7) (by omega) _ _ h4
 try simp only [kf, simprocAttr] at h4
 replace h := bn h; obtain ⟨h5, h⟩ := h
 replace h := bn h; obtain ⟨h6, h⟩ := h
 replace h := ob h; obtain ⟨r3, h7, h⟩ := h
 replace h7 := zb6g q (M + 7) (by omega) _ _ h7
 try simp only [kf, simprocAttr] at h7
 replace h := bn h; obtain ⟨h8, h⟩ := h
 replace h := bn h; obtain ⟨h9, h⟩ := h
 replace h := ob h; obtain ⟨r4, h10, h⟩ := h
 replace h10 := zb6e q (M + 7) (by omega) _ _ h10
 try simp only [kf, simprocAttr] at h10
 replace h := zb7v M (by omega) (M + 7) (by omega) _ _ _ _ _ _ _ _ _ _ _ _ _ h R hR
 simp only [zb6i, simprocAttr, *]
def zb6m := And.intro @kk <| And.intro @ke <| And.intro @kn <| And.intro @zbsa <| @zbsc
theorem zb6n : ∀ (q N : Nat), 8 * q ≤ N → ∀ (a0 a1 : (Sl Int)), ∀ (r : Bool), zln q a0 a1 = some r → (orc T N).deep F.zln [(Sl.enc (V.int .u8)) a0, (Sl.enc (V.int .u8)) a1] = some [V.bool r] := by
 intro q N hM a0 a1 r h
 rcases q with _ | q
 ·cases h
 obtain ⟨M, rfl⟩ : ∃ M, N = M + 8 := ⟨N - 8, by omega⟩
 generalize hR : some [V.bool r] = R
 rw [zh3, zbn4, y4, zh1]
 rw [zln] at h
 cases h; subst hR; simp only [zb6m, simprocAttr, *]
def zb6o (q : Nat) : Prop := ∀ (M : Nat) (hM : 8 * q ≤ M) (j : Nat) (hj : q ≤ j) (v0z : Bool) (v0l : List Int) (v4 : Int) (v10z : Bool) (v10l : List Int) (v44 v45 : Int) (h0m : List (Int × Int)) (h1z : Bool) (h1l : List zjs) (r : (Ow zjs) × Int) (_ : zlo q v0z v0l v4 v10z v10l v44 v45 h0m h1z h1l = some r) (R : Option (List V)) (_ : some [(Ow.enc 7 zjs.enc) r.1, (V.int .i64) r.2] = R) (fr : Fr) (H : Hp) (_ : canon 0 [0, 4, 8, 9, 10, 44, 45] fr H = ([(0, (.sl v0z (List.map (V.int .u8) v0l))), (4, (.int .i64 v4)), (8, (.mp 0)), (9, (.vw 1 0 0 h1l.length 1)), (10, (.sl v10z (List.map (V.int .u8) v10l))), (44, (.int .i64 v44)), (45, (.int .i64 v45))], [(.map h0m), (.row 0 h1z 7 (List.map zjs.enc h1l) true)])), fin z22 (unw T (orc T (M + 7)) (M + 7) 0 [.blk 0, .code z2t] (iter 0 [0, 4, 8, 9, 10, 44, 45] (exec T (orc T (M + 7)) (M + 7) 0 z2k) j fr H)) = R
def zb6p := And.intro @kk <| And.intro @ke <| And.intro @kn <| And.intro @zbug <| And.intro @zbsb <| And.intro @zbue <| And.intro @zbuz <| And.intro @zbv2 <| @zbui
theorem zb6q (q : Nat) (zb7w : zb6o q) : zb6o (q + 1) := by
 intro M hM j hj v0z v0l v4 v10z v10l v44 v45 h0m h1z h1l r h R hR fr H hc
 obtain ⟨j, rfl⟩ : ∃ i, j = i + 1 := ⟨j - 1, by omega⟩
 rw [zhu, hc]; clear hc
 rw [zlo] at h
 replace h := br h; rcases h with ⟨h1, h⟩ | ⟨h1, h⟩
 ·replace h := ob h; obtain ⟨r3, h2, h⟩ := h
  replace h2 := zb6l q (M + 7) (by omega) _ _ h2
  try simp only [kf, simprocAttr] at h2
  replace h := br h; rcases h with ⟨h3, h⟩ | ⟨h3, h⟩
  ·cases h; subst hR; simp only [zb6p, simprocAttr, *]
  ·replace h := bn h; obtain ⟨h4, h⟩ := h
   replace h := bn h; obtain ⟨h5, h⟩ := h
   replace h := bn h; obtain ⟨h6, h⟩ := h
   replace h := zb7w M (by omega) j (by omega) _ _ _ _ _ _ _ _ _ _ _ h R hR
   simp only [zb6p, simprocAttr, *]
 ·replace h := ob h; obtain ⟨r4, h7, h⟩ := h
  replace h7 := zb4m q (M + 7) (by omega) _ _ h7
  try simp only [kf, simprocAttr] at h7
  replace h := br h; rcases h with ⟨h8, h⟩ | ⟨h8, h⟩
  ·replace h := ob h; obtain ⟨r5, h9, h⟩ := h
   replace h9 := zb6n q (M + 7) (by omega) _ _ _ h9
   try simp only [kf, simprocAttr] at h9
   replace h := bb h; rcases h with ⟨h10', h10, h⟩ | ⟨h10', h10, h⟩
   ·cases h; subst hR; simp only [zb6p, simprocAttr, *]
   ·cases h; subst hR; simp only [zb6p, simprocAttr, *]
  ·cases h; subst hR; simp only [zb6p, simprocAttr, *]
theorem zb6r : ∀ q, zb6o q
 | 0 => by intro M hM j hj; intros; rename_i h _ _ _ _ _; cases h
 | q + 1 => by have i0 := zb6r q; exact zb6q q i0
theorem zb6s : ∀ (q N : Nat), 8 * q ≤ N → ∀ (a0 : (Sl Int)), ∀ (r : (Ow zjs) × Int), zlp q a0 = some r → (orc T N).deep F.zlp [(Sl.enc (V.int .u8)) a0] = some [(Ow.enc 7 zjs.enc) r.1, (V.int .i64) r.2] := by
 intro q N hM a0 r h
 rcases q with _ | q
 ·cases h
 obtain ⟨M, rfl⟩ : ∃ M, N = M + 8 := ⟨N - 8, by omega⟩
 have zb7w := (zb6r q)
 generalize hR : some [(Ow.enc 7 zjs.enc) r.1, (V.int .i64) r.2] = R
 rw [zh3, zbou, y4, zh1]
 rw [zlp] at h
 replace h := ob h; obtain ⟨r1, h1, h⟩ := h
 replace h1 := zb5u q (M + 7) (by omega) _ _ h1
 try simp only [kf, simprocAttr] at h1
 replace h := bn h; obtain ⟨h2, h⟩ := h
 replace h := bn h; obtain ⟨h3, h⟩ := h
 replace h := ob h; obtain ⟨r2, h4, h⟩ := h
 replace h4 := zb5u q (M + 7) (by omega) _ _ h4
 try simp only [kf, simprocAttr] at h4
 replace h := br h; rcases h with ⟨h5, h⟩ | ⟨h5, h⟩
 ·cases h; subst hR; simp only [zb6p, simprocAttr, *]
 ·replace h := br h; rcases h with ⟨h6, h⟩ | ⟨h6, h⟩
  ·cases h; subst hR; simp only [zb6p, simprocAttr, *]
  ·replace h := br h; rcases h with ⟨h7, h⟩ | ⟨h7, h⟩
   ·cases h; subst hR; simp only [zb6p, simprocAttr, *]
   ·replace h := bn h; obtain ⟨h8, h⟩ := h
    replace h := bn h; obtain ⟨h9, h⟩ := h
    replace h := zb7w M (by omega) (M + 7) (by omega) _ _ _ _ _ _ _ _ _ _ _ h R hR
    simp only [zb6p, simprocAttr, *]
def zb6t := And.intro @kk <| And.intro @ke <| And.intro @kn <| And.intro @zbyv <| @zbyx
theorem zb6u : ∀ (q N : Nat), 8 * q ≤ N → ∀ (a0 : (Sl Int)), ∀ (r : (Ow Int)), zlq q a0 = some r → (orc T N).deep F.zlq [(Sl.enc (V.int .i64)) a0] = some [(Ow.enc 1 (V.int .i64)) r] := by
 intro q N hM a0 r h
 rcases q with _ | q
 ·cases h
 obtain ⟨M, rfl⟩ : ∃ M, N = M + 8 := ⟨N - 8, by omega⟩
 generalize hR : some [(Ow.enc 1 (V.int .i64)) r] = R
 rw [zh3, zbqb, y4, zh1]
 rw [zlq] at h
 replace h := bb h; rcases h with ⟨h1', h1, h⟩ | ⟨h1', h1, h⟩
 ·cases h; subst hR; simp only [zb6t, simprocAttr, *]
 ·replace h := bn h; obtain ⟨h2, h⟩ := h
  cases h; subst hR; simp only [zb6t, simprocAttr, *]
def zb6v (q : Nat) : Prop := ∀ (M : Nat) (hM : 8 * q ≤ M) (j : Nat) (hj : q ≤ j) (v0z : Bool) (v0l : List Int) (v1 v7 v8 r : Int) (_ : zlr q v0z v0l v1 v7 v8 = some r) (R : Option (List V)) (_ : some [(V.int .i64) r] = R) (fr : Fr) (H : Hp) (_ : canon 0 [0, 1, 7, 8] fr H = ([(0, (.sl v0z (List.map (V.int .i64) v0l))), (1, (.int .i64 v1)), (7, (.int .i64 v7)), (8, (.int .i64 v8))], [])), fin zbli (unw T (orc T (M + 7)) (M + 7) 0 [.blk 0, .code zblf] (iter 0 [0, 1, 7, 8] (exec T (orc T (M + 7)) (M + 7) 0 zblc) j fr H)) = R
def zb6w := And.intro @kk <| And.intro @ke <| And.intro @kn <| And.intro @zbyy <| @zby0
theorem zb6x (q : Nat) (zb7x : zb6v q) : zb6v (q + 1) := by
 intro M hM j hj v0z v0l v1 v7 v8 r h R hR fr H hc
 obtain ⟨j, rfl⟩ : ∃ i, j = i + 1 := ⟨j - 1, by omega⟩
 rw [zhu, hc]; clear hc
 rw [zlr] at h
 replace h := br h; rcases h with ⟨h1, h⟩ | ⟨h1, h⟩
 ·replace h := bn h; obtain ⟨h2, h⟩ := h
  replace h := ob h; obtain ⟨e1, h3, h⟩ := h
  replace h := br h; rcases h with ⟨h4, h⟩ | ⟨h4, h⟩
  ·cases h; subst hR; simp only [zb6w, simprocAttr, *]
  ·replace h := zb7x M (by omega) j (by omega) _ _ _ _ _ _ h R hR
   simp only [zb6w, simprocAttr, *]
 ·cases h; subst hR; simp only [zb6w, simprocAttr, *]
theorem zb6y : ∀ q, zb6v q
 | 0 => by intro M hM j hj; intros; rename_i h _ _ _ _ _; cases h
 | q + 1 => by have i0 := zb6y q; exact zb6x q i0
theorem zb6z : ∀ (q N : Nat), 8 * q ≤ N → ∀ (a0 : (Sl Int)) (a1 : Int), ∀ (r : Int), zls q a0 a1 = some r → (orc T N).deep F.zls [(Sl.enc (V.int .i64)) a0, (V.int .i64) a1] = some [(V.int .i64) r] := by
 intro q N hM a0 a1 r h
 rcases q with _ | q
 ·cases h
 obtain ⟨M, rfl⟩ : ∃ M, N = M + 8 := ⟨N - 8, by omega⟩
 have zb7x := (zb6y q)
 generalize hR : some [(V.int .i64) r] = R
 rw [zh3, zbqc, y4, zh1]
 rw [zls] at h
 replace h := zb7x M (by omega) (M + 7) (by omega) _ _ _ _ _ _ h R hR
 simp only [zb6w, simprocAttr, *]
def zb60 := And.intro @kk <| And.intro @ke <| And.intro @kn <| And.intro @zby1 <| @zby3
theorem zb61 : ∀ (q N : Nat), 8 * q ≤ N → ∀ (a0 : (Ow Int)) (a1 a2 : Int), ∀ (r : (Ow Int)), zlt q a0 a1 a2 = some r → (orc T N).deep F.zlt [(Ow.enc 1 (V.int .i64)) a0, (V.int .i64) a1, (V.int .i64) a2] = some [(Ow.enc 1 (V.int .i64)) r] := by
 intro q N hM a0 a1 a2 r h
 rcases q with _ | q
 ·cases h
 obtain ⟨M, rfl⟩ : ∃ M, N = M + 8 := ⟨N - 8, by omega⟩
 generalize hR : some [(Ow.enc 1 (V.int .i64)) r] = R
 rw [zh3, zbqd, y4, zh1]
 rw [zlt] at h
 replace h := bn h; obtain ⟨h1, h⟩ := h
 replace h := bn h; obtain ⟨h2, h⟩ := h
 replace h := bn h; obtain ⟨h3, h⟩ := h
 replace h := br h; rcases h with ⟨h4, h⟩ | ⟨h4, h⟩
 ·cases h; subst hR; simp only [zb60, simprocAttr, *]
 ·replace h := bn h; obtain ⟨h5, h⟩ := h
  replace h := bb h; rcases h with ⟨h6', h6, h⟩ | ⟨h6', h6, h⟩
  ·replace h := bn h; obtain ⟨h7, h⟩ := h
   replace h := bn h; obtain ⟨h8, h⟩ := h
   replace h := bn h; obtain ⟨h9, h⟩ := h
   replace h := bn h; obtain ⟨h10, h⟩ := h
   replace h := bn h; obtain ⟨h11, h⟩ := h
   replace h := bm h; obtain ⟨h12, h⟩ := h
   replace h := bb h; rcases h with ⟨h13', h13, h⟩ | ⟨h13', h13, h⟩
   ·cases h; subst hR; simp only [zb60, simprocAttr, *]
   ·cases h
  ·replace h := bn h; obtain ⟨h14, h⟩ := h
   replace h := bn h; obtain ⟨h15, h⟩ := h
   replace h := bn h; obtain ⟨h16, h⟩ := h
   replace h := bb h; rcases h with ⟨h17', h17, h⟩ | ⟨h17', h17, h⟩
   ·replace h := bn h; obtain ⟨h18, h⟩ := h
    replace h := bn h; obtain ⟨h19, h⟩ := h
    cases h; subst hR; simp only [zb60, simprocAttr, *]
   ·cases h
def zb62 := And.intro @kk <| And.intro @ke <| And.intro @kn <| And.intro @zby7 <| And.intro @zbue <| @zby9
theorem zb63 : ∀ (q N : Nat), 8 * q ≤ N → ∀ (a0 : (Sl Int)), ∀ (r : Int), zlu q a0 = some r → (orc T N).deep F.zlu [(Sl.enc (V.int .u8)) a0] = some [(V.int .i64) r] := by
 intro q N hM a0 r h
 rcases q with _ | q
 ·cases h
 obtain ⟨M, rfl⟩ : ∃ M, N = M + 8 := ⟨N - 8, by omega⟩
 generalize hR : some [(V.int .i64) r] = R
 rw [zh3, zbqf, y4, zh1]
 rw [zlu] at h
 replace h := ob h; obtain ⟨r1, h1, h⟩ := h
 replace h1 := zb5u q (M + 7) (by omega) _ _ h1
 try simp only [kf, simprocAttr] at h1
 replace h := br h; rcases h with ⟨h2, h⟩ | ⟨h2, h⟩
 ·cases h; subst hR; simp only [zb62, simprocAttr, *]
 ·replace h := br h; rcases h with ⟨h3, h⟩ | ⟨h3, h⟩
  ·cases h; subst hR; simp only [zb62, simprocAttr, *]
  ·cases h; subst hR; simp only [zb62, simprocAttr, *]
def zb64 (q : Nat) : Prop := ∀ (M : Nat) (hM : 8 * q ≤ M) (j : Nat) (hj : q ≤ j) (v0 : Int) (v1z : Bool) (v1l : List Int) (v7 h0_0 h0_1 h0_2 h0_3 h0_4 h0_5 h0_6 : Int) (h1z : Bool) (h1l : List Int) (h1x : Bool) (r : zjs × Int) (_ : zlv q v0 v1z v1l v7 h0_0 h0_1 h0_2 h0_3 h0_4 h0_5 h0_6 h1z h1l h1x = some r) (R : Option (List V)) (_ : some [zjs.enc r.1, (V.int .i64) r.2] = R) (fr : Fr) (H : Hp) (_ : canon 0 [0, 1, 4, 6, 7] fr H = ([(0, (.int .i64 v0)), (1, (.sl v1z (List.map (V.int .u8) v1l))), (4, (.ptr 0 0)), (6, (.vw 1 0 0 h1l.length 1)), (7, (.int .i64 v7))], [(.box [(.int .i64 h0_0), (.int .i64 h0_1), (.int .i64 h0_2), (.int .i64 h0_3), (.int .i64 h0_4), (.int .i64 h0_5), (.int .i64 h0_6)]), (.row 0 h1z 1 (List.map (V.int .i64) h1l) h1x)])), fin zbhd (unw T (orc T (M + 7)) (M + 7) 0 [.blk 0, .code zbg9] (iter 0 [0, 1, 4, 6, 7] (exec T (orc T (M + 7)) (M + 7) 0 zbgz) j fr H)) = R
def zb65 := And.intro @kk <| And.intro @ke <| And.intro @kn <| And.intro @zbx1 <| And.intro @zby4 <| And.intro @zbtb <| And.intro @zbue <| And.intro @zbwk <| And.intro @zbxw <| And.intro @zbxz <| And.intro @zbyw <| And.intro @zbyz <| And.intro @zby2 <| And.intro @zby8 <| And.intro @zby5 <| And.intro @zby6 <| @zbx3
theorem zb66 (q : Nat) (zb7y : zb64 q) : zb64 (q + 1) := by
 intro M hM j hj v0 v1z v1l v7 h0_0 h0_1 h0_2 h0_3 h0_4 h0_5 h0_6 h1z h1l h1x r h R hR fr H hc
 obtain ⟨j, rfl⟩ : ∃ i, j = i + 1 := ⟨j - 1, by omega⟩
 rw [zhu, hc]; clear hc
 rw [zlv] at h
 replace h := br h; rcases h with ⟨h1, h⟩ | ⟨h1, h⟩
 ·replace h := ob h; obtain ⟨r3, h2, h⟩ := h
  replace h2 := zb5u q (M + 7) (by omega) _ _ h2
  try simp only [kf, simprocAttr] at h2
  replace h := br h; rcases h with ⟨h3, h⟩ | ⟨h3, h⟩
  ·cases h; subst hR; simp only [zb65, simprocAttr, *]
  ·replace h := br h; rcases h with ⟨h4, h⟩ | ⟨h4, h⟩
   ·cases h; subst hR; simp only [zb65, simprocAttr, *]
   ·replace h := bn h; obtain ⟨h5, h⟩ := h
    replace h := bn h; obtain ⟨h6, h⟩ := h
    replace h := ob h; obtain ⟨r4, h7, h⟩ := h
    replace h7 := zb6z q (M + 7) (by omega) _ _ _ h7
    try simp only [kf, simprocAttr] at h7
    replace h := br h; rcases h with ⟨h8, h⟩ | ⟨h8, h⟩
    ·replace h := ob h; obtain ⟨r5, h9, h⟩ := h
     replace h9 := zb61 q (M + 7) (by omega) _ _ _ _ h9
     try simp only [kf, simprocAttr] at h9
     replace h := br h; rcases h with ⟨h10, h⟩ | ⟨h10, h⟩
     ·replace h := ob h; obtain ⟨r6, h11, h⟩ := h
      replace h11 := zb5u q (M + 6) (by omega) _ _ h11
      try simp only [kf, simprocAttr] at h11
      replace h := br h; rcases h with ⟨h12, h⟩ | ⟨h12, h⟩
      ·cases h; subst hR; simp only [zb65, simprocAttr, *]
      ·replace h := bn h; obtain ⟨h13, h⟩ := h
       replace h := bn h; obtain ⟨h14, h⟩ := h
       replace h := zb7y M (by omega) j (by omega) _ _ _ _ _ _ _ _ _ _ _ _ _ _ _ h R hR
       simp only [zb65, simprocAttr, *]
     ·replace h := br h; rcases h with ⟨h15, h⟩ | ⟨h15, h⟩
      ·replace h := ob h; obtain ⟨r7, h16, h⟩ := h
       replace h16 := zb5u q (M + 6) (by omega) _ _ h16
       try simp only [kf, simprocAttr] at h16
       replace h := br h; rcases h with ⟨h17, h⟩ | ⟨h17, h⟩
       ·cases h; subst hR; simp only [zb65, simprocAttr, *]
       ·replace h := bn h; obtain ⟨h18, h⟩ := h
        replace h := bn h; obtain ⟨h19, h⟩ := h
        replace h := zb7y M (by omega) j (by omega) _ _ _ _ _ _ _ _ _ _ _ _ _ _ _ h R hR
        simp only [zb65, simprocAttr, *]
      ·replace h := br h; rcases h with ⟨h20, h⟩ | ⟨h20, h⟩
       ·replace h := ob h; obtain ⟨r8, h21, h⟩ := h
        replace h21 := zb5u q (M + 6) (by omega) _ _ h21
        try simp only [kf, simprocAttr] at h21
        replace h := br h; rcases h with ⟨h22, h⟩ | ⟨h22, h⟩
        ·cases h; subst hR; simp only [zb65, simprocAttr, *]
        ·replace h := bn h; obtain ⟨h23, h⟩ := h
         replace h := bn h; obtain ⟨h24, h⟩ := h
         replace h := zb7y M (by omega) j (by omega) _ _ _ _ _ _ _ _ _ _ _ _ _ _ _ h R hR
         simp only [zb65, simprocAttr, *]
       ·replace h := br h; rcases h with ⟨h25, h⟩ | ⟨h25, h⟩
        ·replace h := ob h; obtain ⟨r9, h26, h⟩ := h
         replace h26 := zb6g q (M + 6) (by omega) _ _ h26
         try simp only [kf, simprocAttr] at h26
         replace h := br h; rcases h with ⟨h27, h⟩ | ⟨h27, h⟩
         ·cases h; subst hR; simp only [zb65, simprocAttr, *]
         ·replace h := bn h; obtain ⟨h28, h⟩ := h
          replace h := bn h; obtain ⟨h29, h⟩ := h
          replace h := zb7y M (by omega) j (by omega) _ _ _ _ _ _ _ _ _ _ _ _ _ _ _ h R hR
          simp only [zb65, simprocAttr, *]
        ·replace h := br h; rcases h with ⟨h30, h⟩ | ⟨h30, h⟩
         ·replace h := ob h; obtain ⟨r10, h31, h⟩ := h
          replace h31 := zb6e q (M + 6) (by omega) _ _ h31
          try simp only [kf, simprocAttr] at h31
          replace h := br h; rcases h with ⟨h32, h⟩ | ⟨h32, h⟩
          ·cases h; subst hR; simp only [zb65, simprocAttr, *]
          ·replace h := bn h; obtain ⟨h33, h⟩ := h
           replace h := bn h; obtain ⟨h34, h⟩ := h
           replace h := zb7y M (by omega) j (by omega) _ _ _ _ _ _ _ _ _ _ _ _ _ _ _ h R hR
           simp only [zb65, simprocAttr, *]
         ·cases h; subst hR; simp only [zb65, simprocAttr, *]
    ·replace h := br h; rcases h with ⟨h35, h⟩ | ⟨h35, h⟩
     ·cases h; subst hR; simp only [zb65, simprocAttr, *]
     ·replace h := br h; rcases h with ⟨h36, h⟩ | ⟨h36, h⟩
      ·cases h; subst hR; simp only [zb65, simprocAttr, *]
      ·replace h := ob h; obtain ⟨r11, h37, h⟩ := h
       replace h37 := zb63 q (M + 7) (by omega) _ _ h37
       try simp only [kf, simprocAttr] at h37
       replace h := br h; rcases h with ⟨h38, h⟩ | ⟨h38, h⟩
       ·cases h; subst hR; simp only [zb65, simprocAttr, *]
       ·replace h := bn h; obtain ⟨h39, h⟩ := h
        replace h := bn h; obtain ⟨h40, h⟩ := h
        replace h := zb7y M (by omega) j (by omega) _ _ _ _ _ _ _ _ _ _ _ _ _ _ _ h R hR
        simp only [zb65, simprocAttr, *]
 ·replace h := br h; rcases h with ⟨h41, h⟩ | ⟨h41, h⟩
  ·cases h; subst hR; simp only [zb65, simprocAttr, *]
  ·replace h := ob h; obtain ⟨r12, h42, h⟩ := h
   replace h42 := zb31 q (M + 7) (by omega) _ _ h42
   try simp only [kf, simprocAttr] at h42
   replace h := bb h; rcases h with ⟨h43', h43, h⟩ | ⟨h43', h43, h⟩
   ·cases h; subst hR; simp only [zb65, simprocAttr, *]
   ·cases h; subst hR; simp only [zb65, simprocAttr, *]
theorem zb67 : ∀ q, zb64 q
 | 0 => by intro M hM j hj; intros; rename_i h _ _ _ _ _; cases h
 | q + 1 => by have i0 := zb67 q; exact zb66 q i0
theorem zb68 : ∀ (q N : Nat), 8 * q ≤ N → ∀ (a0 : Int) (a1 : (Sl Int)), ∀ (r : zjs × Int), zlw q a0 a1 = some r → (orc T N).deep F.zlw [(V.int .i64) a0, (Sl.enc (V.int .u8)) a1] = some [zjs.enc r.1, (V.int .i64) r.2] := by
 intro q N hM a0 a1 r h
 rcases q with _ | q
 ·cases h
 obtain ⟨M, rfl⟩ : ∃ M, N = M + 8 := ⟨N - 8, by omega⟩
 have zb7y := (zb67 q)
 generalize hR : some [zjs.enc r.1, (V.int .i64) r.2] = R
 rw [zh3, zbp1, y4, zh1]
 rw [zlw] at h
 replace h := ob h; obtain ⟨r1, h1, h⟩ := h
 replace h1 := zb4o q (M + 7) (by omega) _ _ h1
 try simp only [kf, simprocAttr] at h1
 replace h := ob h; obtain ⟨r2, h2, h⟩ := h
 replace h2 := zb6u q (M + 7) (by omega) _ _ h2
 try simp only [kf, simprocAttr] at h2
 replace h := zb7y M (by omega) (M + 7) (by omega) _ _ _ _ _ _ _ _ _ _ _ _ _ _ _ h R hR
 simp only [zb65, simprocAttr, *]
def zb69 := And.intro @kk <| And.intro @ke <| And.intro @kn <| And.intro @zbv4 <| And.intro @zbue <| And.intro @zbwk <| And.intro @zbx2 <| @zbv6
theorem zb7a : ∀ (q N : Nat), 8 * q ≤ N → ∀ (a0 : (Sl Int)), ∀ (r : zjs × Int), zlx q a0 = some r → (orc T N).deep F.zlx [(Sl.enc (V.int .u8)) a0] = some [zjs.enc r.1, (V.int .i64) r.2] := by
 intro q N hM a0 r h
 rcases q with _ | q
 ·cases h
 obtain ⟨M, rfl⟩ : ∃ M, N = M + 8 := ⟨N - 8, by omega⟩
 generalize hR : some [zjs.enc r.1, (V.int .i64) r.2] = R
 rw [zh3, zbpe, y4, zh1]
 rw [zlx] at h
 replace h := br h; rcases h with ⟨h1, h⟩ | ⟨h1, h⟩
 ·cases h; subst hR; simp only [zb69, simprocAttr, *]
 ·replace h := ob h; obtain ⟨r1, h2, h⟩ := h
  replace h2 := zb5u q (M + 7) (by omega) _ _ h2
  try simp only [kf, simprocAttr] at h2
  replace h := br h; rcases h with ⟨h3, h⟩ | ⟨h3, h⟩
  ·cases h; subst hR; simp only [zb69, simprocAttr, *]
  ·replace h := ob h; obtain ⟨r2, h4, h⟩ := h
   replace h4 := zb4o q (M + 7) (by omega) _ _ h4
   try simp only [kf, simprocAttr] at h4
   replace h := bb h; rcases h with ⟨h5', h5, h⟩ | ⟨h5', h5, h⟩
   ·cases h; subst hR; simp only [zb69, simprocAttr, *]
   ·replace h := bn h; obtain ⟨h6, h⟩ := h
    replace h := bn h; obtain ⟨h7, h⟩ := h
    replace h := ob h; obtain ⟨r3, h8, h⟩ := h
    replace h8 := zb68 q (M + 7) (by omega) _ _ _ h8
    try simp only [kf, simprocAttr] at h8
    replace h := br h; rcases h with ⟨h9, h⟩ | ⟨h9, h⟩
    ·cases h; subst hR; simp only [zb69, simprocAttr, *]
    ·cases h; subst hR; simp only [zb69, simprocAttr, *]
end Go.Dvm.C
