/- The machine comes to these answers: part 3. -/
import Derived.Test.YtngajodhbioheaaQl0
import Derived.Test.YtngajodhbioheaaQr0
import Derived.Test.YtngajodhbioheaaQr1
set_option linter.all false
set_option maxRecDepth 100000
set_option maxHeartbeats 4000000
namespace Go.Dvm.C
open Go Go.Dvm Go.Dvm.I
def zbsk (q : Nat) : Prop := ∀ (M : Nat) (hM : 8 * q ≤ M) (j : Nat) (hj : q ≤ j) (v0z : Bool) (v0l : List (Sl Int)) (v3 : Int) (v9z : Bool) (v9l : List (Sl Int)) (v10 v11 : Int) (r : (Ow Int)) (_ : znl q v0z v0l v3 v9z v9l v10 v11 = some r) (R : Option (List V)) (_ : some [(Ow.enc 1 (V.int .u8)) r] = R) (fr : Fr) (H : Hp) (_ : canon 0 [0, 3, 9, 10, 11] fr H = ([(0, (.sl v0z (List.map (Sl.enc (V.int .u8)) v0l))), (3, (.int .i64 v3)), (9, (.sl v9z (List.map (Sl.enc (V.int .u8)) v9l))), (10, (.int .i64 v10)), (11, (.int .i64 v11))], [])), fin zyl (unw T (orc T (M + 7)) (M + 7) 0 [.blk 0, .code zyh] (iter 0 [0, 3, 9, 10, 11] (exec T (orc T (M + 7)) (M + 7) 0 zx0) j fr H)) = R
def zbsl (q : Nat) : Prop := ∀ (M : Nat) (hM : 8 * q ≤ M) (j : Nat) (hj : q ≤ j) (v6len : Nat) (v25z : Bool) (v25l : List (Sl Int)) (v26 v27 : Int) (h0z : Bool) (h0l : List Int) (r : (Ow Int)) (_ : zni q v6len v25z v25l v26 v27 h0z h0l = some r) (R : Option (List V)) (_ : some [(Ow.enc 1 (V.int .u8)) r] = R) (fr : Fr) (H : Hp) (_ : canon 0 [6, 25, 26, 27] fr H = ([(6, (.vw 0 0 0 v6len 0)), (25, (.sl v25z (List.map (Sl.enc (V.int .u8)) v25l))), (26, (.int .i64 v26)), (27, (.int .i64 v27))], [(.row 0 h0z 1 (List.map (V.int .u8) h0l) true)])), fin zyl (unw T (orc T (M + 7)) (M + 7) 0 [.blk 2, .code zyf] (iter 0 [6, 25, 26, 27] (exec T (orc T (M + 7)) (M + 7) 0 zyc) j fr H)) = R
def zbsm (q : Nat) : Prop := ∀ (M : Nat) (hM : 8 * q ≤ M) (j : Nat) (hj : q ≤ j) (v25z : Bool) (v25l : List (Sl Int)) (v26 : Int) (r : (Ow Int)) (_ : znk q v25z v25l v26 = some r) (R : Option (List V)) (_ : some [(Ow.enc 1 (V.int .u8)) r] = R) (fr : Fr) (H : Hp) (_ : canon 0 [6, 25, 26, 27] fr H = ([(6, (.sl true [])), (25, (.sl v25z (List.map (Sl.enc (V.int .u8)) v25l))), (26, (.int .i64 v26)), (27, (.int .i64 0))], [])), fin zyl (unw T (orc T (M + 7)) (M + 7) 0 [.blk 2, .code zyf] (iter 0 [6, 25, 26, 27] (exec T (orc T (M + 7)) (M + 7) 0 zyc) j fr H)) = R
def zbsn (q : Nat) : Prop := ∀ (M : Nat) (hM : 8 * q ≤ M) (j : Nat) (hj : q ≤ j) (v25z : Bool) (v25l : List (Sl Int)) (v26 v27 : Int) (h0z : Bool) (h0l : List Int) (r : (Ow Int)) (_ : znj q v25z v25l v26 v27 h0z h0l = some r) (R : Option (List V)) (_ : some [(Ow.enc 1 (V.int .u8)) r] = R) (fr : Fr) (H : Hp) (_ : canon 0 [6, 25, 26, 27] fr H = ([(6, (.vw 0 0 0 h0l.length 1)), (25, (.sl v25z (List.map (Sl.enc (V.int .u8)) v25l))), (26, (.int .i64 v26)), (27, (.int .i64 v27))], [(.row 0 h0z 1 (List.map (V.int .u8) h0l) true)])), fin zyl (unw T (orc T (M + 7)) (M + 7) 0 [.blk 2, .code zyf] (iter 0 [6, 25, 26, 27] (exec T (orc T (M + 7)) (M + 7) 0 zyc) j fr H)) = R
def zbso := And.intro @kk <| And.intro @ke <| And.intro @kn <| And.intro @zbdt <| And.intro @zbfn <| And.intro @zbfo <| And.intro @zbfp <| @zbdv
theorem zbsp (q : Nat) (zbs8 : zbsk q) (zbs9 : zbsl q) (zbta : zbsm q) : zbsk (q + 1) := by
 intro M hM j hj v0z v0l v3 v9z v9l v10 v11 r h R hR fr H hc
 obtain ⟨j, rfl⟩ : ∃ i, j = i + 1 := ⟨j - 1, by omega⟩
 rw [zho, hc]; clear hc
 rw [znl] at h
 replace h := br h; rcases h with ⟨h1, h⟩ | ⟨h1, h⟩
 ·replace h := bn h; obtain ⟨h2, h⟩ := h
  replace h := ob h; obtain ⟨e1, h3, h⟩ := h
  replace h := bm h; obtain ⟨h4, h⟩ := h
  replace h := zbs8 M (by omega) j (by omega) _ _ _ _ _ _ _ _ h R hR
  simp only [zbso, simprocAttr, *]
 ·replace h := bm h; obtain ⟨h5, h⟩ := h
  replace h := br h; rcases h with ⟨h6, h⟩ | ⟨h6, h⟩
  ·replace h := bn h; obtain ⟨h7, h⟩ := h
   replace h := bn h; obtain ⟨h8, h⟩ := h
   replace h := bm h; obtain ⟨h9, h⟩ := h
   replace h := zbs9 M (by omega) (M + 7) (by omega) _ _ _ _ _ _ _ _ h R hR
   simp only [zbso, simprocAttr, *]
  ·replace h := zbta M (by omega) (M + 7) (by omega) _ _ _ _ h R hR
   simp only [zbso, simprocAttr, *]
theorem zbsq (q : Nat) (zbs9 : zbsl q) : zbsl (q + 1) := by
 intro M hM j hj v6len v25z v25l v26 v27 h0z h0l r h R hR fr H hc
 obtain ⟨j, rfl⟩ : ∃ i, j = i + 1 := ⟨j - 1, by omega⟩
 rw [zho, hc]; clear hc
 rw [zni] at h
 replace h := br h; rcases h with ⟨h1, h⟩ | ⟨h1, h⟩
 ·replace h := bn h; obtain ⟨h2, h⟩ := h
  replace h := ob h; obtain ⟨e2, h3, h⟩ := h
  replace h := bn h; obtain ⟨h4, h⟩ := h
  replace h := zbs9 M (by omega) j (by omega) _ _ _ _ _ _ _ _ h R hR
  simp only [zbso, simprocAttr, *]
 ·cases h; subst hR; simp only [zbso, simprocAttr, *]
theorem zbsr (q : Nat) (zbtb : zbsn q) : zbsm (q + 1) := by
 intro M hM j hj v25z v25l v26 r h R hR fr H hc
 obtain ⟨j, rfl⟩ : ∃ i, j = i + 1 := ⟨j - 1, by omega⟩
 rw [zho, hc]; clear hc
 rw [znk] at h
 replace h := br h; rcases h with ⟨h1, h⟩ | ⟨h1, h⟩
 ·replace h := ob h; obtain ⟨e3, h2, h⟩ := h
  replace h := bn h; obtain ⟨h3, h⟩ := h
  replace h := zbtb M (by omega) j (by omega) _ _ _ _ _ _ _ h R hR
  simp only [zbso, simprocAttr, *]
 ·cases h; subst hR; simp only [zbso, simprocAttr, *]
theorem zbss (q : Nat) (zbtb : zbsn q) : zbsn (q + 1) := by
 intro M hM j hj v25z v25l v26 v27 h0z h0l r h R hR fr H hc
 obtain ⟨j, rfl⟩ : ∃ i, j = i + 1 := ⟨j - 1, by omega⟩
 rw [zho, hc]; clear hc
 rw [znj] at h
 replace h := br h; rcases h with ⟨h1, h⟩ | ⟨h1, h⟩
 ·replace h := bn h; obtain ⟨h2, h⟩ := h
  replace h := ob h; obtain ⟨e4, h3, h⟩ := h
  replace h := bn h; obtain ⟨h4, h⟩ := h
  replace h := zbtb M (by omega) j (by omega) _ _ _ _ _ _ _ h R hR
  simp only [zbso, simprocAttr, *]
 ·cases h; subst hR; simp only [zbso, simprocAttr, *]
theorem zbst : ∀ q, zbsk q ∧ zbsl q ∧ zbsm q ∧ zbsn q
 | 0 => by refine ⟨?_, ?_, ?_, ?_⟩ <;> (intro M hM j hj; intros; rename_i h _ _ _ _ _; cases h)
 | q + 1 => by have ⟨i0, i1, i2, i3⟩ := zbst q; exact ⟨zbsp q i0 i1 i2, zbsq q i1, zbsr q i3, zbss q i3⟩
theorem zbsu : ∀ (q N : Nat), 8 * q ≤ N → ∀ (a0 : (Sl (Sl Int))), ∀ (r : (Ow Int)), znm q a0 = some r → (orc T N).deep F.znm [(Sl.enc (Sl.enc (V.int .u8))) a0] = some [(Ow.enc 1 (V.int .u8)) r] := by
 intro q N hM a0 r h
 rcases q with _ | q
 ·cases h
 obtain ⟨M, rfl⟩ : ∃ M, N = M + 8 := ⟨N - 8, by omega⟩
 have zbs8 := (zbst q).1
 generalize hR : some [(Ow.enc 1 (V.int .u8)) r] = R
 rw [zhy, z9n, y6, zhw zyl rfl]
 rw [znm] at h
 replace h := zbs8 M (by omega) (M + 7) (by omega) _ _ _ _ _ _ _ _ h R hR
 simp only [zbso, simprocAttr, *]
def zbsv := And.intro @kk <| And.intro @ke <| And.intro @kn <| And.intro @zbcx <| And.intro @zbdl <| And.intro @zbdu <| And.intro @zber <| @zbcz
theorem zbsw : ∀ (q N : Nat), 8 * q ≤ N → ∀ (a0 : (Sl Int)), ∀ (r : (Ow Int) × Int), znn q a0 = some r → (orc T N).deep F.znn [(Sl.enc (V.int .u8)) a0] = some [(Ow.enc 1 (V.int .u8)) r.1, (V.int .i64) r.2] := by
 intro q N hM a0 r h
 rcases q with _ | q
 ·cases h
 obtain ⟨M, rfl⟩ : ∃ M, N = M + 8 := ⟨N - 8, by omega⟩
 generalize hR : some [(Ow.enc 1 (V.int .u8)) r.1, (V.int .i64) r.2] = R
 rw [zhy, z9c, y6, zhw zv9 rfl]
 rw [znn] at h
 replace h := br h; rcases h with ⟨h1, h⟩ | ⟨h1, h⟩
 ·cases h; subst hR; simp only [zbsv, simprocAttr, *]
 ·replace h := ob h; obtain ⟨r1, h2, h⟩ := h
  replace h2 := zbrh q (M + 7) (by omega) _ _ _ h2
  try simp only [kf, simprocAttr] at h2
  replace h := ob h; obtain ⟨r2, h3, h⟩ := h
  replace h3 := zbm6 q (M + 7) (by omega) _ _ _ h3
  try simp only [kf, simprocAttr] at h3
  replace h := ob h; obtain ⟨r3, h4, h⟩ := h
  replace h4 := zbsu q (M + 7) (by omega) _ _ h4
  try simp only [kf, simprocAttr] at h4
  cases h; subst hR; simp only [zbsv, simprocAttr, *]
def zbsx (q : Nat) : Prop := ∀ (M : Nat) (hM : 8 * q ≤ M) (j : Nat) (hj : q ≤ j) (v27z : Bool) (v27l : List Int) (v28 v29 h0_0 h0_1 h0_2 h0_3 : Int) (h0_4z : Bool) (h0_4l : List Int) (h0_5 : Bool) (h0_6 : Int) (h0_7z : Bool) (h0_7l : List zjq) (h1z : Bool) (h1l : List Int) (h1x : Bool) (r : (Ow Int) × Int) (_ : znp q v27z v27l v28 v29 h0_0 h0_1 h0_2 h0_3 h0_4z h0_4l h0_5 h0_6 h0_7z h0_7l h1z h1l h1x = some r) (R : Option (List V)) (_ : some [(Ow.enc 1 (V.int .u8)) r.1, (V.int .i64) r.2] = R) (fr : Fr) (H : Hp) (_ : canon 0 [1, 4, 27, 28, 29] fr H = ([(1, (.ptr 0 0)), (4, (.vw 1 0 0 h1l.length 1)), (27, (.sl v27z (List.map (V.int .i64) v27l))), (28, (.int .i64 v28)), (29, (.int .i64 v29))], [(.box [(.int .i64 h0_0), (.int .i64 h0_1), (.int .i64 h0_2), (.int .i64 h0_3), (.sl h0_4z (List.map (V.int .i64) h0_4l)), (.bool h0_5), (.int .i64 h0_6), (.sl h0_7z (List.map zjq.enc h0_7l))]), (.row 0 h1z 1 (List.map (V.int .u8) h1l) h1x)])), fin zrj (unw T (orc T (M + 7)) (M + 7) 0 [.blk 0, .code zre] (iter 0 [1, 4, 27, 28, 29] (exec T (orc T (M + 7)) (M + 7) 0 zqr) j fr H)) = R
def zbsy (q : Nat) : Prop := ∀ (M : Nat) (hM : 8 * q ≤ M) (j : Nat) (hj : q ≤ j) (v50z : Bool) (v50l : List zjq) (v51 v52 : Int) (h0z : Bool) (h0l : List Int) (h0x : Bool) (r : (Ow Int) × Int) (_ : zno q v50z v50l v51 v52 h0z h0l h0x = some r) (R : Option (List V)) (_ : some [(Ow.enc 1 (V.int .u8)) r.1, (V.int .i64) r.2] = R) (fr : Fr) (H : Hp) (_ : canon 0 [4, 50, 51, 52] fr H = ([(4, (.vw 0 0 0 h0l.length 1)), (50, (.sl v50z (List.map zjq.enc v50l))), (51, (.int .i64 v51)), (52, (.int .i64 v52))], [(.row 0 h0z 1 (List.map (V.int .u8) h0l) h0x)])), fin zrj (unw T (orc T (M + 7)) (M + 7) 0 [.blk 2, .code zra] (iter 0 [4, 50, 51, 52] (exec T (orc T (M + 7)) (M + 7) 0 zq7) j fr H)) = R
def zbsz := And.intro @kk <| And.intro @ke <| And.intro @kn <| And.intro @zba9 <| And.intro @zbcp <| And.intro @zbcs <| And.intro @zbcv <| And.intro @zbcy <| @zbbb
theorem zbs0 (q : Nat) (zbtc : zbsx q) (zbtd : zbsy q) : zbsx (q + 1) := by
 intro M hM j hj v27z v27l v28 v29 h0_0 h0_1 h0_2 h0_3 h0_4z h0_4l h0_5 h0_6 h0_7z h0_7l h1z h1l h1x r h R hR fr H hc
 obtain ⟨j, rfl⟩ : ∃ i, j = i + 1 := ⟨j - 1, by omega⟩
 rw [zho, hc]; clear hc
 rw [znp] at h
 replace h := br h; rcases h with ⟨h1, h⟩ | ⟨h1, h⟩
 ·replace h := bn h; obtain ⟨h2, h⟩ := h
  replace h := ob h; obtain ⟨e3, h3, h⟩ := h
  replace h := ob h; obtain ⟨r4, h4, h⟩ := h
  replace h4 := zbrs q (M + 7) (by omega) _ _ _ h4
  try simp only [kf, simprocAttr] at h4
  replace h := zbtc M (by omega) j (by omega) _ _ _ _ _ _ _ _ _ _ _ _ _ _ _ _ _ _ h R hR
  simp only [zbsz, simprocAttr, *]
 ·replace h := bb h; rcases h with ⟨h5', h5, h⟩ | ⟨h5', h5, h⟩
  ·replace h := ob h; obtain ⟨r5, h6, h⟩ := h
   replace h6 := zbro q (M + 7) (by omega) _ _ _ h6
   try simp only [kf, simprocAttr] at h6
   replace h := zbtd M (by omega) (M + 7) (by omega) _ _ _ _ _ _ _ _ h R hR
   simp only [zbsz, simprocAttr, *]
  ·replace h := ob h; obtain ⟨r6, h7, h⟩ := h
   replace h7 := zbro q (M + 7) (by omega) _ _ _ h7
   try simp only [kf, simprocAttr] at h7
   replace h := zbtd M (by omega) (M + 7) (by omega) _ _ _ _ _ _ _ _ h R hR
   simp only [zbsz, simprocAttr, *]
theorem zbs1 (q : Nat) (zbtd : zbsy q) : zbsy (q + 1) := by
 intro M hM j hj v50z v50l v51 v52 h0z h0l h0x r h R hR fr H hc
 obtain ⟨j, rfl⟩ : ∃ i, j = i + 1 := ⟨j - 1, by omega⟩
 rw [zho, hc]; clear hc
 rw [zno] at h
 replace h := br h; rcases h with ⟨h1, h⟩ | ⟨h1, h⟩
 ·replace h := bn h; obtain ⟨h2, h⟩ := h
  replace h := ob h; obtain ⟨e7, h3, h⟩ := h
  replace h := ob h; obtain ⟨r8, h4, h⟩ := h
  replace h4 := zbro q (M + 7) (by omega) _ _ _ h4
  try simp only [kf, simprocAttr] at h4
  replace h := ob h; obtain ⟨r9, h5, h⟩ := h
  replace h5 := zbrs q (M + 7) (by omega) _ _ _ h5
  try simp only [kf, simprocAttr] at h5
  replace h := zbtd M (by omega) j (by omega) _ _ _ _ _ _ _ _ h R hR
  simp only [zbsz, simprocAttr, *]
 ·replace h := ob h; obtain ⟨r10, h6, h⟩ := h
  replace h6 := zbsw q (M + 7) (by omega) _ _ h6
  try simp only [kf, simprocAttr] at h6
  cases h; subst hR; simp only [zbsz, simprocAttr, *]
theorem zbs2 : ∀ q, zbsx q ∧ zbsy q
 | 0 => by refine ⟨?_, ?_⟩ <;> (intro M hM j hj; intros; rename_i h _ _ _ _ _; cases h)
 | q + 1 => by have ⟨i0, i1⟩ := zbs2 q; exact ⟨zbs0 q i0 i1, zbs1 q i1⟩
theorem zbs3 : ∀ (q N : Nat), 8 * q ≤ N → ∀ (a0 : zjs), ∀ (r : (Ow Int) × Int), znq q a0 = some r → (orc T N).deep F.znq [zjs.enc a0] = some [(Ow.enc 1 (V.int .u8)) r.1, (V.int .i64) r.2] := by
 intro q N hM a0 r h
 rcases q with _ | q
 ·cases h
 obtain ⟨M, rfl⟩ : ∃ M, N = M + 8 := ⟨N - 8, by omega⟩
 have zbtc := (zbs2 q).1
 generalize hR : some [(Ow.enc 1 (V.int .u8)) r.1, (V.int .i64) r.2] = R
 rw [zhy, z8s, y6, zhw zrj rfl]
 rw [znq] at h
 replace h := ob h; obtain ⟨r1, h1, h⟩ := h
 replace h1 := zbq8 q (M + 7) (by omega) _ _ h1
 try simp only [kf, simprocAttr] at h1
 replace h := bb h; rcases h with ⟨h2', h2, h⟩ | ⟨h2', h2, h⟩
 ·replace h := ob h; obtain ⟨r2, h3, h⟩ := h
  replace h3 := zbro q (M + 7) (by omega) _ _ _ h3
  try simp only [kf, simprocAttr] at h3
  replace h := zbtc M (by omega) (M + 7) (by omega) _ _ _ _ _ _ _ _ _ _ _ _ _ _ _ _ _ _ h R hR
  simp only [zbsz, simprocAttr, *]
 ·cases h; subst hR; simp only [zbsz, simprocAttr, *]
def zbs4 := And.intro @kk <| And.intro @ke <| And.intro @kn <| And.intro @zbbf <| And.intro @zbcg <| And.intro @zbdi <| @zbbh
theorem zbs5 : ∀ (q N : Nat), 8 * q ≤ N → ∀ (a0 a1 : zjs), ∀ (r : Bool), znr q a0 a1 = some r → (orc T N).deep F.znr [zjs.enc a0, zjs.enc a1] = some [V.bool r] := by
 intro q N hM a0 a1 r h
 rcases q with _ | q
 ·cases h
 obtain ⟨M, rfl⟩ : ∃ M, N = M + 8 := ⟨N - 8, by omega⟩
 generalize hR : some [V.bool r] = R
 rw [zhy, z8u, y6, zhw zrp rfl]
 rw [znr] at h
 replace h := br h; rcases h with ⟨h1, h⟩ | ⟨h1, h⟩
 ·replace h := br h; rcases h with ⟨h2, h⟩ | ⟨h2, h⟩
  ·replace h := br h; rcases h with ⟨h3, h⟩ | ⟨h3, h⟩
   ·replace h := br h; rcases h with ⟨h4, h⟩ | ⟨h4, h⟩
    ·replace h := ob h; obtain ⟨r1, h5, h⟩ := h
     replace h5 := zblo q (M + 7) (by omega) _ _ _ h5
     try simp only [kf, simprocAttr] at h5
     replace h := bb h; rcases h with ⟨h6', h6, h⟩ | ⟨h6', h6, h⟩
     ·replace h := bb h; rcases h with ⟨h7', h7, h⟩ | ⟨h7', h7, h⟩
      ·replace h := br h; rcases h with ⟨h8, h⟩ | ⟨h8, h⟩
       ·replace h := ob h; obtain ⟨r2, h9, h⟩ := h
        replace h9 := zblv q (M + 7) (by omega) _ _ _ h9
        try simp only [kf, simprocAttr] at h9
        cases h; subst hR; simp only [zbs4, simprocAttr, *]
       ·cases h; subst hR; simp only [zbs4, simprocAttr, *]
      ·cases h; subst hR; simp only [zbs4, simprocAttr, *]
     ·cases h; subst hR; simp only [zbs4, simprocAttr, *]
    ·cases h; subst hR; simp only [zbs4, simprocAttr, *]
   ·cases h; subst hR; simp only [zbs4, simprocAttr, *]
  ·cases h; subst hR; simp only [zbs4, simprocAttr, *]
 ·cases h; subst hR; simp only [zbs4, simprocAttr, *]
def zbs6 := And.intro @kk <| And.intro @ke <| And.intro @kn <| And.intro @zbal <| And.intro @zbap <| And.intro @zbas <| And.intro @zbav <| And.intro @zba1 <| And.intro @zba4 <| And.intro @zba7 <| And.intro @zbba <| And.intro @zbbg <| @zban
theorem zbs7 : ∀ (q N : Nat), 8 * q ≤ N → ∀ (a0 a1 : zjr), ∀ (r : Bool), zns q a0 a1 = some r → (orc T N).deep F.zns [zjr.enc a0, zjr.enc a1] = some [V.bool r] := by
 intro q N hM a0 a1 r h
 rcases q with _ | q
 ·cases h
 obtain ⟨M, rfl⟩ : ∃ M, N = M + 8 := ⟨N - 8, by omega⟩
 generalize hR : some [V.bool r] = R
 rw [zhy, z8k, y6, zhw zob rfl]
 rw [zns] at h
 replace h := ob h; obtain ⟨r1, h1, h⟩ := h
 replace h1 := zblz q (M + 7) (by omega)  _ h1
 replace h := ob h; obtain ⟨r2, h2, h⟩ := h
 replace h2 := zbl3 q (M + 7) (by omega) _ _ h2
 try simp only [kf, simprocAttr] at h2
 replace h := ob h; obtain ⟨r3, h3, h⟩ := h
 replace h3 := zbl3 q (M + 7) (by omega) _ _ h3
 try simp only [kf, simprocAttr] at h3
 replace h := bb h; rcases h with ⟨h4', h4, h⟩ | ⟨h4', h4, h⟩
 ·replace h := bb h; rcases h with ⟨h5', h5, h⟩ | ⟨h5', h5, h⟩
  ·replace h := bb h; rcases h with ⟨h6', h6, h⟩ | ⟨h6', h6, h⟩
   ·replace h := ob h; obtain ⟨r4, h7, h⟩ := h
    replace h7 := zbkh q (M + 7) (by omega) _ _ _ h7
    try simp only [kf, simprocAttr] at h7
    replace h := br h; rcases h with ⟨h8, h⟩ | ⟨h8, h⟩
    ·replace h := ob h; obtain ⟨r5, h9, h⟩ := h
     replace h9 := zbs3 q (M + 7) (by omega) _ _ h9
     try simp only [kf, simprocAttr] at h9
     replace h := ob h; obtain ⟨r6, h10, h⟩ := h
     replace h10 := zbra q (M + 7) (by omega) _ _ h10
     try simp only [kf, simprocAttr] at h10
     replace h := ob h; obtain ⟨r7, h11, h⟩ := h
     replace h11 := zblj q (M + 7) (by omega) _ _ _ h11
     try simp only [kf, simprocAttr] at h11
     replace h := br h; rcases h with ⟨h12, h⟩ | ⟨h12, h⟩
     ·replace h := br h; rcases h with ⟨h13, h⟩ | ⟨h13, h⟩
      ·replace h := br h; rcases h with ⟨h14, h⟩ | ⟨h14, h⟩
       ·replace h := ob h; obtain ⟨r8, h15, h⟩ := h
        replace h15 := zbs5 q (M + 7) (by omega) _ _ _ h15
        try simp only [kf, simprocAttr] at h15
        replace h := bb h; rcases h with ⟨h16', h16, h⟩ | ⟨h16', h16, h⟩
        ·replace h := ob h; obtain ⟨r9, h17, h⟩ := h
         replace h17 := zblx q (M + 7) (by omega) _ _ _ h17
         try simp only [kf, simprocAttr] at h17
         cases h; subst hR; simp only [zbs6, simprocAttr, *]
        ·cases h; subst hR; simp only [zbs6, simprocAttr, *]
       ·cases h; subst hR; simp only [zbs6, simprocAttr, *]
      ·cases h; subst hR; simp only [zbs6, simprocAttr, *]
     ·cases h; subst hR; simp only [zbs6, simprocAttr, *]
    ·cases h; subst hR; simp only [zbs6, simprocAttr, *]
   ·cases h; subst hR; simp only [zbs6, simprocAttr, *]
  ·cases h; subst hR; simp only [zbs6, simprocAttr, *]
 ·cases h; subst hR; simp only [zbs6, simprocAttr, *]
end Go.Dvm.C
